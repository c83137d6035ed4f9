/- The given functions as plain functions, as the printer told them. -/
import Derived.Test.YtdnjkjfccdcfkaaPart4
namespace Sym
open Go

abbrev S_api_Payment : Type := (I .u64) × (U × Unit)
noncomputable abbrev Z_S_api_Payment : S_api_Payment := ((I.of .u64 0), (Z_U, ()))
abbrev S_pontagelaw16_Call : Type := (I .i64) × ((I .u64) × (U × (U × (Bool × (Bool × ((I .u64) × Unit))))))
noncomputable abbrev Z_S_pontagelaw16_Call : S_pontagelaw16_Call := ((I.of .i64 0), ((I.of .u64 0), (Z_U, (Z_U, (false, (false, ((I.of .u64 0), ())))))))

/-- pontage/poster.sum -/
noncomputable def poster_sum (x : (⟨[.pl (.arr 4 (.int .u64)), .pl (.arr 4 (.int .u64))], []⟩ : Tm).D) : Option (⟨[.pl (.arr 5 (.int .u64))], []⟩ : Tm).D :=
 let a : U := x.1.1
 let b : U := x.1.2.1
 iter (none) (fun x0 =>
   brn (@I.ltb .i64 x0.1.2.1 (I.of .i64 4))
    (brn (@inB .i64 x0.1.2.1 4)
     (brn (@inB .i64 x0.1.2.1 4)
      (optF (.done (none)) (add64F (((@Arr.sel (I .u64) (I.of .u64 0) 4 x0.2.1 (@I.nat .i64 x0.1.2.1)), ((@Arr.sel (I .u64) (I.of .u64 0) 4 x0.2.2.1 (@I.nat .i64 x0.1.2.1)), (x0.1.1, ()))), ())) fun y1 =>
      brn (@inB .i64 x0.1.2.1 5)
       (.again ((y1.1.2.1, ((@I.add .i64 x0.1.2.1 (I.of .i64 1)), ())), (x0.2.1, (x0.2.2.1, (x0.2.2.2.1, ((@Arr.upd (I .u64) 5 x0.2.2.2.2.1 (@I.nat .i64 x0.1.2.1) y1.1.1), ()))))))
       (.done (none)))
      (.done (none)))
     (.done (none)))
    (.done (some (((x0.2.2.2.2.1.1, (x0.2.2.2.2.1.2.1, (x0.2.2.2.2.1.2.2.1, (x0.2.2.2.2.1.2.2.2.1, (x0.1.1, ()))))), ()), ()))))
 K0 (((I.of .u64 0), ((I.of .i64 0), ())), (a, (b, (((I.of .u64 0), Z_U), (((I.of .u64 0), Z_U), ())))))

/-- pontage/poster.isZero -/
noncomputable def poster_isZero (x : (⟨[.pl (.arr 4 (.int .u64))], []⟩ : Tm).D) : Option (⟨[.pl .bool], []⟩ : Tm).D :=
 let a : U := x.1.1
 some (((Ty.eqb (.arr 4 (.int .u64)) a Z_U), ()), ())

/-- pontage/poster.Valid -/
noncomputable def poster_Valid (x : (⟨[.pl (.sl (.cons (.int .u64) (.cons (.arr 4 (.int .u64)) (.cons (.arr 4 (.int .u64)) (.cons (.arr 4 (.int .u64)) (.cons (.arr 4 (.int .u64)) (.cons (.int .u64) .nil)))))))], []⟩ : Tm).D) : Option (⟨[.pl .bool], []⟩ : Tm).D :=
 let a : (List S_api_Poster) := x.1.1
 iter (none) (fun x0 =>
   brn (@I.ltb .i64 x0.1.2.2.2.1 x0.1.2.2.1)
    (brn (@inB .i64 x0.1.2.2.2.1 (@lenL S_api_Poster x0.1.2.1))
     (jn (fun (x1 : (((List S_api_Poster) × ((List S_api_Poster) × ((I .i64) × ((I .i64) × ((I .i64) × (Bool × (Bool × (Bool × Unit)))))))) × (S_api_Poster × Unit))) =>
       optF (.done (none)) (poster_sum ((x1.2.1.2.1, (x1.2.1.2.2.2.2.1, ())), ())) fun y2 =>
       optF (.done (none)) (poster_sum ((x1.2.1.2.2.1, (x1.2.1.2.2.2.1, ())), ())) fun y3 =>
       brn (bnot (Ty.eqb (.arr 5 (.int .u64)) y2.1.1 y3.1.1))
        (.done (some ((false, ()), ())))
        (optF (.done (none)) (poster_isZero ((x1.2.1.2.1, ()), ())) fun y4 =>
        brn (bnot (Ty.eqb .bool (@I.eqb .u64 x1.2.1.2.2.2.2.2.1 (I.of .u64 0)) y4.1.1))
         (.done (some ((false, ()), ())))
         (.again ((x1.1.1, (x1.1.2.1, (x1.1.2.2.1, ((@I.add .i64 x1.1.2.2.2.1 (I.of .i64 1)), ())))), ())))) fun j1 =>
     brn (@I.eqb .u64 (@rdL S_api_Poster Z_S_api_Poster x0.1.2.1 (@I.nat .i64 x0.1.2.2.2.1)).1 (I.of .u64 0))
      (.done (some ((false, ()), ())))
      (brn (@I.ltb .i64 (I.of .i64 0) x0.1.2.2.2.1)
       (brn (@inB .i64 (@I.sub .i64 x0.1.2.2.2.1 (I.of .i64 1)) (@lenL S_api_Poster x0.1.1))
        (brn (@I.leb .u64 (@rdL S_api_Poster Z_S_api_Poster x0.1.2.1 (@I.nat .i64 x0.1.2.2.2.1)).1 (@rdL S_api_Poster Z_S_api_Poster x0.1.1 (@I.nat .i64 (@I.sub .i64 x0.1.2.2.2.1 (I.of .i64 1)))).1)
         (.done (some ((false, ()), ())))
         (j1 ((x0.1.1, (x0.1.2.1, (x0.1.2.2.1, (x0.1.2.2.2.1, (x0.1.2.2.2.1, ((@I.ltb .i64 (I.of .i64 0) x0.1.2.2.2.1), (true, ((@I.leb .u64 (@rdL S_api_Poster Z_S_api_Poster x0.1.2.1 (@I.nat .i64 x0.1.2.2.2.1)).1 (@rdL S_api_Poster Z_S_api_Poster x0.1.1 (@I.nat .i64 (@I.sub .i64 x0.1.2.2.2.1 (I.of .i64 1)))).1), ())))))))), ((@rdL S_api_Poster Z_S_api_Poster x0.1.2.1 (@I.nat .i64 x0.1.2.2.2.1)), ()))))
        (.done (none)))
       (j1 ((x0.1.1, (x0.1.2.1, (x0.1.2.2.1, (x0.1.2.2.2.1, (x0.1.2.2.2.1, ((@I.ltb .i64 (I.of .i64 0) x0.1.2.2.2.1), (false, (false, ())))))))), ((@rdL S_api_Poster Z_S_api_Poster x0.1.2.1 (@I.nat .i64 x0.1.2.2.2.1)), ())))))
     (.done (none)))
    (.done (some (((@I.leb .i64 (I.ofNat .i64 (@lenL S_api_Poster x0.1.1)) (I.of .i64 64)), ()), ()))))
 K0 ((a, (a, ((I.ofNat .i64 (@lenL S_api_Poster a)), ((I.of .i64 0), ())))), ())

/-- pontage/payout.Plan -/
noncomputable def payout_Plan (x : (⟨[.pl (.sl (.cons (.int .u64) (.cons (.arr 4 (.int .u64)) (.cons (.arr 4 (.int .u64)) (.cons (.arr 4 (.int .u64)) (.cons (.arr 4 (.int .u64)) (.cons (.int .u64) .nil))))))), .pl (.arr 4 (.int .u64))], []⟩ : Tm).D) : Option (⟨[.pl (.sl (.cons (.int .u64) (.cons (.arr 4 (.int .u64)) .nil))), .pl (.int .i64)], []⟩ : Tm).D :=
 let a : (List S_api_Poster) := x.1.1
 let b : U := x.1.2.1
 optF (none) (poster_Valid ((a, ()), ())) fun y0 =>
 brn (bnot y0.1.1)
  (some (([], ((I.of .i64 2), ())), ()))
  (optF (none) (debtqueue_New ((a, ()), ())) fun y1 =>
  optF (none) (debtqueue_Queue_Pop ((), (((), y1.2.1.2), (y1.2.2.1, ())))) fun y2 =>
  iter (none) (fun x3 =>
    jn (fun (x4 : ((U × (U × (Bool × Unit))) × (U × ((List S_api_Payment) × ((Unit × Unit) × ((List S_debtqueue_item) × (S_api_Poster × Unit))))))) =>
      optF (.done (none)) (uint256_Min ((x4.2.2.2.2.2.1.2.1, ((x4.2.1 :: []), ())), ())) fun y5 =>
      optF (.done (none)) (uint256_SaturatingSub ((x4.2.1, (y5.1.1, ())), ())) fun y6 =>
      brn (fitsLen (@lenL S_api_Payment (@appL S_api_Payment x4.2.2.1 ((x4.2.2.2.2.2.1.1, (y5.1.1, ())) :: []))))
       (optF (.done (none)) (debtqueue_Queue_Pop ((), (((), x4.2.2.2.1.2), (x4.2.2.2.2.1, ())))) fun y7 =>
       .again ((y7.1.2.1, ()), (y6.1.1, ((@appL S_api_Payment x4.2.2.1 ((x4.2.2.2.2.2.1.1, (y5.1.1, ())) :: [])), (((), y7.2.1.2), (y7.2.2.1, (y7.1.1, ())))))))
       (.done (none))) fun j4 =>
    brn x3.1.1
     (brn (bnot (Ty.eqb (.arr 4 (.int .u64)) x3.2.1 Z_U))
      (j4 ((x3.2.1, (Z_U, ((bnot (Ty.eqb (.arr 4 (.int .u64)) x3.2.1 Z_U)), ()))), (x3.2.1, (x3.2.2.1, (((), x3.2.2.2.1.2), (x3.2.2.2.2.1, (x3.2.2.2.2.2.1, ())))))))
      (.done (some ((x3.2.2.1, ((I.of .i64 0), ())), ()))))
     (.done (some ((x3.2.2.1, ((I.of .i64 0), ())), ()))))
  K0 ((y2.1.2.1, ()), (b, ([], (((), y2.2.1.2), (y2.2.2.1, (y2.1.1, ())))))))

/-- pontage/pontagelaw20.awake -/
noncomputable def pontagelaw20_awake (x : (⟨[], []⟩ : Tm).D) : Option (⟨[.pl .bool], []⟩ : Tm).D :=
 optF (none) (payout_Plan (((((I.of .u64 5), (((I.of .u64 30), ((I.of .u64 0), ((I.of .u64 0), ((I.of .u64 0), ())))), (((I.of .u64 30), ((I.of .u64 0), ((I.of .u64 0), ((I.of .u64 0), ())))), (Z_U, (Z_U, ((I.of .u64 2), ())))))) :: (((I.of .u64 6), (((I.of .u64 50), ((I.of .u64 0), ((I.of .u64 0), ((I.of .u64 0), ())))), (((I.of .u64 50), ((I.of .u64 0), ((I.of .u64 0), ((I.of .u64 0), ())))), (Z_U, (Z_U, ((I.of .u64 1), ())))))) :: [])), (((I.of .u64 60), ((I.of .u64 0), ((I.of .u64 0), ((I.of .u64 0), ())))), ())), ())) fun y0 =>
 brn (@I.eqb .i64 y0.1.2.1 (I.of .i64 0))
  (brn (@I.eqb .i64 (I.ofNat .i64 (@lenL S_api_Payment y0.1.1)) (I.of .i64 2))
   (brn (@inB .i64 (I.of .i64 0) (@lenL S_api_Payment y0.1.1))
    (brn (Ty.eqb (.cons (.int .u64) (.cons (.arr 4 (.int .u64)) .nil)) (@rdL S_api_Payment Z_S_api_Payment y0.1.1 0) ((I.of .u64 6), (((I.of .u64 50), ((I.of .u64 0), ((I.of .u64 0), ((I.of .u64 0), ())))), ())))
     (brn (@inB .i64 (I.of .i64 1) (@lenL S_api_Payment y0.1.1))
      (some (((Ty.eqb (.cons (.int .u64) (.cons (.arr 4 (.int .u64)) .nil)) (@rdL S_api_Payment Z_S_api_Payment y0.1.1 1) ((I.of .u64 5), (((I.of .u64 10), ((I.of .u64 0), ((I.of .u64 0), ((I.of .u64 0), ())))), ()))), ()), ()))
      (none))
     (some ((false, ()), ())))
    (none))
   (some ((false, ()), ())))
  (some ((false, ()), ()))

/-- pontage/pontageref16.ValidPoster -/
noncomputable def pontageref16_ValidPoster (x : (⟨[.pl (.cons (.int .u64) (.cons (.arr 4 (.int .u64)) (.cons (.arr 4 (.int .u64)) (.cons (.arr 4 (.int .u64)) (.cons (.arr 4 (.int .u64)) (.cons (.int .u64) .nil))))))], []⟩ : Tm).D) : Option (⟨[.pl .bool], []⟩ : Tm).D :=
 let a : S_api_Poster := x.1.1
 optF (none) (pontageref1_FromUint256 ((a.2.1, ()), ())) fun y0 =>
 optF (none) (pontageref1_FromUint256 ((a.2.2.2.2.1, ()), ())) fun y1 =>
 optF (none) (pontageref1_Add ((y0.1.1, (y1.1.1, ())), ())) fun y2 =>
 optF (none) (pontageref1_FromUint256 ((a.2.2.1, ()), ())) fun y3 =>
 optF (none) (pontageref1_FromUint256 ((a.2.2.2.1, ()), ())) fun y4 =>
 optF (none) (pontageref1_Add ((y3.1.1, (y4.1.1, ())), ())) fun y5 =>
 brn (@I.neb .u64 a.1 (I.of .u64 0))
  (optF (none) (pontageref1_Cmp ((y2.1.1, (y5.1.1, ())), ())) fun y6 =>
  brn (@I.eqb .i64 y6.1.1 (I.of .i64 0))
   (optF (none) (pontageref1_IsZero ((a.2.1, ()), ())) fun y7 =>
   some (((Ty.eqb .bool (@I.eqb .u64 a.2.2.2.2.2.1 (I.of .u64 0)) y7.1.1), ()), ()))
   (some ((false, ()), ())))
  (some ((false, ()), ()))

/-- pontage/pontageref16.Valid -/
noncomputable def pontageref16_Valid (x : (⟨[.pl (.sl (.cons (.int .u64) (.cons (.arr 4 (.int .u64)) (.cons (.arr 4 (.int .u64)) (.cons (.arr 4 (.int .u64)) (.cons (.arr 4 (.int .u64)) (.cons (.int .u64) .nil)))))))], []⟩ : Tm).D) : Option (⟨[.pl .bool], []⟩ : Tm).D :=
 let a : (List S_api_Poster) := x.1.1
 brn (@I.ltb .i64 (I.of .i64 64) (I.ofNat .i64 (@lenL S_api_Poster a)))
  (some ((false, ()), ()))
  (iter (none) (fun x0 =>
    brn (@I.ltb .i64 x0.1.2.1 (I.ofNat .i64 (@lenL S_api_Poster x0.1.1)))
     (brn (@inB .i64 x0.1.2.1 (@lenL S_api_Poster x0.1.1))
      (optF (.done (none)) (pontageref16_ValidPoster (((@rdL S_api_Poster Z_S_api_Poster x0.1.1 (@I.nat .i64 x0.1.2.1)), ()), ())) fun y1 =>
      brn (bnot y1.1.1)
       (.done (some ((false, ()), ())))
       (brn (@I.ltb .i64 (I.of .i64 0) x0.1.2.1)
        (brn (@inB .i64 x0.1.2.1 (@lenL S_api_Poster x0.1.1))
         (brn (@inB .i64 (@I.sub .i64 x0.1.2.1 (I.of .i64 1)) (@lenL S_api_Poster x0.1.1))
          (brn (@I.leb .u64 (@rdL S_api_Poster Z_S_api_Poster x0.1.1 (@I.nat .i64 x0.1.2.1)).1 (@rdL S_api_Poster Z_S_api_Poster x0.1.1 (@I.nat .i64 (@I.sub .i64 x0.1.2.1 (I.of .i64 1)))).1)
           (.done (some ((false, ()), ())))
           (.again ((x0.1.1, ((@I.add .i64 x0.1.2.1 (I.of .i64 1)), ())), ())))
          (.done (none)))
         (.done (none)))
        (.again ((x0.1.1, ((@I.add .i64 x0.1.2.1 (I.of .i64 1)), ())), ()))))
      (.done (none)))
     (.done (some ((true, ()), ()))))
  K0 ((a, ((I.of .i64 0), ())), ()))

/-- pontage/pontageref16.Find -/
noncomputable def pontageref16_Find (x : (⟨[.pl (.sl (.cons (.int .u64) (.cons (.arr 4 (.int .u64)) (.cons (.arr 4 (.int .u64)) (.cons (.arr 4 (.int .u64)) (.cons (.arr 4 (.int .u64)) (.cons (.int .u64) .nil))))))), .pl (.int .u64)], []⟩ : Tm).D) : Option (⟨[.pl (.int .i64)], []⟩ : Tm).D :=
 let a : (List S_api_Poster) := x.1.1
 let b : (I .u64) := x.1.2.1
 iter (none) (fun x0 =>
   brn (@I.ltb .i64 x0.1.2.2.1 (I.ofNat .i64 (@lenL S_api_Poster x0.1.1)))
    (brn (@inB .i64 x0.1.2.2.1 (@lenL S_api_Poster x0.1.1))
     (brn (@I.eqb .u64 (@rdL S_api_Poster Z_S_api_Poster x0.1.1 (@I.nat .i64 x0.1.2.2.1)).1 x0.1.2.1)
      (.done (some ((x0.1.2.2.1, ()), ())))
      (.again ((x0.1.1, (x0.1.2.1, ((@I.add .i64 x0.1.2.2.1 (I.of .i64 1)), ()))), ())))
     (.done (none)))
    (.done (some (((I.of .i64 (-1)), ()), ()))))
 K0 ((a, (b, ((I.of .i64 0), ()))), ())

/-- pontage/pontageref16.Add -/
noncomputable def pontageref16_Add (x : (⟨[.pl (.sl (.cons (.int .u64) (.cons (.arr 4 (.int .u64)) (.cons (.arr 4 (.int .u64)) (.cons (.arr 4 (.int .u64)) (.cons (.arr 4 (.int .u64)) (.cons (.int .u64) .nil))))))), .pl (.int .u64)], []⟩ : Tm).D) : Option (⟨[.pl (.sl (.cons (.int .u64) (.cons (.arr 4 (.int .u64)) (.cons (.arr 4 (.int .u64)) (.cons (.arr 4 (.int .u64)) (.cons (.arr 4 (.int .u64)) (.cons (.int .u64) .nil))))))), .pl (.int .i64)], []⟩ : Tm).D :=
 let a : (List S_api_Poster) := x.1.1
 let b : (I .u64) := x.1.2.1
 jn (fun (x0 : (((List S_api_Poster) × ((I .u64) × Unit)) × Unit)) =>
   optF (none) (pontageref16_Find ((x0.1.1, (x0.1.2.1, ())), ())) fun y1 =>
   brn (@I.leb .i64 (I.of .i64 0) y1.1.1)
    (some (([], ((I.of .i64 9), ())), ()))
    (brn (@I.leb .i64 (I.of .i64 64) (I.ofNat .i64 (@lenL S_api_Poster x0.1.1)))
     (some (([], ((I.of .i64 7), ())), ()))
     (iter (none) (fun x2 =>
       brn (@I.ltb .i64 x2.1.2.2.2.1 (I.ofNat .i64 (@lenL S_api_Poster x2.1.1)))
        (jn (fun (x3 : (((List S_api_Poster) × ((I .u64) × (Bool × ((I .i64) × (Bool × Unit))))) × ((List S_api_Poster) × Unit))) =>
          brn x3.1.2.2.2.2.1
           (brn (fitsLen (@lenL S_api_Poster (@appL S_api_Poster x3.2.1 ((x3.1.2.1, (Z_U, (Z_U, (Z_U, (Z_U, ((I.of .u64 0), ())))))) :: []))))
            (brn (@inB .i64 x3.1.2.2.2.1 (@lenL S_api_Poster x3.1.1))
             (brn (fitsLen (@lenL S_api_Poster (@appL S_api_Poster (@appL S_api_Poster x3.2.1 ((x3.1.2.1, (Z_U, (Z_U, (Z_U, (Z_U, ((I.of .u64 0), ())))))) :: [])) ((@rdL S_api_Poster Z_S_api_Poster x3.1.1 (@I.nat .i64 x3.1.2.2.2.1)) :: []))))
              (.again ((x3.1.1, (x3.1.2.1, (true, ((@I.add .i64 x3.1.2.2.2.1 (I.of .i64 1)), ())))), ((@appL S_api_Poster (@appL S_api_Poster x3.2.1 ((x3.1.2.1, (Z_U, (Z_U, (Z_U, (Z_U, ((I.of .u64 0), ())))))) :: [])) ((@rdL S_api_Poster Z_S_api_Poster x3.1.1 (@I.nat .i64 x3.1.2.2.2.1)) :: [])), ())))
              (.done (none)))
             (.done (none)))
            (.done (none)))
           (brn (@inB .i64 x3.1.2.2.2.1 (@lenL S_api_Poster x3.1.1))
            (brn (fitsLen (@lenL S_api_Poster (@appL S_api_Poster x3.2.1 ((@rdL S_api_Poster Z_S_api_Poster x3.1.1 (@I.nat .i64 x3.1.2.2.2.1)) :: []))))
             (.again ((x3.1.1, (x3.1.2.1, (x3.1.2.2.1, ((@I.add .i64 x3.1.2.2.2.1 (I.of .i64 1)), ())))), ((@appL S_api_Poster x3.2.1 ((@rdL S_api_Poster Z_S_api_Poster x3.1.1 (@I.nat .i64 x3.1.2.2.2.1)) :: [])), ())))
             (.done (none)))
            (.done (none)))) fun j3 =>
        brn (bnot x2.1.2.2.1)
         (brn (@inB .i64 x2.1.2.2.2.1 (@lenL S_api_Poster x2.1.1))
          (j3 ((x2.1.1, (x2.1.2.1, (x2.1.2.2.1, (x2.1.2.2.2.1, ((@I.ltb .u64 x2.1.2.1 (@rdL S_api_Poster Z_S_api_Poster x2.1.1 (@I.nat .i64 x2.1.2.2.2.1)).1), ()))))), (x2.2.1, ())))
          (.done (none)))
         (j3 ((x2.1.1, (x2.1.2.1, (x2.1.2.2.1, (x2.1.2.2.2.1, (false, ()))))), (x2.2.1, ()))))
        (.done (brn (bnot x2.1.2.2.1)
         (brn (fitsLen (@lenL S_api_Poster (@appL S_api_Poster x2.2.1 ((x2.1.2.1, (Z_U, (Z_U, (Z_U, (Z_U, ((I.of .u64 0), ())))))) :: []))))
          (some (((@appL S_api_Poster x2.2.1 ((x2.1.2.1, (Z_U, (Z_U, (Z_U, (Z_U, ((I.of .u64 0), ())))))) :: [])), ((I.of .i64 0), ())), ()))
          (none))
         (some ((x2.2.1, ((I.of .i64 0), ())), ())))))
     K0 ((x0.1.1, (x0.1.2.1, (false, ((I.of .i64 0), ())))), ([], ()))))) fun j0 =>
 optF (none) (pontageref16_Valid ((a, ()), ())) fun y1 =>
 brn (bnot y1.1.1)
  (some (([], ((I.of .i64 2), ())), ()))
  (brn (@I.eqb .u64 b (I.of .u64 0))
   (some (([], ((I.of .i64 2), ())), ()))
   (j0 ((a, (b, ())), ())))

/-- pontage/pontageref1.Sub256 -/
noncomputable def pontageref1_Sub256 (x : (⟨[.pl (.arr 4 (.int .u64)), .pl (.arr 4 (.int .u64))], []⟩ : Tm).D) : Option (⟨[.pl (.arr 4 (.int .u64)), .pl (.int .i64)], []⟩ : Tm).D :=
 let a : U := x.1.1
 let b : U := x.1.2.1
 optF (none) (pontageref1_FromUint256 ((a, ()), ())) fun y0 =>
 optF (none) (pontageref1_FromUint256 ((b, ()), ())) fun y1 =>
 optF (none) (pontageref1_Cmp ((y0.1.1, (y1.1.1, ())), ())) fun y2 =>
 brn (@I.ltb .i64 y2.1.1 (I.of .i64 0))
  (some ((Z_U, ((I.of .i64 4), ())), ()))
  (optF (none) (pontageref1_Sub ((y0.1.1, (y1.1.1, ())), ())) fun y3 =>
  optF (none) (pontageref1_ToUint256 ((y3.1.1, ()), ())) fun y4 =>
  some ((y4.1.1, ((I.of .i64 0), ())), ()))

/-- pontage/pontageref1.Add256 -/
noncomputable def pontageref1_Add256 (x : (⟨[.pl (.arr 4 (.int .u64)), .pl (.arr 4 (.int .u64))], []⟩ : Tm).D) : Option (⟨[.pl (.arr 4 (.int .u64)), .pl (.int .i64)], []⟩ : Tm).D :=
 let a : U := x.1.1
 let b : U := x.1.2.1
 optF (none) (pontageref1_FromUint256 ((a, ()), ())) fun y0 =>
 optF (none) (pontageref1_FromUint256 ((b, ()), ())) fun y1 =>
 optF (none) (pontageref1_Add ((y0.1.1, (y1.1.1, ())), ())) fun y2 =>
 optF (none) (pontageref1_Checked ((y2.1.1, ()), ())) fun y3 =>
 some ((y3.1.1, (y3.1.2.1, ())), ())

/-- pontage/pontageref16.Settle -/
noncomputable def pontageref16_Settle (x : (⟨[.pl (.sl (.cons (.int .u64) (.cons (.arr 4 (.int .u64)) (.cons (.arr 4 (.int .u64)) (.cons (.arr 4 (.int .u64)) (.cons (.arr 4 (.int .u64)) (.cons (.int .u64) .nil))))))), .pl (.int .u64), .pl (.arr 4 (.int .u64))], []⟩ : Tm).D) : Option (⟨[.pl (.sl (.cons (.int .u64) (.cons (.arr 4 (.int .u64)) (.cons (.arr 4 (.int .u64)) (.cons (.arr 4 (.int .u64)) (.cons (.arr 4 (.int .u64)) (.cons (.int .u64) .nil))))))), .pl (.int .i64)], []⟩ : Tm).D :=
 let a : (List S_api_Poster) := x.1.1
 let b : (I .u64) := x.1.2.1
 let c : U := x.1.2.2.1
 optF (none) (pontageref16_Valid ((a, ()), ())) fun y0 =>
 brn (bnot y0.1.1)
  (some (([], ((I.of .i64 2), ())), ()))
  (optF (none) (pontageref16_Find ((a, (b, ())), ())) fun y1 =>
  brn (@I.ltb .i64 y1.1.1 (I.of .i64 0))
   (some (([], ((I.of .i64 8), ())), ()))
   (brn (fitsLen (@lenL S_api_Poster (@appL S_api_Poster [] a)))
    (brn (@inB .i64 y1.1.1 (@lenL S_api_Poster (@appL S_api_Poster [] a)))
     (optF (none) (pontageref1_Sub256 (((@rdL S_api_Poster Z_S_api_Poster (@appL S_api_Poster [] a) (@I.nat .i64 y1.1.1)).2.1, (c, ())), ())) fun y2 =>
     brn (@I.neb .i64 y2.1.2.1 (I.of .i64 0))
      (some (([], ((I.of .i64 10), ())), ()))
      (optF (none) (pontageref1_Add256 (((@rdL S_api_Poster Z_S_api_Poster (@appL S_api_Poster [] a) (@I.nat .i64 y1.1.1)).2.2.2.2.1, (c, ())), ())) fun y3 =>
      brn (@I.neb .i64 y3.1.2.1 (I.of .i64 0))
       (some (([], (y3.1.2.1, ())), ()))
       (optF (none) (pontageref1_IsZero ((y2.1.1, ()), ())) fun y4 =>
       brn y4.1.1
        (some (((@setL S_api_Poster (@setL S_api_Poster (@setL S_api_Poster (@appL S_api_Poster [] a) (@I.nat .i64 y1.1.1) ((@rdL S_api_Poster Z_S_api_Poster (@appL S_api_Poster [] a) (@I.nat .i64 y1.1.1)).1, (y2.1.1, (@rdL S_api_Poster Z_S_api_Poster (@appL S_api_Poster [] a) (@I.nat .i64 y1.1.1)).2.2))) (@I.nat .i64 y1.1.1) ((@rdL S_api_Poster Z_S_api_Poster (@setL S_api_Poster (@appL S_api_Poster [] a) (@I.nat .i64 y1.1.1) ((@rdL S_api_Poster Z_S_api_Poster (@appL S_api_Poster [] a) (@I.nat .i64 y1.1.1)).1, (y2.1.1, (@rdL S_api_Poster Z_S_api_Poster (@appL S_api_Poster [] a) (@I.nat .i64 y1.1.1)).2.2))) (@I.nat .i64 y1.1.1)).1, ((@rdL S_api_Poster Z_S_api_Poster (@setL S_api_Poster (@appL S_api_Poster [] a) (@I.nat .i64 y1.1.1) ((@rdL S_api_Poster Z_S_api_Poster (@appL S_api_Poster [] a) (@I.nat .i64 y1.1.1)).1, (y2.1.1, (@rdL S_api_Poster Z_S_api_Poster (@appL S_api_Poster [] a) (@I.nat .i64 y1.1.1)).2.2))) (@I.nat .i64 y1.1.1)).2.1, ((@rdL S_api_Poster Z_S_api_Poster (@setL S_api_Poster (@appL S_api_Poster [] a) (@I.nat .i64 y1.1.1) ((@rdL S_api_Poster Z_S_api_Poster (@appL S_api_Poster [] a) (@I.nat .i64 y1.1.1)).1, (y2.1.1, (@rdL S_api_Poster Z_S_api_Poster (@appL S_api_Poster [] a) (@I.nat .i64 y1.1.1)).2.2))) (@I.nat .i64 y1.1.1)).2.2.1, ((@rdL S_api_Poster Z_S_api_Poster (@setL S_api_Poster (@appL S_api_Poster [] a) (@I.nat .i64 y1.1.1) ((@rdL S_api_Poster Z_S_api_Poster (@appL S_api_Poster [] a) (@I.nat .i64 y1.1.1)).1, (y2.1.1, (@rdL S_api_Poster Z_S_api_Poster (@appL S_api_Poster [] a) (@I.nat .i64 y1.1.1)).2.2))) (@I.nat .i64 y1.1.1)).2.2.2.1, (y3.1.1, (@rdL S_api_Poster Z_S_api_Poster (@setL S_api_Poster (@appL S_api_Poster [] a) (@I.nat .i64 y1.1.1) ((@rdL S_api_Poster Z_S_api_Poster (@appL S_api_Poster [] a) (@I.nat .i64 y1.1.1)).1, (y2.1.1, (@rdL S_api_Poster Z_S_api_Poster (@appL S_api_Poster [] a) (@I.nat .i64 y1.1.1)).2.2))) (@I.nat .i64 y1.1.1)).2.2.2.2.2)))))) (@I.nat .i64 y1.1.1) ((@rdL S_api_Poster Z_S_api_Poster (@setL S_api_Poster (@setL S_api_Poster (@appL S_api_Poster [] a) (@I.nat .i64 y1.1.1) ((@rdL S_api_Poster Z_S_api_Poster (@appL S_api_Poster [] a) (@I.nat .i64 y1.1.1)).1, (y2.1.1, (@rdL S_api_Poster Z_S_api_Poster (@appL S_api_Poster [] a) (@I.nat .i64 y1.1.1)).2.2))) (@I.nat .i64 y1.1.1) ((@rdL S_api_Poster Z_S_api_Poster (@setL S_api_Poster (@appL S_api_Poster [] a) (@I.nat .i64 y1.1.1) ((@rdL S_api_Poster Z_S_api_Poster (@appL S_api_Poster [] a) (@I.nat .i64 y1.1.1)).1, (y2.1.1, (@rdL S_api_Poster Z_S_api_Poster (@appL S_api_Poster [] a) (@I.nat .i64 y1.1.1)).2.2))) (@I.nat .i64 y1.1.1)).1, ((@rdL S_api_Poster Z_S_api_Poster (@setL S_api_Poster (@appL S_api_Poster [] a) (@I.nat .i64 y1.1.1) ((@rdL S_api_Poster Z_S_api_Poster (@appL S_api_Poster [] a) (@I.nat .i64 y1.1.1)).1, (y2.1.1, (@rdL S_api_Poster Z_S_api_Poster (@appL S_api_Poster [] a) (@I.nat .i64 y1.1.1)).2.2))) (@I.nat .i64 y1.1.1)).2.1, ((@rdL S_api_Poster Z_S_api_Poster (@setL S_api_Poster (@appL S_api_Poster [] a) (@I.nat .i64 y1.1.1) ((@rdL S_api_Poster Z_S_api_Poster (@appL S_api_Poster [] a) (@I.nat .i64 y1.1.1)).1, (y2.1.1, (@rdL S_api_Poster Z_S_api_Poster (@appL S_api_Poster [] a) (@I.nat .i64 y1.1.1)).2.2))) (@I.nat .i64 y1.1.1)).2.2.1, ((@rdL S_api_Poster Z_S_api_Poster (@setL S_api_Poster (@appL S_api_Poster [] a) (@I.nat .i64 y1.1.1) ((@rdL S_api_Poster Z_S_api_Poster (@appL S_api_Poster [] a) (@I.nat .i64 y1.1.1)).1, (y2.1.1, (@rdL S_api_Poster Z_S_api_Poster (@appL S_api_Poster [] a) (@I.nat .i64 y1.1.1)).2.2))) (@I.nat .i64 y1.1.1)).2.2.2.1, (y3.1.1, (@rdL S_api_Poster Z_S_api_Poster (@setL S_api_Poster (@appL S_api_Poster [] a) (@I.nat .i64 y1.1.1) ((@rdL S_api_Poster Z_S_api_Poster (@appL S_api_Poster [] a) (@I.nat .i64 y1.1.1)).1, (y2.1.1, (@rdL S_api_Poster Z_S_api_Poster (@appL S_api_Poster [] a) (@I.nat .i64 y1.1.1)).2.2))) (@I.nat .i64 y1.1.1)).2.2.2.2.2)))))) (@I.nat .i64 y1.1.1)).1, ((@rdL S_api_Poster Z_S_api_Poster (@setL S_api_Poster (@setL S_api_Poster (@appL S_api_Poster [] a) (@I.nat .i64 y1.1.1) ((@rdL S_api_Poster Z_S_api_Poster (@appL S_api_Poster [] a) (@I.nat .i64 y1.1.1)).1, (y2.1.1, (@rdL S_api_Poster Z_S_api_Poster (@appL S_api_Poster [] a) (@I.nat .i64 y1.1.1)).2.2))) (@I.nat .i64 y1.1.1) ((@rdL S_api_Poster Z_S_api_Poster (@setL S_api_Poster (@appL S_api_Poster [] a) (@I.nat .i64 y1.1.1) ((@rdL S_api_Poster Z_S_api_Poster (@appL S_api_Poster [] a) (@I.nat .i64 y1.1.1)).1, (y2.1.1, (@rdL S_api_Poster Z_S_api_Poster (@appL S_api_Poster [] a) (@I.nat .i64 y1.1.1)).2.2))) (@I.nat .i64 y1.1.1)).1, ((@rdL S_api_Poster Z_S_api_Poster (@setL S_api_Poster (@appL S_api_Poster [] a) (@I.nat .i64 y1.1.1) ((@rdL S_api_Poster Z_S_api_Poster (@appL S_api_Poster [] a) (@I.nat .i64 y1.1.1)).1, (y2.1.1, (@rdL S_api_Poster Z_S_api_Poster (@appL S_api_Poster [] a) (@I.nat .i64 y1.1.1)).2.2))) (@I.nat .i64 y1.1.1)).2.1, ((@rdL S_api_Poster Z_S_api_Poster (@setL S_api_Poster (@appL S_api_Poster [] a) (@I.nat .i64 y1.1.1) ((@rdL S_api_Poster Z_S_api_Poster (@appL S_api_Poster [] a) (@I.nat .i64 y1.1.1)).1, (y2.1.1, (@rdL S_api_Poster Z_S_api_Poster (@appL S_api_Poster [] a) (@I.nat .i64 y1.1.1)).2.2))) (@I.nat .i64 y1.1.1)).2.2.1, ((@rdL S_api_Poster Z_S_api_Poster (@setL S_api_Poster (@appL S_api_Poster [] a) (@I.nat .i64 y1.1.1) ((@rdL S_api_Poster Z_S_api_Poster (@appL S_api_Poster [] a) (@I.nat .i64 y1.1.1)).1, (y2.1.1, (@rdL S_api_Poster Z_S_api_Poster (@appL S_api_Poster [] a) (@I.nat .i64 y1.1.1)).2.2))) (@I.nat .i64 y1.1.1)).2.2.2.1, (y3.1.1, (@rdL S_api_Poster Z_S_api_Poster (@setL S_api_Poster (@appL S_api_Poster [] a) (@I.nat .i64 y1.1.1) ((@rdL S_api_Poster Z_S_api_Poster (@appL S_api_Poster [] a) (@I.nat .i64 y1.1.1)).1, (y2.1.1, (@rdL S_api_Poster Z_S_api_Poster (@appL S_api_Poster [] a) (@I.nat .i64 y1.1.1)).2.2))) (@I.nat .i64 y1.1.1)).2.2.2.2.2)))))) (@I.nat .i64 y1.1.1)).2.1, ((@rdL S_api_Poster Z_S_api_Poster (@setL S_api_Poster (@setL S_api_Poster (@appL S_api_Poster [] a) (@I.nat .i64 y1.1.1) ((@rdL S_api_Poster Z_S_api_Poster (@appL S_api_Poster [] a) (@I.nat .i64 y1.1.1)).1, (y2.1.1, (@rdL S_api_Poster Z_S_api_Poster (@appL S_api_Poster [] a) (@I.nat .i64 y1.1.1)).2.2))) (@I.nat .i64 y1.1.1) ((@rdL S_api_Poster Z_S_api_Poster (@setL S_api_Poster (@appL S_api_Poster [] a) (@I.nat .i64 y1.1.1) ((@rdL S_api_Poster Z_S_api_Poster (@appL S_api_Poster [] a) (@I.nat .i64 y1.1.1)).1, (y2.1.1, (@rdL S_api_Poster Z_S_api_Poster (@appL S_api_Poster [] a) (@I.nat .i64 y1.1.1)).2.2))) (@I.nat .i64 y1.1.1)).1, ((@rdL S_api_Poster Z_S_api_Poster (@setL S_api_Poster (@appL S_api_Poster [] a) (@I.nat .i64 y1.1.1) ((@rdL S_api_Poster Z_S_api_Poster (@appL S_api_Poster [] a) (@I.nat .i64 y1.1.1)).1, (y2.1.1, (@rdL S_api_Poster Z_S_api_Poster (@appL S_api_Poster [] a) (@I.nat .i64 y1.1.1)).2.2))) (@I.nat .i64 y1.1.1)).2.1, ((@rdL S_api_Poster Z_S_api_Poster (@setL S_api_Poster (@appL S_api_Poster [] a) (@I.nat .i64 y1.1.1) ((@rdL S_api_Poster Z_S_api_Poster (@appL S_api_Poster [] a) (@I.nat .i64 y1.1.1)).1, (y2.1.1, (@rdL S_api_Poster Z_S_api_Poster (@appL S_api_Poster [] a) (@I.nat .i64 y1.1.1)).2.2))) (@I.nat .i64 y1.1.1)).2.2.1, ((@rdL S_api_Poster Z_S_api_Poster (@setL S_api_Poster (@appL S_api_Poster [] a) (@I.nat .i64 y1.1.1) ((@rdL S_api_Poster Z_S_api_Poster (@appL S_api_Poster [] a) (@I.nat .i64 y1.1.1)).1, (y2.1.1, (@rdL S_api_Poster Z_S_api_Poster (@appL S_api_Poster [] a) (@I.nat .i64 y1.1.1)).2.2))) (@I.nat .i64 y1.1.1)).2.2.2.1, (y3.1.1, (@rdL S_api_Poster Z_S_api_Poster (@setL S_api_Poster (@appL S_api_Poster [] a) (@I.nat .i64 y1.1.1) ((@rdL S_api_Poster Z_S_api_Poster (@appL S_api_Poster [] a) (@I.nat .i64 y1.1.1)).1, (y2.1.1, (@rdL S_api_Poster Z_S_api_Poster (@appL S_api_Poster [] a) (@I.nat .i64 y1.1.1)).2.2))) (@I.nat .i64 y1.1.1)).2.2.2.2.2)))))) (@I.nat .i64 y1.1.1)).2.2.1, ((@rdL S_api_Poster Z_S_api_Poster (@setL S_api_Poster (@setL S_api_Poster (@appL S_api_Poster [] a) (@I.nat .i64 y1.1.1) ((@rdL S_api_Poster Z_S_api_Poster (@appL S_api_Poster [] a) (@I.nat .i64 y1.1.1)).1, (y2.1.1, (@rdL S_api_Poster Z_S_api_Poster (@appL S_api_Poster [] a) (@I.nat .i64 y1.1.1)).2.2))) (@I.nat .i64 y1.1.1) ((@rdL S_api_Poster Z_S_api_Poster (@setL S_api_Poster (@appL S_api_Poster [] a) (@I.nat .i64 y1.1.1) ((@rdL S_api_Poster Z_S_api_Poster (@appL S_api_Poster [] a) (@I.nat .i64 y1.1.1)).1, (y2.1.1, (@rdL S_api_Poster Z_S_api_Poster (@appL S_api_Poster [] a) (@I.nat .i64 y1.1.1)).2.2))) (@I.nat .i64 y1.1.1)).1, ((@rdL S_api_Poster Z_S_api_Poster (@setL S_api_Poster (@appL S_api_Poster [] a) (@I.nat .i64 y1.1.1) ((@rdL S_api_Poster Z_S_api_Poster (@appL S_api_Poster [] a) (@I.nat .i64 y1.1.1)).1, (y2.1.1, (@rdL S_api_Poster Z_S_api_Poster (@appL S_api_Poster [] a) (@I.nat .i64 y1.1.1)).2.2))) (@I.nat .i64 y1.1.1)).2.1, ((@rdL S_api_Poster Z_S_api_Poster (@setL S_api_Poster (@appL S_api_Poster [] a) (@I.nat .i64 y1.1.1) ((@rdL S_api_Poster Z_S_api_Poster (@appL S_api_Poster [] a) (@I.nat .i64 y1.1.1)).1, (y2.1.1, (@rdL S_api_Poster Z_S_api_Poster (@appL S_api_Poster [] a) (@I.nat .i64 y1.1.1)).2.2))) (@I.nat .i64 y1.1.1)).2.2.1, ((@rdL S_api_Poster Z_S_api_Poster (@setL S_api_Poster (@appL S_api_Poster [] a) (@I.nat .i64 y1.1.1) ((@rdL S_api_Poster Z_S_api_Poster (@appL S_api_Poster [] a) (@I.nat .i64 y1.1.1)).1, (y2.1.1, (@rdL S_api_Poster Z_S_api_Poster (@appL S_api_Poster [] a) (@I.nat .i64 y1.1.1)).2.2))) (@I.nat .i64 y1.1.1)).2.2.2.1, (y3.1.1, (@rdL S_api_Poster Z_S_api_Poster (@setL S_api_Poster (@appL S_api_Poster [] a) (@I.nat .i64 y1.1.1) ((@rdL S_api_Poster Z_S_api_Poster (@appL S_api_Poster [] a) (@I.nat .i64 y1.1.1)).1, (y2.1.1, (@rdL S_api_Poster Z_S_api_Poster (@appL S_api_Poster [] a) (@I.nat .i64 y1.1.1)).2.2))) (@I.nat .i64 y1.1.1)).2.2.2.2.2)))))) (@I.nat .i64 y1.1.1)).2.2.2.1, ((@rdL S_api_Poster Z_S_api_Poster (@setL S_api_Poster (@setL S_api_Poster (@appL S_api_Poster [] a) (@I.nat .i64 y1.1.1) ((@rdL S_api_Poster Z_S_api_Poster (@appL S_api_Poster [] a) (@I.nat .i64 y1.1.1)).1, (y2.1.1, (@rdL S_api_Poster Z_S_api_Poster (@appL S_api_Poster [] a) (@I.nat .i64 y1.1.1)).2.2))) (@I.nat .i64 y1.1.1) ((@rdL S_api_Poster Z_S_api_Poster (@setL S_api_Poster (@appL S_api_Poster [] a) (@I.nat .i64 y1.1.1) ((@rdL S_api_Poster Z_S_api_Poster (@appL S_api_Poster [] a) (@I.nat .i64 y1.1.1)).1, (y2.1.1, (@rdL S_api_Poster Z_S_api_Poster (@appL S_api_Poster [] a) (@I.nat .i64 y1.1.1)).2.2))) (@I.nat .i64 y1.1.1)).1, ((@rdL S_api_Poster Z_S_api_Poster (@setL S_api_Poster (@appL S_api_Poster [] a) (@I.nat .i64 y1.1.1) ((@rdL S_api_Poster Z_S_api_Poster (@appL S_api_Poster [] a) (@I.nat .i64 y1.1.1)).1, (y2.1.1, (@rdL S_api_Poster Z_S_api_Poster (@appL S_api_Poster [] a) (@I.nat .i64 y1.1.1)).2.2))) (@I.nat .i64 y1.1.1)).2.1, ((@rdL S_api_Poster Z_S_api_Poster (@setL S_api_Poster (@appL S_api_Poster [] a) (@I.nat .i64 y1.1.1) ((@rdL S_api_Poster Z_S_api_Poster (@appL S_api_Poster [] a) (@I.nat .i64 y1.1.1)).1, (y2.1.1, (@rdL S_api_Poster Z_S_api_Poster (@appL S_api_Poster [] a) (@I.nat .i64 y1.1.1)).2.2))) (@I.nat .i64 y1.1.1)).2.2.1, ((@rdL S_api_Poster Z_S_api_Poster (@setL S_api_Poster (@appL S_api_Poster [] a) (@I.nat .i64 y1.1.1) ((@rdL S_api_Poster Z_S_api_Poster (@appL S_api_Poster [] a) (@I.nat .i64 y1.1.1)).1, (y2.1.1, (@rdL S_api_Poster Z_S_api_Poster (@appL S_api_Poster [] a) (@I.nat .i64 y1.1.1)).2.2))) (@I.nat .i64 y1.1.1)).2.2.2.1, (y3.1.1, (@rdL S_api_Poster Z_S_api_Poster (@setL S_api_Poster (@appL S_api_Poster [] a) (@I.nat .i64 y1.1.1) ((@rdL S_api_Poster Z_S_api_Poster (@appL S_api_Poster [] a) (@I.nat .i64 y1.1.1)).1, (y2.1.1, (@rdL S_api_Poster Z_S_api_Poster (@appL S_api_Poster [] a) (@I.nat .i64 y1.1.1)).2.2))) (@I.nat .i64 y1.1.1)).2.2.2.2.2)))))) (@I.nat .i64 y1.1.1)).2.2.2.2.1, ((I.of .u64 0), (@rdL S_api_Poster Z_S_api_Poster (@setL S_api_Poster (@setL S_api_Poster (@appL S_api_Poster [] a) (@I.nat .i64 y1.1.1) ((@rdL S_api_Poster Z_S_api_Poster (@appL S_api_Poster [] a) (@I.nat .i64 y1.1.1)).1, (y2.1.1, (@rdL S_api_Poster Z_S_api_Poster (@appL S_api_Poster [] a) (@I.nat .i64 y1.1.1)).2.2))) (@I.nat .i64 y1.1.1) ((@rdL S_api_Poster Z_S_api_Poster (@setL S_api_Poster (@appL S_api_Poster [] a) (@I.nat .i64 y1.1.1) ((@rdL S_api_Poster Z_S_api_Poster (@appL S_api_Poster [] a) (@I.nat .i64 y1.1.1)).1, (y2.1.1, (@rdL S_api_Poster Z_S_api_Poster (@appL S_api_Poster [] a) (@I.nat .i64 y1.1.1)).2.2))) (@I.nat .i64 y1.1.1)).1, ((@rdL S_api_Poster Z_S_api_Poster (@setL S_api_Poster (@appL S_api_Poster [] a) (@I.nat .i64 y1.1.1) ((@rdL S_api_Poster Z_S_api_Poster (@appL S_api_Poster [] a) (@I.nat .i64 y1.1.1)).1, (y2.1.1, (@rdL S_api_Poster Z_S_api_Poster (@appL S_api_Poster [] a) (@I.nat .i64 y1.1.1)).2.2))) (@I.nat .i64 y1.1.1)).2.1, ((@rdL S_api_Poster Z_S_api_Poster (@setL S_api_Poster (@appL S_api_Poster [] a) (@I.nat .i64 y1.1.1) ((@rdL S_api_Poster Z_S_api_Poster (@appL S_api_Poster [] a) (@I.nat .i64 y1.1.1)).1, (y2.1.1, (@rdL S_api_Poster Z_S_api_Poster (@appL S_api_Poster [] a) (@I.nat .i64 y1.1.1)).2.2))) (@I.nat .i64 y1.1.1)).2.2.1, ((@rdL S_api_Poster Z_S_api_Poster (@setL S_api_Poster (@appL S_api_Poster [] a) (@I.nat .i64 y1.1.1) ((@rdL S_api_Poster Z_S_api_Poster (@appL S_api_Poster [] a) (@I.nat .i64 y1.1.1)).1, (y2.1.1, (@rdL S_api_Poster Z_S_api_Poster (@appL S_api_Poster [] a) (@I.nat .i64 y1.1.1)).2.2))) (@I.nat .i64 y1.1.1)).2.2.2.1, (y3.1.1, (@rdL S_api_Poster Z_S_api_Poster (@setL S_api_Poster (@appL S_api_Poster [] a) (@I.nat .i64 y1.1.1) ((@rdL S_api_Poster Z_S_api_Poster (@appL S_api_Poster [] a) (@I.nat .i64 y1.1.1)).1, (y2.1.1, (@rdL S_api_Poster Z_S_api_Poster (@appL S_api_Poster [] a) (@I.nat .i64 y1.1.1)).2.2))) (@I.nat .i64 y1.1.1)).2.2.2.2.2)))))) (@I.nat .i64 y1.1.1)).2.2.2.2.2.2))))))), ((I.of .i64 0), ())), ()))
        (some (((@setL S_api_Poster (@setL S_api_Poster (@appL S_api_Poster [] a) (@I.nat .i64 y1.1.1) ((@rdL S_api_Poster Z_S_api_Poster (@appL S_api_Poster [] a) (@I.nat .i64 y1.1.1)).1, (y2.1.1, (@rdL S_api_Poster Z_S_api_Poster (@appL S_api_Poster [] a) (@I.nat .i64 y1.1.1)).2.2))) (@I.nat .i64 y1.1.1) ((@rdL S_api_Poster Z_S_api_Poster (@setL S_api_Poster (@appL S_api_Poster [] a) (@I.nat .i64 y1.1.1) ((@rdL S_api_Poster Z_S_api_Poster (@appL S_api_Poster [] a) (@I.nat .i64 y1.1.1)).1, (y2.1.1, (@rdL S_api_Poster Z_S_api_Poster (@appL S_api_Poster [] a) (@I.nat .i64 y1.1.1)).2.2))) (@I.nat .i64 y1.1.1)).1, ((@rdL S_api_Poster Z_S_api_Poster (@setL S_api_Poster (@appL S_api_Poster [] a) (@I.nat .i64 y1.1.1) ((@rdL S_api_Poster Z_S_api_Poster (@appL S_api_Poster [] a) (@I.nat .i64 y1.1.1)).1, (y2.1.1, (@rdL S_api_Poster Z_S_api_Poster (@appL S_api_Poster [] a) (@I.nat .i64 y1.1.1)).2.2))) (@I.nat .i64 y1.1.1)).2.1, ((@rdL S_api_Poster Z_S_api_Poster (@setL S_api_Poster (@appL S_api_Poster [] a) (@I.nat .i64 y1.1.1) ((@rdL S_api_Poster Z_S_api_Poster (@appL S_api_Poster [] a) (@I.nat .i64 y1.1.1)).1, (y2.1.1, (@rdL S_api_Poster Z_S_api_Poster (@appL S_api_Poster [] a) (@I.nat .i64 y1.1.1)).2.2))) (@I.nat .i64 y1.1.1)).2.2.1, ((@rdL S_api_Poster Z_S_api_Poster (@setL S_api_Poster (@appL S_api_Poster [] a) (@I.nat .i64 y1.1.1) ((@rdL S_api_Poster Z_S_api_Poster (@appL S_api_Poster [] a) (@I.nat .i64 y1.1.1)).1, (y2.1.1, (@rdL S_api_Poster Z_S_api_Poster (@appL S_api_Poster [] a) (@I.nat .i64 y1.1.1)).2.2))) (@I.nat .i64 y1.1.1)).2.2.2.1, (y3.1.1, (@rdL S_api_Poster Z_S_api_Poster (@setL S_api_Poster (@appL S_api_Poster [] a) (@I.nat .i64 y1.1.1) ((@rdL S_api_Poster Z_S_api_Poster (@appL S_api_Poster [] a) (@I.nat .i64 y1.1.1)).1, (y2.1.1, (@rdL S_api_Poster Z_S_api_Poster (@appL S_api_Poster [] a) (@I.nat .i64 y1.1.1)).2.2))) (@I.nat .i64 y1.1.1)).2.2.2.2.2)))))), ((I.of .i64 0), ())), ())))))
     (none))
    (none)))

/-- pontage/pontageref16.Accrue -/
noncomputable def pontageref16_Accrue (x : (⟨[.pl (.sl (.cons (.int .u64) (.cons (.arr 4 (.int .u64)) (.cons (.arr 4 (.int .u64)) (.cons (.arr 4 (.int .u64)) (.cons (.arr 4 (.int .u64)) (.cons (.int .u64) .nil))))))), .pl (.int .u64), .pl (.arr 4 (.int .u64)), .pl (.arr 4 (.int .u64)), .pl (.int .u64)], []⟩ : Tm).D) : Option (⟨[.pl (.sl (.cons (.int .u64) (.cons (.arr 4 (.int .u64)) (.cons (.arr 4 (.int .u64)) (.cons (.arr 4 (.int .u64)) (.cons (.arr 4 (.int .u64)) (.cons (.int .u64) .nil))))))), .pl (.int .i64)], []⟩ : Tm).D :=
 let a : (List S_api_Poster) := x.1.1
 let b : (I .u64) := x.1.2.1
 let c : U := x.1.2.2.1
 let d : U := x.1.2.2.2.1
 let e : (I .u64) := x.1.2.2.2.2.1
 jn (fun (x0 : (((List S_api_Poster) × ((I .u64) × ((I .u64) × Unit))) × (U × (U × Unit)))) =>
   optF (none) (pontageref16_Find ((x0.1.1, (x0.1.2.1, ())), ())) fun y1 =>
   brn (@I.ltb .i64 y1.1.1 (I.of .i64 0))
    (some (([], ((I.of .i64 8), ())), ()))
    (brn (fitsLen (@lenL S_api_Poster (@appL S_api_Poster [] x0.1.1)))
     (brn (@inB .i64 y1.1.1 (@lenL S_api_Poster (@appL S_api_Poster [] x0.1.1)))
      (optF (none) (pontageref1_FromUint256 (((@rdL S_api_Poster Z_S_api_Poster (@appL S_api_Poster [] x0.1.1) (@I.nat .i64 y1.1.1)).2.1, ()), ())) fun y2 =>
      optF (none) (pontageref1_FromUint256 ((x0.2.1, ()), ())) fun y3 =>
      optF (none) (pontageref1_FromUint256 ((x0.2.2.1, ()), ())) fun y4 =>
      optF (none) (pontageref1_Add ((y3.1.1, (y4.1.1, ())), ())) fun y5 =>
      optF (none) (pontageref1_Add ((y2.1.1, (y5.1.1, ())), ())) fun y6 =>
      optF (none) (pontageref1_FromUint256 (((@rdL S_api_Poster Z_S_api_Poster (@appL S_api_Poster [] x0.1.1) (@I.nat .i64 y1.1.1)).2.2.1, ()), ())) fun y7 =>
      optF (none) (pontageref1_FromUint256 ((x0.2.1, ()), ())) fun y8 =>
      optF (none) (pontageref1_Add ((y7.1.1, (y8.1.1, ())), ())) fun y9 =>
      optF (none) (pontageref1_FromUint256 (((@rdL S_api_Poster Z_S_api_Poster (@appL S_api_Poster [] x0.1.1) (@I.nat .i64 y1.1.1)).2.2.2.1, ()), ())) fun y10 =>
      optF (none) (pontageref1_FromUint256 ((x0.2.2.1, ()), ())) fun y11 =>
      optF (none) (pontageref1_Add ((y10.1.1, (y11.1.1, ())), ())) fun y12 =>
      optF (none) (pontageref1_Fits ((y6.1.1, ()), ())) fun y13 =>
      brn (bnot y13.1.1)
       (some (([], ((I.of .i64 4), ())), ()))
       (optF (none) (pontageref1_Fits ((y9.1.1, ()), ())) fun y14 =>
       brn (bnot y14.1.1)
        (some (([], ((I.of .i64 4), ())), ()))
        (optF (none) (pontageref1_Fits ((y12.1.1, ()), ())) fun y15 =>
        brn (bnot y15.1.1)
         (some (([], ((I.of .i64 4), ())), ()))
         (optF (none) (pontageref1_IsZero (((@rdL S_api_Poster Z_S_api_Poster (@appL S_api_Poster [] x0.1.1) (@I.nat .i64 y1.1.1)).2.1, ()), ())) fun y16 =>
         brn y16.1.1
          (brn (@I.ltb .i64 (I.of .i64 0) (I.ofNat .i64 (@lenL (I .i64) y6.1.1)))
           (optF (none) (pontageref1_ToUint256 ((y6.1.1, ()), ())) fun y17 =>
           optF (none) (pontageref1_ToUint256 ((y9.1.1, ()), ())) fun y18 =>
           optF (none) (pontageref1_ToUint256 ((y12.1.1, ()), ())) fun y19 =>
           some (((@setL S_api_Poster (@setL S_api_Poster (@setL S_api_Poster (@setL S_api_Poster (@appL S_api_Poster [] x0.1.1) (@I.nat .i64 y1.1.1) ((@rdL S_api_Poster Z_S_api_Poster (@appL S_api_Poster [] x0.1.1) (@I.nat .i64 y1.1.1)).1, ((@rdL S_api_Poster Z_S_api_Poster (@appL S_api_Poster [] x0.1.1) (@I.nat .i64 y1.1.1)).2.1, ((@rdL S_api_Poster Z_S_api_Poster (@appL S_api_Poster [] x0.1.1) (@I.nat .i64 y1.1.1)).2.2.1, ((@rdL S_api_Poster Z_S_api_Poster (@appL S_api_Poster [] x0.1.1) (@I.nat .i64 y1.1.1)).2.2.2.1, ((@rdL S_api_Poster Z_S_api_Poster (@appL S_api_Poster [] x0.1.1) (@I.nat .i64 y1.1.1)).2.2.2.2.1, (x0.1.2.2.1, (@rdL S_api_Poster Z_S_api_Poster (@appL S_api_Poster [] x0.1.1) (@I.nat .i64 y1.1.1)).2.2.2.2.2.2))))))) (@I.nat .i64 y1.1.1) ((@rdL S_api_Poster Z_S_api_Poster (@setL S_api_Poster (@appL S_api_Poster [] x0.1.1) (@I.nat .i64 y1.1.1) ((@rdL S_api_Poster Z_S_api_Poster (@appL S_api_Poster [] x0.1.1) (@I.nat .i64 y1.1.1)).1, ((@rdL S_api_Poster Z_S_api_Poster (@appL S_api_Poster [] x0.1.1) (@I.nat .i64 y1.1.1)).2.1, ((@rdL S_api_Poster Z_S_api_Poster (@appL S_api_Poster [] x0.1.1) (@I.nat .i64 y1.1.1)).2.2.1, ((@rdL S_api_Poster Z_S_api_Poster (@appL S_api_Poster [] x0.1.1) (@I.nat .i64 y1.1.1)).2.2.2.1, ((@rdL S_api_Poster Z_S_api_Poster (@appL S_api_Poster [] x0.1.1) (@I.nat .i64 y1.1.1)).2.2.2.2.1, (x0.1.2.2.1, (@rdL S_api_Poster Z_S_api_Poster (@appL S_api_Poster [] x0.1.1) (@I.nat .i64 y1.1.1)).2.2.2.2.2.2))))))) (@I.nat .i64 y1.1.1)).1, (y17.1.1, (@rdL S_api_Poster Z_S_api_Poster (@setL S_api_Poster (@appL S_api_Poster [] x0.1.1) (@I.nat .i64 y1.1.1) ((@rdL S_api_Poster Z_S_api_Poster (@appL S_api_Poster [] x0.1.1) (@I.nat .i64 y1.1.1)).1, ((@rdL S_api_Poster Z_S_api_Poster (@appL S_api_Poster [] x0.1.1) (@I.nat .i64 y1.1.1)).2.1, ((@rdL S_api_Poster Z_S_api_Poster (@appL S_api_Poster [] x0.1.1) (@I.nat .i64 y1.1.1)).2.2.1, ((@rdL S_api_Poster Z_S_api_Poster (@appL S_api_Poster [] x0.1.1) (@I.nat .i64 y1.1.1)).2.2.2.1, ((@rdL S_api_Poster Z_S_api_Poster (@appL S_api_Poster [] x0.1.1) (@I.nat .i64 y1.1.1)).2.2.2.2.1, (x0.1.2.2.1, (@rdL S_api_Poster Z_S_api_Poster (@appL S_api_Poster [] x0.1.1) (@I.nat .i64 y1.1.1)).2.2.2.2.2.2))))))) (@I.nat .i64 y1.1.1)).2.2))) (@I.nat .i64 y1.1.1) ((@rdL S_api_Poster Z_S_api_Poster (@setL S_api_Poster (@setL S_api_Poster (@appL S_api_Poster [] x0.1.1) (@I.nat .i64 y1.1.1) ((@rdL S_api_Poster Z_S_api_Poster (@appL S_api_Poster [] x0.1.1) (@I.nat .i64 y1.1.1)).1, ((@rdL S_api_Poster Z_S_api_Poster (@appL S_api_Poster [] x0.1.1) (@I.nat .i64 y1.1.1)).2.1, ((@rdL S_api_Poster Z_S_api_Poster (@appL S_api_Poster [] x0.1.1) (@I.nat .i64 y1.1.1)).2.2.1, ((@rdL S_api_Poster Z_S_api_Poster (@appL S_api_Poster [] x0.1.1) (@I.nat .i64 y1.1.1)).2.2.2.1, ((@rdL S_api_Poster Z_S_api_Poster (@appL S_api_Poster [] x0.1.1) (@I.nat .i64 y1.1.1)).2.2.2.2.1, (x0.1.2.2.1, (@rdL S_api_Poster Z_S_api_Poster (@appL S_api_Poster [] x0.1.1) (@I.nat .i64 y1.1.1)).2.2.2.2.2.2))))))) (@I.nat .i64 y1.1.1) ((@rdL S_api_Poster Z_S_api_Poster (@setL S_api_Poster (@appL S_api_Poster [] x0.1.1) (@I.nat .i64 y1.1.1) ((@rdL S_api_Poster Z_S_api_Poster (@appL S_api_Poster [] x0.1.1) (@I.nat .i64 y1.1.1)).1, ((@rdL S_api_Poster Z_S_api_Poster (@appL S_api_Poster [] x0.1.1) (@I.nat .i64 y1.1.1)).2.1, ((@rdL S_api_Poster Z_S_api_Poster (@appL S_api_Poster [] x0.1.1) (@I.nat .i64 y1.1.1)).2.2.1, ((@rdL S_api_Poster Z_S_api_Poster (@appL S_api_Poster [] x0.1.1) (@I.nat .i64 y1.1.1)).2.2.2.1, ((@rdL S_api_Poster Z_S_api_Poster (@appL S_api_Poster [] x0.1.1) (@I.nat .i64 y1.1.1)).2.2.2.2.1, (x0.1.2.2.1, (@rdL S_api_Poster Z_S_api_Poster (@appL S_api_Poster [] x0.1.1) (@I.nat .i64 y1.1.1)).2.2.2.2.2.2))))))) (@I.nat .i64 y1.1.1)).1, (y17.1.1, (@rdL S_api_Poster Z_S_api_Poster (@setL S_api_Poster (@appL S_api_Poster [] x0.1.1) (@I.nat .i64 y1.1.1) ((@rdL S_api_Poster Z_S_api_Poster (@appL S_api_Poster [] x0.1.1) (@I.nat .i64 y1.1.1)).1, ((@rdL S_api_Poster Z_S_api_Poster (@appL S_api_Poster [] x0.1.1) (@I.nat .i64 y1.1.1)).2.1, ((@rdL S_api_Poster Z_S_api_Poster (@appL S_api_Poster [] x0.1.1) (@I.nat .i64 y1.1.1)).2.2.1, ((@rdL S_api_Poster Z_S_api_Poster (@appL S_api_Poster [] x0.1.1) (@I.nat .i64 y1.1.1)).2.2.2.1, ((@rdL S_api_Poster Z_S_api_Poster (@appL S_api_Poster [] x0.1.1) (@I.nat .i64 y1.1.1)).2.2.2.2.1, (x0.1.2.2.1, (@rdL S_api_Poster Z_S_api_Poster (@appL S_api_Poster [] x0.1.1) (@I.nat .i64 y1.1.1)).2.2.2.2.2.2))))))) (@I.nat .i64 y1.1.1)).2.2))) (@I.nat .i64 y1.1.1)).1, ((@rdL S_api_Poster Z_S_api_Poster (@setL S_api_Poster (@setL S_api_Poster (@appL S_api_Poster [] x0.1.1) (@I.nat .i64 y1.1.1) ((@rdL S_api_Poster Z_S_api_Poster (@appL S_api_Poster [] x0.1.1) (@I.nat .i64 y1.1.1)).1, ((@rdL S_api_Poster Z_S_api_Poster (@appL S_api_Poster [] x0.1.1) (@I.nat .i64 y1.1.1)).2.1, ((@rdL S_api_Poster Z_S_api_Poster (@appL S_api_Poster [] x0.1.1) (@I.nat .i64 y1.1.1)).2.2.1, ((@rdL S_api_Poster Z_S_api_Poster (@appL S_api_Poster [] x0.1.1) (@I.nat .i64 y1.1.1)).2.2.2.1, ((@rdL S_api_Poster Z_S_api_Poster (@appL S_api_Poster [] x0.1.1) (@I.nat .i64 y1.1.1)).2.2.2.2.1, (x0.1.2.2.1, (@rdL S_api_Poster Z_S_api_Poster (@appL S_api_Poster [] x0.1.1) (@I.nat .i64 y1.1.1)).2.2.2.2.2.2))))))) (@I.nat .i64 y1.1.1) ((@rdL S_api_Poster Z_S_api_Poster (@setL S_api_Poster (@appL S_api_Poster [] x0.1.1) (@I.nat .i64 y1.1.1) ((@rdL S_api_Poster Z_S_api_Poster (@appL S_api_Poster [] x0.1.1) (@I.nat .i64 y1.1.1)).1, ((@rdL S_api_Poster Z_S_api_Poster (@appL S_api_Poster [] x0.1.1) (@I.nat .i64 y1.1.1)).2.1, ((@rdL S_api_Poster Z_S_api_Poster (@appL S_api_Poster [] x0.1.1) (@I.nat .i64 y1.1.1)).2.2.1, ((@rdL S_api_Poster Z_S_api_Poster (@appL S_api_Poster [] x0.1.1) (@I.nat .i64 y1.1.1)).2.2.2.1, ((@rdL S_api_Poster Z_S_api_Poster (@appL S_api_Poster [] x0.1.1) (@I.nat .i64 y1.1.1)).2.2.2.2.1, (x0.1.2.2.1, (@rdL S_api_Poster Z_S_api_Poster (@appL S_api_Poster [] x0.1.1) (@I.nat .i64 y1.1.1)).2.2.2.2.2.2))))))) (@I.nat .i64 y1.1.1)).1, (y17.1.1, (@rdL S_api_Poster Z_S_api_Poster (@setL S_api_Poster (@appL S_api_Poster [] x0.1.1) (@I.nat .i64 y1.1.1) ((@rdL S_api_Poster Z_S_api_Poster (@appL S_api_Poster [] x0.1.1) (@I.nat .i64 y1.1.1)).1, ((@rdL S_api_Poster Z_S_api_Poster (@appL S_api_Poster [] x0.1.1) (@I.nat .i64 y1.1.1)).2.1, ((@rdL S_api_Poster Z_S_api_Poster (@appL S_api_Poster [] x0.1.1) (@I.nat .i64 y1.1.1)).2.2.1, ((@rdL S_api_Poster Z_S_api_Poster (@appL S_api_Poster [] x0.1.1) (@I.nat .i64 y1.1.1)).2.2.2.1, ((@rdL S_api_Poster Z_S_api_Poster (@appL S_api_Poster [] x0.1.1) (@I.nat .i64 y1.1.1)).2.2.2.2.1, (x0.1.2.2.1, (@rdL S_api_Poster Z_S_api_Poster (@appL S_api_Poster [] x0.1.1) (@I.nat .i64 y1.1.1)).2.2.2.2.2.2))))))) (@I.nat .i64 y1.1.1)).2.2))) (@I.nat .i64 y1.1.1)).2.1, (y18.1.1, (@rdL S_api_Poster Z_S_api_Poster (@setL S_api_Poster (@setL S_api_Poster (@appL S_api_Poster [] x0.1.1) (@I.nat .i64 y1.1.1) ((@rdL S_api_Poster Z_S_api_Poster (@appL S_api_Poster [] x0.1.1) (@I.nat .i64 y1.1.1)).1, ((@rdL S_api_Poster Z_S_api_Poster (@appL S_api_Poster [] x0.1.1) (@I.nat .i64 y1.1.1)).2.1, ((@rdL S_api_Poster Z_S_api_Poster (@appL S_api_Poster [] x0.1.1) (@I.nat .i64 y1.1.1)).2.2.1, ((@rdL S_api_Poster Z_S_api_Poster (@appL S_api_Poster [] x0.1.1) (@I.nat .i64 y1.1.1)).2.2.2.1, ((@rdL S_api_Poster Z_S_api_Poster (@appL S_api_Poster [] x0.1.1) (@I.nat .i64 y1.1.1)).2.2.2.2.1, (x0.1.2.2.1, (@rdL S_api_Poster Z_S_api_Poster (@appL S_api_Poster [] x0.1.1) (@I.nat .i64 y1.1.1)).2.2.2.2.2.2))))))) (@I.nat .i64 y1.1.1) ((@rdL S_api_Poster Z_S_api_Poster (@setL S_api_Poster (@appL S_api_Poster [] x0.1.1) (@I.nat .i64 y1.1.1) ((@rdL S_api_Poster Z_S_api_Poster (@appL S_api_Poster [] x0.1.1) (@I.nat .i64 y1.1.1)).1, ((@rdL S_api_Poster Z_S_api_Poster (@appL S_api_Poster [] x0.1.1) (@I.nat .i64 y1.1.1)).2.1, ((@rdL S_api_Poster Z_S_api_Poster (@appL S_api_Poster [] x0.1.1) (@I.nat .i64 y1.1.1)).2.2.1, ((@rdL S_api_Poster Z_S_api_Poster (@appL S_api_Poster [] x0.1.1) (@I.nat .i64 y1.1.1)).2.2.2.1, ((@rdL S_api_Poster Z_S_api_Poster (@appL S_api_Poster [] x0.1.1) (@I.nat .i64 y1.1.1)).2.2.2.2.1, (x0.1.2.2.1, (@rdL S_api_Poster Z_S_api_Poster (@appL S_api_Poster [] x0.1.1) (@I.nat .i64 y1.1.1)).2.2.2.2.2.2))))))) (@I.nat .i64 y1.1.1)).1, (y17.1.1, (@rdL S_api_Poster Z_S_api_Poster (@setL S_api_Poster (@appL S_api_Poster [] x0.1.1) (@I.nat .i64 y1.1.1) ((@rdL S_api_Poster Z_S_api_Poster (@appL S_api_Poster [] x0.1.1) (@I.nat .i64 y1.1.1)).1, ((@rdL S_api_Poster Z_S_api_Poster (@appL S_api_Poster [] x0.1.1) (@I.nat .i64 y1.1.1)).2.1, ((@rdL S_api_Poster Z_S_api_Poster (@appL S_api_Poster [] x0.1.1) (@I.nat .i64 y1.1.1)).2.2.1, ((@rdL S_api_Poster Z_S_api_Poster (@appL S_api_Poster [] x0.1.1) (@I.nat .i64 y1.1.1)).2.2.2.1, ((@rdL S_api_Poster Z_S_api_Poster (@appL S_api_Poster [] x0.1.1) (@I.nat .i64 y1.1.1)).2.2.2.2.1, (x0.1.2.2.1, (@rdL S_api_Poster Z_S_api_Poster (@appL S_api_Poster [] x0.1.1) (@I.nat .i64 y1.1.1)).2.2.2.2.2.2))))))) (@I.nat .i64 y1.1.1)).2.2))) (@I.nat .i64 y1.1.1)).2.2.2)))) (@I.nat .i64 y1.1.1) ((@rdL S_api_Poster Z_S_api_Poster (@setL S_api_Poster (@setL S_api_Poster (@setL S_api_Poster (@appL S_api_Poster [] x0.1.1) (@I.nat .i64 y1.1.1) ((@rdL S_api_Poster Z_S_api_Poster (@appL S_api_Poster [] x0.1.1) (@I.nat .i64 y1.1.1)).1, ((@rdL S_api_Poster Z_S_api_Poster (@appL S_api_Poster [] x0.1.1) (@I.nat .i64 y1.1.1)).2.1, ((@rdL S_api_Poster Z_S_api_Poster (@appL S_api_Poster [] x0.1.1) (@I.nat .i64 y1.1.1)).2.2.1, ((@rdL S_api_Poster Z_S_api_Poster (@appL S_api_Poster [] x0.1.1) (@I.nat .i64 y1.1.1)).2.2.2.1, ((@rdL S_api_Poster Z_S_api_Poster (@appL S_api_Poster [] x0.1.1) (@I.nat .i64 y1.1.1)).2.2.2.2.1, (x0.1.2.2.1, (@rdL S_api_Poster Z_S_api_Poster (@appL S_api_Poster [] x0.1.1) (@I.nat .i64 y1.1.1)).2.2.2.2.2.2))))))) (@I.nat .i64 y1.1.1) ((@rdL S_api_Poster Z_S_api_Poster (@setL S_api_Poster (@appL S_api_Poster [] x0.1.1) (@I.nat .i64 y1.1.1) ((@rdL S_api_Poster Z_S_api_Poster (@appL S_api_Poster [] x0.1.1) (@I.nat .i64 y1.1.1)).1, ((@rdL S_api_Poster Z_S_api_Poster (@appL S_api_Poster [] x0.1.1) (@I.nat .i64 y1.1.1)).2.1, ((@rdL S_api_Poster Z_S_api_Poster (@appL S_api_Poster [] x0.1.1) (@I.nat .i64 y1.1.1)).2.2.1, ((@rdL S_api_Poster Z_S_api_Poster (@appL S_api_Poster [] x0.1.1) (@I.nat .i64 y1.1.1)).2.2.2.1, ((@rdL S_api_Poster Z_S_api_Poster (@appL S_api_Poster [] x0.1.1) (@I.nat .i64 y1.1.1)).2.2.2.2.1, (x0.1.2.2.1, (@rdL S_api_Poster Z_S_api_Poster (@appL S_api_Poster [] x0.1.1) (@I.nat .i64 y1.1.1)).2.2.2.2.2.2))))))) (@I.nat .i64 y1.1.1)).1, (y17.1.1, (@rdL S_api_Poster Z_S_api_Poster (@setL S_api_Poster (@appL S_api_Poster [] x0.1.1) (@I.nat .i64 y1.1.1) ((@rdL S_api_Poster Z_S_api_Poster (@appL S_api_Poster [] x0.1.1) (@I.nat .i64 y1.1.1)).1, ((@rdL S_api_Poster Z_S_api_Poster (@appL S_api_Poster [] x0.1.1) (@I.nat .i64 y1.1.1)).2.1, ((@rdL S_api_Poster Z_S_api_Poster (@appL S_api_Poster [] x0.1.1) (@I.nat .i64 y1.1.1)).2.2.1, ((@rdL S_api_Poster Z_S_api_Poster (@appL S_api_Poster [] x0.1.1) (@I.nat .i64 y1.1.1)).2.2.2.1, ((@rdL S_api_Poster Z_S_api_Poster (@appL S_api_Poster [] x0.1.1) (@I.nat .i64 y1.1.1)).2.2.2.2.1, (x0.1.2.2.1, (@rdL S_api_Poster Z_S_api_Poster (@appL S_api_Poster [] x0.1.1) (@I.nat .i64 y1.1.1)).2.2.2.2.2.2))))))) (@I.nat .i64 y1.1.1)).2.2))) (@I.nat .i64 y1.1.1) ((@rdL S_api_Poster Z_S_api_Poster (@setL S_api_Poster (@setL S_api_Poster (@appL S_api_Poster [] x0.1.1) (@I.nat .i64 y1.1.1) ((@rdL S_api_Poster Z_S_api_Poster (@appL S_api_Poster [] x0.1.1) (@I.nat .i64 y1.1.1)).1, ((@rdL S_api_Poster Z_S_api_Poster (@appL S_api_Poster [] x0.1.1) (@I.nat .i64 y1.1.1)).2.1, ((@rdL S_api_Poster Z_S_api_Poster (@appL S_api_Poster [] x0.1.1) (@I.nat .i64 y1.1.1)).2.2.1, ((@rdL S_api_Poster Z_S_api_Poster (@appL S_api_Poster [] x0.1.1) (@I.nat .i64 y1.1.1)).2.2.2.1, ((@rdL S_api_Poster Z_S_api_Poster (@appL S_api_Poster [] x0.1.1) (@I.nat .i64 y1.1.1)).2.2.2.2.1, (x0.1.2.2.1, (@rdL S_api_Poster Z_S_api_Poster (@appL S_api_Poster [] x0.1.1) (@I.nat .i64 y1.1.1)).2.2.2.2.2.2))))))) (@I.nat .i64 y1.1.1) ((@rdL S_api_Poster Z_S_api_Poster (@setL S_api_Poster (@appL S_api_Poster [] x0.1.1) (@I.nat .i64 y1.1.1) ((@rdL S_api_Poster Z_S_api_Poster (@appL S_api_Poster [] x0.1.1) (@I.nat .i64 y1.1.1)).1, ((@rdL S_api_Poster Z_S_api_Poster (@appL S_api_Poster [] x0.1.1) (@I.nat .i64 y1.1.1)).2.1, ((@rdL S_api_Poster Z_S_api_Poster (@appL S_api_Poster [] x0.1.1) (@I.nat .i64 y1.1.1)).2.2.1, ((@rdL S_api_Poster Z_S_api_Poster (@appL S_api_Poster [] x0.1.1) (@I.nat .i64 y1.1.1)).2.2.2.1, ((@rdL S_api_Poster Z_S_api_Poster (@appL S_api_Poster [] x0.1.1) (@I.nat .i64 y1.1.1)).2.2.2.2.1, (x0.1.2.2.1, (@rdL S_api_Poster Z_S_api_Poster (@appL S_api_Poster [] x0.1.1) (@I.nat .i64 y1.1.1)).2.2.2.2.2.2))))))) (@I.nat .i64 y1.1.1)).1, (y17.1.1, (@rdL S_api_Poster Z_S_api_Poster (@setL S_api_Poster (@appL S_api_Poster [] x0.1.1) (@I.nat .i64 y1.1.1) ((@rdL S_api_Poster Z_S_api_Poster (@appL S_api_Poster [] x0.1.1) (@I.nat .i64 y1.1.1)).1, ((@rdL S_api_Poster Z_S_api_Poster (@appL S_api_Poster [] x0.1.1) (@I.nat .i64 y1.1.1)).2.1, ((@rdL S_api_Poster Z_S_api_Poster (@appL S_api_Poster [] x0.1.1) (@I.nat .i64 y1.1.1)).2.2.1, ((@rdL S_api_Poster Z_S_api_Poster (@appL S_api_Poster [] x0.1.1) (@I.nat .i64 y1.1.1)).2.2.2.1, ((@rdL S_api_Poster Z_S_api_Poster (@appL S_api_Poster [] x0.1.1) (@I.nat .i64 y1.1.1)).2.2.2.2.1, (x0.1.2.2.1, (@rdL S_api_Poster Z_S_api_Poster (@appL S_api_Poster [] x0.1.1) (@I.nat .i64 y1.1.1)).2.2.2.2.2.2))))))) (@I.nat .i64 y1.1.1)).2.2))) (@I.nat .i64 y1.1.1)).1, ((@rdL S_api_Poster Z_S_api_Poster (@setL S_api_Poster (@setL S_api_Poster (@appL S_api_Poster [] x0.1.1) (@I.nat .i64 y1.1.1) ((@rdL S_api_Poster Z_S_api_Poster (@appL S_api_Poster [] x0.1.1) (@I.nat .i64 y1.1.1)).1, ((@rdL S_api_Poster Z_S_api_Poster (@appL S_api_Poster [] x0.1.1) (@I.nat .i64 y1.1.1)).2.1, ((@rdL S_api_Poster Z_S_api_Poster (@appL S_api_Poster [] x0.1.1) (@I.nat .i64 y1.1.1)).2.2.1, ((@rdL S_api_Poster Z_S_api_Poster (@appL S_api_Poster [] x0.1.1) (@I.nat .i64 y1.1.1)).2.2.2.1, ((@rdL S_api_Poster Z_S_api_Poster (@appL S_api_Poster [] x0.1.1) (@I.nat .i64 y1.1.1)).2.2.2.2.1, (x0.1.2.2.1, (@rdL S_api_Poster Z_S_api_Poster (@appL S_api_Poster [] x0.1.1) (@I.nat .i64 y1.1.1)).2.2.2.2.2.2))))))) (@I.nat .i64 y1.1.1) ((@rdL S_api_Poster Z_S_api_Poster (@setL S_api_Poster (@appL S_api_Poster [] x0.1.1) (@I.nat .i64 y1.1.1) ((@rdL S_api_Poster Z_S_api_Poster (@appL S_api_Poster [] x0.1.1) (@I.nat .i64 y1.1.1)).1, ((@rdL S_api_Poster Z_S_api_Poster (@appL S_api_Poster [] x0.1.1) (@I.nat .i64 y1.1.1)).2.1, ((@rdL S_api_Poster Z_S_api_Poster (@appL S_api_Poster [] x0.1.1) (@I.nat .i64 y1.1.1)).2.2.1, ((@rdL S_api_Poster Z_S_api_Poster (@appL S_api_Poster [] x0.1.1) (@I.nat .i64 y1.1.1)).2.2.2.1, ((@rdL S_api_Poster Z_S_api_Poster (@appL S_api_Poster [] x0.1.1) (@I.nat .i64 y1.1.1)).2.2.2.2.1, (x0.1.2.2.1, (@rdL S_api_Poster Z_S_api_Poster (@appL S_api_Poster [] x0.1.1) (@I.nat .i64 y1.1.1)).2.2.2.2.2.2))))))) (@I.nat .i64 y1.1.1)).1, (y17.1.1, (@rdL S_api_Poster Z_S_api_Poster (@setL S_api_Poster (@appL S_api_Poster [] x0.1.1) (@I.nat .i64 y1.1.1) ((@rdL S_api_Poster Z_S_api_Poster (@appL S_api_Poster [] x0.1.1) (@I.nat .i64 y1.1.1)).1, ((@rdL S_api_Poster Z_S_api_Poster (@appL S_api_Poster [] x0.1.1) (@I.nat .i64 y1.1.1)).2.1, ((@rdL S_api_Poster Z_S_api_Poster (@appL S_api_Poster [] x0.1.1) (@I.nat .i64 y1.1.1)).2.2.1, ((@rdL S_api_Poster Z_S_api_Poster (@appL S_api_Poster [] x0.1.1) (@I.nat .i64 y1.1.1)).2.2.2.1, ((@rdL S_api_Poster Z_S_api_Poster (@appL S_api_Poster [] x0.1.1) (@I.nat .i64 y1.1.1)).2.2.2.2.1, (x0.1.2.2.1, (@rdL S_api_Poster Z_S_api_Poster (@appL S_api_Poster [] x0.1.1) (@I.nat .i64 y1.1.1)).2.2.2.2.2.2))))))) (@I.nat .i64 y1.1.1)).2.2))) (@I.nat .i64 y1.1.1)).2.1, (y18.1.1, (@rdL S_api_Poster Z_S_api_Poster (@setL S_api_Poster (@setL S_api_Poster (@appL S_api_Poster [] x0.1.1) (@I.nat .i64 y1.1.1) ((@rdL S_api_Poster Z_S_api_Poster (@appL S_api_Poster [] x0.1.1) (@I.nat .i64 y1.1.1)).1, ((@rdL S_api_Poster Z_S_api_Poster (@appL S_api_Poster [] x0.1.1) (@I.nat .i64 y1.1.1)).2.1, ((@rdL S_api_Poster Z_S_api_Poster (@appL S_api_Poster [] x0.1.1) (@I.nat .i64 y1.1.1)).2.2.1, ((@rdL S_api_Poster Z_S_api_Poster (@appL S_api_Poster [] x0.1.1) (@I.nat .i64 y1.1.1)).2.2.2.1, ((@rdL S_api_Poster Z_S_api_Poster (@appL S_api_Poster [] x0.1.1) (@I.nat .i64 y1.1.1)).2.2.2.2.1, (x0.1.2.2.1, (@rdL S_api_Poster Z_S_api_Poster (@appL S_api_Poster [] x0.1.1) (@I.nat .i64 y1.1.1)).2.2.2.2.2.2))))))) (@I.nat .i64 y1.1.1) ((@rdL S_api_Poster Z_S_api_Poster (@setL S_api_Poster (@appL S_api_Poster [] x0.1.1) (@I.nat .i64 y1.1.1) ((@rdL S_api_Poster Z_S_api_Poster (@appL S_api_Poster [] x0.1.1) (@I.nat .i64 y1.1.1)).1, ((@rdL S_api_Poster Z_S_api_Poster (@appL S_api_Poster [] x0.1.1) (@I.nat .i64 y1.1.1)).2.1, ((@rdL S_api_Poster Z_S_api_Poster (@appL S_api_Poster [] x0.1.1) (@I.nat .i64 y1.1.1)).2.2.1, ((@rdL S_api_Poster Z_S_api_Poster (@appL S_api_Poster [] x0.1.1) (@I.nat .i64 y1.1.1)).2.2.2.1, ((@rdL S_api_Poster Z_S_api_Poster (@appL S_api_Poster [] x0.1.1) (@I.nat .i64 y1.1.1)).2.2.2.2.1, (x0.1.2.2.1, (@rdL S_api_Poster Z_S_api_Poster (@appL S_api_Poster [] x0.1.1) (@I.nat .i64 y1.1.1)).2.2.2.2.2.2))))))) (@I.nat .i64 y1.1.1)).1, (y17.1.1, (@rdL S_api_Poster Z_S_api_Poster (@setL S_api_Poster (@appL S_api_Poster [] x0.1.1) (@I.nat .i64 y1.1.1) ((@rdL S_api_Poster Z_S_api_Poster (@appL S_api_Poster [] x0.1.1) (@I.nat .i64 y1.1.1)).1, ((@rdL S_api_Poster Z_S_api_Poster (@appL S_api_Poster [] x0.1.1) (@I.nat .i64 y1.1.1)).2.1, ((@rdL S_api_Poster Z_S_api_Poster (@appL S_api_Poster [] x0.1.1) (@I.nat .i64 y1.1.1)).2.2.1, ((@rdL S_api_Poster Z_S_api_Poster (@appL S_api_Poster [] x0.1.1) (@I.nat .i64 y1.1.1)).2.2.2.1, ((@rdL S_api_Poster Z_S_api_Poster (@appL S_api_Poster [] x0.1.1) (@I.nat .i64 y1.1.1)).2.2.2.2.1, (x0.1.2.2.1, (@rdL S_api_Poster Z_S_api_Poster (@appL S_api_Poster [] x0.1.1) (@I.nat .i64 y1.1.1)).2.2.2.2.2.2))))))) (@I.nat .i64 y1.1.1)).2.2))) (@I.nat .i64 y1.1.1)).2.2.2)))) (@I.nat .i64 y1.1.1)).1, ((@rdL S_api_Poster Z_S_api_Poster (@setL S_api_Poster (@setL S_api_Poster (@setL S_api_Poster (@appL S_api_Poster [] x0.1.1) (@I.nat .i64 y1.1.1) ((@rdL S_api_Poster Z_S_api_Poster (@appL S_api_Poster [] x0.1.1) (@I.nat .i64 y1.1.1)).1, ((@rdL S_api_Poster Z_S_api_Poster (@appL S_api_Poster [] x0.1.1) (@I.nat .i64 y1.1.1)).2.1, ((@rdL S_api_Poster Z_S_api_Poster (@appL S_api_Poster [] x0.1.1) (@I.nat .i64 y1.1.1)).2.2.1, ((@rdL S_api_Poster Z_S_api_Poster (@appL S_api_Poster [] x0.1.1) (@I.nat .i64 y1.1.1)).2.2.2.1, ((@rdL S_api_Poster Z_S_api_Poster (@appL S_api_Poster [] x0.1.1) (@I.nat .i64 y1.1.1)).2.2.2.2.1, (x0.1.2.2.1, (@rdL S_api_Poster Z_S_api_Poster (@appL S_api_Poster [] x0.1.1) (@I.nat .i64 y1.1.1)).2.2.2.2.2.2))))))) (@I.nat .i64 y1.1.1) ((@rdL S_api_Poster Z_S_api_Poster (@setL S_api_Poster (@appL S_api_Poster [] x0.1.1) (@I.nat .i64 y1.1.1) ((@rdL S_api_Poster Z_S_api_Poster (@appL S_api_Poster [] x0.1.1) (@I.nat .i64 y1.1.1)).1, ((@rdL S_api_Poster Z_S_api_Poster (@appL S_api_Poster [] x0.1.1) (@I.nat .i64 y1.1.1)).2.1, ((@rdL S_api_Poster Z_S_api_Poster (@appL S_api_Poster [] x0.1.1) (@I.nat .i64 y1.1.1)).2.2.1, ((@rdL S_api_Poster Z_S_api_Poster (@appL S_api_Poster [] x0.1.1) (@I.nat .i64 y1.1.1)).2.2.2.1, ((@rdL S_api_Poster Z_S_api_Poster (@appL S_api_Poster [] x0.1.1) (@I.nat .i64 y1.1.1)).2.2.2.2.1, (x0.1.2.2.1, (@rdL S_api_Poster Z_S_api_Poster (@appL S_api_Poster [] x0.1.1) (@I.nat .i64 y1.1.1)).2.2.2.2.2.2))))))) (@I.nat .i64 y1.1.1)).1, (y17.1.1, (@rdL S_api_Poster Z_S_api_Poster (@setL S_api_Poster (@appL S_api_Poster [] x0.1.1) (@I.nat .i64 y1.1.1) ((@rdL S_api_Poster Z_S_api_Poster (@appL S_api_Poster [] x0.1.1) (@I.nat .i64 y1.1.1)).1, ((@rdL S_api_Poster Z_S_api_Poster (@appL S_api_Poster [] x0.1.1) (@I.nat .i64 y1.1.1)).2.1, ((@rdL S_api_Poster Z_S_api_Poster (@appL S_api_Poster [] x0.1.1) (@I.nat .i64 y1.1.1)).2.2.1, ((@rdL S_api_Poster Z_S_api_Poster (@appL S_api_Poster [] x0.1.1) (@I.nat .i64 y1.1.1)).2.2.2.1, ((@rdL S_api_Poster Z_S_api_Poster (@appL S_api_Poster [] x0.1.1) (@I.nat .i64 y1.1.1)).2.2.2.2.1, (x0.1.2.2.1, (@rdL S_api_Poster Z_S_api_Poster (@appL S_api_Poster [] x0.1.1) (@I.nat .i64 y1.1.1)).2.2.2.2.2.2))))))) (@I.nat .i64 y1.1.1)).2.2))) (@I.nat .i64 y1.1.1) ((@rdL S_api_Poster Z_S_api_Poster (@setL S_api_Poster (@setL S_api_Poster (@appL S_api_Poster [] x0.1.1) (@I.nat .i64 y1.1.1) ((@rdL S_api_Poster Z_S_api_Poster (@appL S_api_Poster [] x0.1.1) (@I.nat .i64 y1.1.1)).1, ((@rdL S_api_Poster Z_S_api_Poster (@appL S_api_Poster [] x0.1.1) (@I.nat .i64 y1.1.1)).2.1, ((@rdL S_api_Poster Z_S_api_Poster (@appL S_api_Poster [] x0.1.1) (@I.nat .i64 y1.1.1)).2.2.1, ((@rdL S_api_Poster Z_S_api_Poster (@appL S_api_Poster [] x0.1.1) (@I.nat .i64 y1.1.1)).2.2.2.1, ((@rdL S_api_Poster Z_S_api_Poster (@appL S_api_Poster [] x0.1.1) (@I.nat .i64 y1.1.1)).2.2.2.2.1, (x0.1.2.2.1, (@rdL S_api_Poster Z_S_api_Poster (@appL S_api_Poster [] x0.1.1) (@I.nat .i64 y1.1.1)).2.2.2.2.2.2))))))) (@I.nat .i64 y1.1.1) ((@rdL S_api_Poster Z_S_api_Poster (@setL S_api_Poster (@appL S_api_Poster [] x0.1.1) (@I.nat .i64 y1.1.1) ((@rdL S_api_Poster Z_S_api_Poster (@appL S_api_Poster [] x0.1.1) (@I.nat .i64 y1.1.1)).1, ((@rdL S_api_Poster Z_S_api_Poster (@appL S_api_Poster [] x0.1.1) (@I.nat .i64 y1.1.1)).2.1, ((@rdL S_api_Poster Z_S_api_Poster (@appL S_api_Poster [] x0.1.1) (@I.nat .i64 y1.1.1)).2.2.1, ((@rdL S_api_Poster Z_S_api_Poster (@appL S_api_Poster [] x0.1.1) (@I.nat .i64 y1.1.1)).2.2.2.1, ((@rdL S_api_Poster Z_S_api_Poster (@appL S_api_Poster [] x0.1.1) (@I.nat .i64 y1.1.1)).2.2.2.2.1, (x0.1.2.2.1, (@rdL S_api_Poster Z_S_api_Poster (@appL S_api_Poster [] x0.1.1) (@I.nat .i64 y1.1.1)).2.2.2.2.2.2))))))) (@I.nat .i64 y1.1.1)).1, (y17.1.1, (@rdL S_api_Poster Z_S_api_Poster (@setL S_api_Poster (@appL S_api_Poster [] x0.1.1) (@I.nat .i64 y1.1.1) ((@rdL S_api_Poster Z_S_api_Poster (@appL S_api_Poster [] x0.1.1) (@I.nat .i64 y1.1.1)).1, ((@rdL S_api_Poster Z_S_api_Poster (@appL S_api_Poster [] x0.1.1) (@I.nat .i64 y1.1.1)).2.1, ((@rdL S_api_Poster Z_S_api_Poster (@appL S_api_Poster [] x0.1.1) (@I.nat .i64 y1.1.1)).2.2.1, ((@rdL S_api_Poster Z_S_api_Poster (@appL S_api_Poster [] x0.1.1) (@I.nat .i64 y1.1.1)).2.2.2.1, ((@rdL S_api_Poster Z_S_api_Poster (@appL S_api_Poster [] x0.1.1) (@I.nat .i64 y1.1.1)).2.2.2.2.1, (x0.1.2.2.1, (@rdL S_api_Poster Z_S_api_Poster (@appL S_api_Poster [] x0.1.1) (@I.nat .i64 y1.1.1)).2.2.2.2.2.2))))))) (@I.nat .i64 y1.1.1)).2.2))) (@I.nat .i64 y1.1.1)).1, ((@rdL S_api_Poster Z_S_api_Poster (@setL S_api_Poster (@setL S_api_Poster (@appL S_api_Poster [] x0.1.1) (@I.nat .i64 y1.1.1) ((@rdL S_api_Poster Z_S_api_Poster (@appL S_api_Poster [] x0.1.1) (@I.nat .i64 y1.1.1)).1, ((@rdL S_api_Poster Z_S_api_Poster (@appL S_api_Poster [] x0.1.1) (@I.nat .i64 y1.1.1)).2.1, ((@rdL S_api_Poster Z_S_api_Poster (@appL S_api_Poster [] x0.1.1) (@I.nat .i64 y1.1.1)).2.2.1, ((@rdL S_api_Poster Z_S_api_Poster (@appL S_api_Poster [] x0.1.1) (@I.nat .i64 y1.1.1)).2.2.2.1, ((@rdL S_api_Poster Z_S_api_Poster (@appL S_api_Poster [] x0.1.1) (@I.nat .i64 y1.1.1)).2.2.2.2.1, (x0.1.2.2.1, (@rdL S_api_Poster Z_S_api_Poster (@appL S_api_Poster [] x0.1.1) (@I.nat .i64 y1.1.1)).2.2.2.2.2.2))))))) (@I.nat .i64 y1.1.1) ((@rdL S_api_Poster Z_S_api_Poster (@setL S_api_Poster (@appL S_api_Poster [] x0.1.1) (@I.nat .i64 y1.1.1) ((@rdL S_api_Poster Z_S_api_Poster (@appL S_api_Poster [] x0.1.1) (@I.nat .i64 y1.1.1)).1, ((@rdL S_api_Poster Z_S_api_Poster (@appL S_api_Poster [] x0.1.1) (@I.nat .i64 y1.1.1)).2.1, ((@rdL S_api_Poster Z_S_api_Poster (@appL S_api_Poster [] x0.1.1) (@I.nat .i64 y1.1.1)).2.2.1, ((@rdL S_api_Poster Z_S_api_Poster (@appL S_api_Poster [] x0.1.1) (@I.nat .i64 y1.1.1)).2.2.2.1, ((@rdL S_api_Poster Z_S_api_Poster (@appL S_api_Poster [] x0.1.1) (@I.nat .i64 y1.1.1)).2.2.2.2.1, (x0.1.2.2.1, (@rdL S_api_Poster Z_S_api_Poster (@appL S_api_Poster [] x0.1.1) (@I.nat .i64 y1.1.1)).2.2.2.2.2.2))))))) (@I.nat .i64 y1.1.1)).1, (y17.1.1, (@rdL S_api_Poster Z_S_api_Poster (@setL S_api_Poster (@appL S_api_Poster [] x0.1.1) (@I.nat .i64 y1.1.1) ((@rdL S_api_Poster Z_S_api_Poster (@appL S_api_Poster [] x0.1.1) (@I.nat .i64 y1.1.1)).1, ((@rdL S_api_Poster Z_S_api_Poster (@appL S_api_Poster [] x0.1.1) (@I.nat .i64 y1.1.1)).2.1, ((@rdL S_api_Poster Z_S_api_Poster (@appL S_api_Poster [] x0.1.1) (@I.nat .i64 y1.1.1)).2.2.1, ((@rdL S_api_Poster Z_S_api_Poster (@appL S_api_Poster [] x0.1.1) (@I.nat .i64 y1.1.1)).2.2.2.1, ((@rdL S_api_Poster Z_S_api_Poster (@appL S_api_Poster [] x0.1.1) (@I.nat .i64 y1.1.1)).2.2.2.2.1, (x0.1.2.2.1, (@rdL S_api_Poster Z_S_api_Poster (@appL S_api_Poster [] x0.1.1) (@I.nat .i64 y1.1.1)).2.2.2.2.2.2))))))) (@I.nat .i64 y1.1.1)).2.2))) (@I.nat .i64 y1.1.1)).2.1, (y18.1.1, (@rdL S_api_Poster Z_S_api_Poster (@setL S_api_Poster (@setL S_api_Poster (@appL S_api_Poster [] x0.1.1) (@I.nat .i64 y1.1.1) ((@rdL S_api_Poster Z_S_api_Poster (@appL S_api_Poster [] x0.1.1) (@I.nat .i64 y1.1.1)).1, ((@rdL S_api_Poster Z_S_api_Poster (@appL S_api_Poster [] x0.1.1) (@I.nat .i64 y1.1.1)).2.1, ((@rdL S_api_Poster Z_S_api_Poster (@appL S_api_Poster [] x0.1.1) (@I.nat .i64 y1.1.1)).2.2.1, ((@rdL S_api_Poster Z_S_api_Poster (@appL S_api_Poster [] x0.1.1) (@I.nat .i64 y1.1.1)).2.2.2.1, ((@rdL S_api_Poster Z_S_api_Poster (@appL S_api_Poster [] x0.1.1) (@I.nat .i64 y1.1.1)).2.2.2.2.1, (x0.1.2.2.1, (@rdL S_api_Poster Z_S_api_Poster (@appL S_api_Poster [] x0.1.1) (@I.nat .i64 y1.1.1)).2.2.2.2.2.2))))))) (@I.nat .i64 y1.1.1) ((@rdL S_api_Poster Z_S_api_Poster (@setL S_api_Poster (@appL S_api_Poster [] x0.1.1) (@I.nat .i64 y1.1.1) ((@rdL S_api_Poster Z_S_api_Poster (@appL S_api_Poster [] x0.1.1) (@I.nat .i64 y1.1.1)).1, ((@rdL S_api_Poster Z_S_api_Poster (@appL S_api_Poster [] x0.1.1) (@I.nat .i64 y1.1.1)).2.1, ((@rdL S_api_Poster Z_S_api_Poster (@appL S_api_Poster [] x0.1.1) (@I.nat .i64 y1.1.1)).2.2.1, ((@rdL S_api_Poster Z_S_api_Poster (@appL S_api_Poster [] x0.1.1) (@I.nat .i64 y1.1.1)).2.2.2.1, ((@rdL S_api_Poster Z_S_api_Poster (@appL S_api_Poster [] x0.1.1) (@I.nat .i64 y1.1.1)).2.2.2.2.1, (x0.1.2.2.1, (@rdL S_api_Poster Z_S_api_Poster (@appL S_api_Poster [] x0.1.1) (@I.nat .i64 y1.1.1)).2.2.2.2.2.2))))))) (@I.nat .i64 y1.1.1)).1, (y17.1.1, (@rdL S_api_Poster Z_S_api_Poster (@setL S_api_Poster (@appL S_api_Poster [] x0.1.1) (@I.nat .i64 y1.1.1) ((@rdL S_api_Poster Z_S_api_Poster (@appL S_api_Poster [] x0.1.1) (@I.nat .i64 y1.1.1)).1, ((@rdL S_api_Poster Z_S_api_Poster (@appL S_api_Poster [] x0.1.1) (@I.nat .i64 y1.1.1)).2.1, ((@rdL S_api_Poster Z_S_api_Poster (@appL S_api_Poster [] x0.1.1) (@I.nat .i64 y1.1.1)).2.2.1, ((@rdL S_api_Poster Z_S_api_Poster (@appL S_api_Poster [] x0.1.1) (@I.nat .i64 y1.1.1)).2.2.2.1, ((@rdL S_api_Poster Z_S_api_Poster (@appL S_api_Poster [] x0.1.1) (@I.nat .i64 y1.1.1)).2.2.2.2.1, (x0.1.2.2.1, (@rdL S_api_Poster Z_S_api_Poster (@appL S_api_Poster [] x0.1.1) (@I.nat .i64 y1.1.1)).2.2.2.2.2.2))))))) (@I.nat .i64 y1.1.1)).2.2))) (@I.nat .i64 y1.1.1)).2.2.2)))) (@I.nat .i64 y1.1.1)).2.1, ((@rdL S_api_Poster Z_S_api_Poster (@setL S_api_Poster (@setL S_api_Poster (@setL S_api_Poster (@appL S_api_Poster [] x0.1.1) (@I.nat .i64 y1.1.1) ((@rdL S_api_Poster Z_S_api_Poster (@appL S_api_Poster [] x0.1.1) (@I.nat .i64 y1.1.1)).1, ((@rdL S_api_Poster Z_S_api_Poster (@appL S_api_Poster [] x0.1.1) (@I.nat .i64 y1.1.1)).2.1, ((@rdL S_api_Poster Z_S_api_Poster (@appL S_api_Poster [] x0.1.1) (@I.nat .i64 y1.1.1)).2.2.1, ((@rdL S_api_Poster Z_S_api_Poster (@appL S_api_Poster [] x0.1.1) (@I.nat .i64 y1.1.1)).2.2.2.1, ((@rdL S_api_Poster Z_S_api_Poster (@appL S_api_Poster [] x0.1.1) (@I.nat .i64 y1.1.1)).2.2.2.2.1, (x0.1.2.2.1, (@rdL S_api_Poster Z_S_api_Poster (@appL S_api_Poster [] x0.1.1) (@I.nat .i64 y1.1.1)).2.2.2.2.2.2))))))) (@I.nat .i64 y1.1.1) ((@rdL S_api_Poster Z_S_api_Poster (@setL S_api_Poster (@appL S_api_Poster [] x0.1.1) (@I.nat .i64 y1.1.1) ((@rdL S_api_Poster Z_S_api_Poster (@appL S_api_Poster [] x0.1.1) (@I.nat .i64 y1.1.1)).1, ((@rdL S_api_Poster Z_S_api_Poster (@appL S_api_Poster [] x0.1.1) (@I.nat .i64 y1.1.1)).2.1, ((@rdL S_api_Poster Z_S_api_Poster (@appL S_api_Poster [] x0.1.1) (@I.nat .i64 y1.1.1)).2.2.1, ((@rdL S_api_Poster Z_S_api_Poster (@appL S_api_Poster [] x0.1.1) (@I.nat .i64 y1.1.1)).2.2.2.1, ((@rdL S_api_Poster Z_S_api_Poster (@appL S_api_Poster [] x0.1.1) (@I.nat .i64 y1.1.1)).2.2.2.2.1, (x0.1.2.2.1, (@rdL S_api_Poster Z_S_api_Poster (@appL S_api_Poster [] x0.1.1) (@I.nat .i64 y1.1.1)).2.2.2.2.2.2))))))) (@I.nat .i64 y1.1.1)).1, (y17.1.1, (@rdL S_api_Poster Z_S_api_Poster (@setL S_api_Poster (@appL S_api_Poster [] x0.1.1) (@I.nat .i64 y1.1.1) ((@rdL S_api_Poster Z_S_api_Poster (@appL S_api_Poster [] x0.1.1) (@I.nat .i64 y1.1.1)).1, ((@rdL S_api_Poster Z_S_api_Poster (@appL S_api_Poster [] x0.1.1) (@I.nat .i64 y1.1.1)).2.1, ((@rdL S_api_Poster Z_S_api_Poster (@appL S_api_Poster [] x0.1.1) (@I.nat .i64 y1.1.1)).2.2.1, ((@rdL S_api_Poster Z_S_api_Poster (@appL S_api_Poster [] x0.1.1) (@I.nat .i64 y1.1.1)).2.2.2.1, ((@rdL S_api_Poster Z_S_api_Poster (@appL S_api_Poster [] x0.1.1) (@I.nat .i64 y1.1.1)).2.2.2.2.1, (x0.1.2.2.1, (@rdL S_api_Poster Z_S_api_Poster (@appL S_api_Poster [] x0.1.1) (@I.nat .i64 y1.1.1)).2.2.2.2.2.2))))))) (@I.nat .i64 y1.1.1)).2.2))) (@I.nat .i64 y1.1.1) ((@rdL S_api_Poster Z_S_api_Poster (@setL S_api_Poster (@setL S_api_Poster (@appL S_api_Poster [] x0.1.1) (@I.nat .i64 y1.1.1) ((@rdL S_api_Poster Z_S_api_Poster (@appL S_api_Poster [] x0.1.1) (@I.nat .i64 y1.1.1)).1, ((@rdL S_api_Poster Z_S_api_Poster (@appL S_api_Poster [] x0.1.1) (@I.nat .i64 y1.1.1)).2.1, ((@rdL S_api_Poster Z_S_api_Poster (@appL S_api_Poster [] x0.1.1) (@I.nat .i64 y1.1.1)).2.2.1, ((@rdL S_api_Poster Z_S_api_Poster (@appL S_api_Poster [] x0.1.1) (@I.nat .i64 y1.1.1)).2.2.2.1, ((@rdL S_api_Poster Z_S_api_Poster (@appL S_api_Poster [] x0.1.1) (@I.nat .i64 y1.1.1)).2.2.2.2.1, (x0.1.2.2.1, (@rdL S_api_Poster Z_S_api_Poster (@appL S_api_Poster [] x0.1.1) (@I.nat .i64 y1.1.1)).2.2.2.2.2.2))))))) (@I.nat .i64 y1.1.1) ((@rdL S_api_Poster Z_S_api_Poster (@setL S_api_Poster (@appL S_api_Poster [] x0.1.1) (@I.nat .i64 y1.1.1) ((@rdL S_api_Poster Z_S_api_Poster (@appL S_api_Poster [] x0.1.1) (@I.nat .i64 y1.1.1)).1, ((@rdL S_api_Poster Z_S_api_Poster (@appL S_api_Poster [] x0.1.1) (@I.nat .i64 y1.1.1)).2.1, ((@rdL S_api_Poster Z_S_api_Poster (@appL S_api_Poster [] x0.1.1) (@I.nat .i64 y1.1.1)).2.2.1, ((@rdL S_api_Poster Z_S_api_Poster (@appL S_api_Poster [] x0.1.1) (@I.nat .i64 y1.1.1)).2.2.2.1, ((@rdL S_api_Poster Z_S_api_Poster (@appL S_api_Poster [] x0.1.1) (@I.nat .i64 y1.1.1)).2.2.2.2.1, (x0.1.2.2.1, (@rdL S_api_Poster Z_S_api_Poster (@appL S_api_Poster [] x0.1.1) (@I.nat .i64 y1.1.1)).2.2.2.2.2.2))))))) (@I.nat .i64 y1.1.1)).1, (y17.1.1, (@rdL S_api_Poster Z_S_api_Poster (@setL S_api_Poster (@appL S_api_Poster [] x0.1.1) (@I.nat .i64 y1.1.1) ((@rdL S_api_Poster Z_S_api_Poster (@appL S_api_Poster [] x0.1.1) (@I.nat .i64 y1.1.1)).1, ((@rdL S_api_Poster Z_S_api_Poster (@appL S_api_Poster [] x0.1.1) (@I.nat .i64 y1.1.1)).2.1, ((@rdL S_api_Poster Z_S_api_Poster (@appL S_api_Poster [] x0.1.1) (@I.nat .i64 y1.1.1)).2.2.1, ((@rdL S_api_Poster Z_S_api_Poster (@appL S_api_Poster [] x0.1.1) (@I.nat .i64 y1.1.1)).2.2.2.1, ((@rdL S_api_Poster Z_S_api_Poster (@appL S_api_Poster [] x0.1.1) (@I.nat .i64 y1.1.1)).2.2.2.2.1, (x0.1.2.2.1, (@rdL S_api_Poster Z_S_api_Poster (@appL S_api_Poster [] x0.1.1) (@I.nat .i64 y1.1.1)).2.2.2.2.2.2))))))) (@I.nat .i64 y1.1.1)).2.2))) (@I.nat .i64 y1.1.1)).1, ((@rdL S_api_Poster Z_S_api_Poster (@setL S_api_Poster (@setL S_api_Poster (@appL S_api_Poster [] x0.1.1) (@I.nat .i64 y1.1.1) ((@rdL S_api_Poster Z_S_api_Poster (@appL S_api_Poster [] x0.1.1) (@I.nat .i64 y1.1.1)).1, ((@rdL S_api_Poster Z_S_api_Poster (@appL S_api_Poster [] x0.1.1) (@I.nat .i64 y1.1.1)).2.1, ((@rdL S_api_Poster Z_S_api_Poster (@appL S_api_Poster [] x0.1.1) (@I.nat .i64 y1.1.1)).2.2.1, ((@rdL S_api_Poster Z_S_api_Poster (@appL S_api_Poster [] x0.1.1) (@I.nat .i64 y1.1.1)).2.2.2.1, ((@rdL S_api_Poster Z_S_api_Poster (@appL S_api_Poster [] x0.1.1) (@I.nat .i64 y1.1.1)).2.2.2.2.1, (x0.1.2.2.1, (@rdL S_api_Poster Z_S_api_Poster (@appL S_api_Poster [] x0.1.1) (@I.nat .i64 y1.1.1)).2.2.2.2.2.2))))))) (@I.nat .i64 y1.1.1) ((@rdL S_api_Poster Z_S_api_Poster (@setL S_api_Poster (@appL S_api_Poster [] x0.1.1) (@I.nat .i64 y1.1.1) ((@rdL S_api_Poster Z_S_api_Poster (@appL S_api_Poster [] x0.1.1) (@I.nat .i64 y1.1.1)).1, ((@rdL S_api_Poster Z_S_api_Poster (@appL S_api_Poster [] x0.1.1) (@I.nat .i64 y1.1.1)).2.1, ((@rdL S_api_Poster Z_S_api_Poster (@appL S_api_Poster [] x0.1.1) (@I.nat .i64 y1.1.1)).2.2.1, ((@rdL S_api_Poster Z_S_api_Poster (@appL S_api_Poster [] x0.1.1) (@I.nat .i64 y1.1.1)).2.2.2.1, ((@rdL S_api_Poster Z_S_api_Poster (@appL S_api_Poster [] x0.1.1) (@I.nat .i64 y1.1.1)).2.2.2.2.1, (x0.1.2.2.1, (@rdL S_api_Poster Z_S_api_Poster (@appL S_api_Poster [] x0.1.1) (@I.nat .i64 y1.1.1)).2.2.2.2.2.2))))))) (@I.nat .i64 y1.1.1)).1, (y17.1.1, (@rdL S_api_Poster Z_S_api_Poster (@setL S_api_Poster (@appL S_api_Poster [] x0.1.1) (@I.nat .i64 y1.1.1) ((@rdL S_api_Poster Z_S_api_Poster (@appL S_api_Poster [] x0.1.1) (@I.nat .i64 y1.1.1)).1, ((@rdL S_api_Poster Z_S_api_Poster (@appL S_api_Poster [] x0.1.1) (@I.nat .i64 y1.1.1)).2.1, ((@rdL S_api_Poster Z_S_api_Poster (@appL S_api_Poster [] x0.1.1) (@I.nat .i64 y1.1.1)).2.2.1, ((@rdL S_api_Poster Z_S_api_Poster (@appL S_api_Poster [] x0.1.1) (@I.nat .i64 y1.1.1)).2.2.2.1, ((@rdL S_api_Poster Z_S_api_Poster (@appL S_api_Poster [] x0.1.1) (@I.nat .i64 y1.1.1)).2.2.2.2.1, (x0.1.2.2.1, (@rdL S_api_Poster Z_S_api_Poster (@appL S_api_Poster [] x0.1.1) (@I.nat .i64 y1.1.1)).2.2.2.2.2.2))))))) (@I.nat .i64 y1.1.1)).2.2))) (@I.nat .i64 y1.1.1)).2.1, (y18.1.1, (@rdL S_api_Poster Z_S_api_Poster (@setL S_api_Poster (@setL S_api_Poster (@appL S_api_Poster [] x0.1.1) (@I.nat .i64 y1.1.1) ((@rdL S_api_Poster Z_S_api_Poster (@appL S_api_Poster [] x0.1.1) (@I.nat .i64 y1.1.1)).1, ((@rdL S_api_Poster Z_S_api_Poster (@appL S_api_Poster [] x0.1.1) (@I.nat .i64 y1.1.1)).2.1, ((@rdL S_api_Poster Z_S_api_Poster (@appL S_api_Poster [] x0.1.1) (@I.nat .i64 y1.1.1)).2.2.1, ((@rdL S_api_Poster Z_S_api_Poster (@appL S_api_Poster [] x0.1.1) (@I.nat .i64 y1.1.1)).2.2.2.1, ((@rdL S_api_Poster Z_S_api_Poster (@appL S_api_Poster [] x0.1.1) (@I.nat .i64 y1.1.1)).2.2.2.2.1, (x0.1.2.2.1, (@rdL S_api_Poster Z_S_api_Poster (@appL S_api_Poster [] x0.1.1) (@I.nat .i64 y1.1.1)).2.2.2.2.2.2))))))) (@I.nat .i64 y1.1.1) ((@rdL S_api_Poster Z_S_api_Poster (@setL S_api_Poster (@appL S_api_Poster [] x0.1.1) (@I.nat .i64 y1.1.1) ((@rdL S_api_Poster Z_S_api_Poster (@appL S_api_Poster [] x0.1.1) (@I.nat .i64 y1.1.1)).1, ((@rdL S_api_Poster Z_S_api_Poster (@appL S_api_Poster [] x0.1.1) (@I.nat .i64 y1.1.1)).2.1, ((@rdL S_api_Poster Z_S_api_Poster (@appL S_api_Poster [] x0.1.1) (@I.nat .i64 y1.1.1)).2.2.1, ((@rdL S_api_Poster Z_S_api_Poster (@appL S_api_Poster [] x0.1.1) (@I.nat .i64 y1.1.1)).2.2.2.1, ((@rdL S_api_Poster Z_S_api_Poster (@appL S_api_Poster [] x0.1.1) (@I.nat .i64 y1.1.1)).2.2.2.2.1, (x0.1.2.2.1, (@rdL S_api_Poster Z_S_api_Poster (@appL S_api_Poster [] x0.1.1) (@I.nat .i64 y1.1.1)).2.2.2.2.2.2))))))) (@I.nat .i64 y1.1.1)).1, (y17.1.1, (@rdL S_api_Poster Z_S_api_Poster (@setL S_api_Poster (@appL S_api_Poster [] x0.1.1) (@I.nat .i64 y1.1.1) ((@rdL S_api_Poster Z_S_api_Poster (@appL S_api_Poster [] x0.1.1) (@I.nat .i64 y1.1.1)).1, ((@rdL S_api_Poster Z_S_api_Poster (@appL S_api_Poster [] x0.1.1) (@I.nat .i64 y1.1.1)).2.1, ((@rdL S_api_Poster Z_S_api_Poster (@appL S_api_Poster [] x0.1.1) (@I.nat .i64 y1.1.1)).2.2.1, ((@rdL S_api_Poster Z_S_api_Poster (@appL S_api_Poster [] x0.1.1) (@I.nat .i64 y1.1.1)).2.2.2.1, ((@rdL S_api_Poster Z_S_api_Poster (@appL S_api_Poster [] x0.1.1) (@I.nat .i64 y1.1.1)).2.2.2.2.1, (x0.1.2.2.1, (@rdL S_api_Poster Z_S_api_Poster (@appL S_api_Poster [] x0.1.1) (@I.nat .i64 y1.1.1)).2.2.2.2.2.2))))))) (@I.nat .i64 y1.1.1)).2.2))) (@I.nat .i64 y1.1.1)).2.2.2)))) (@I.nat .i64 y1.1.1)).2.2.1, (y19.1.1, (@rdL S_api_Poster Z_S_api_Poster (@setL S_api_Poster (@setL S_api_Poster (@setL S_api_Poster (@appL S_api_Poster [] x0.1.1) (@I.nat .i64 y1.1.1) ((@rdL S_api_Poster Z_S_api_Poster (@appL S_api_Poster [] x0.1.1) (@I.nat .i64 y1.1.1)).1, ((@rdL S_api_Poster Z_S_api_Poster (@appL S_api_Poster [] x0.1.1) (@I.nat .i64 y1.1.1)).2.1, ((@rdL S_api_Poster Z_S_api_Poster (@appL S_api_Poster [] x0.1.1) (@I.nat .i64 y1.1.1)).2.2.1, ((@rdL S_api_Poster Z_S_api_Poster (@appL S_api_Poster [] x0.1.1) (@I.nat .i64 y1.1.1)).2.2.2.1, ((@rdL S_api_Poster Z_S_api_Poster (@appL S_api_Poster [] x0.1.1) (@I.nat .i64 y1.1.1)).2.2.2.2.1, (x0.1.2.2.1, (@rdL S_api_Poster Z_S_api_Poster (@appL S_api_Poster [] x0.1.1) (@I.nat .i64 y1.1.1)).2.2.2.2.2.2))))))) (@I.nat .i64 y1.1.1) ((@rdL S_api_Poster Z_S_api_Poster (@setL S_api_Poster (@appL S_api_Poster [] x0.1.1) (@I.nat .i64 y1.1.1) ((@rdL S_api_Poster Z_S_api_Poster (@appL S_api_Poster [] x0.1.1) (@I.nat .i64 y1.1.1)).1, ((@rdL S_api_Poster Z_S_api_Poster (@appL S_api_Poster [] x0.1.1) (@I.nat .i64 y1.1.1)).2.1, ((@rdL S_api_Poster Z_S_api_Poster (@appL S_api_Poster [] x0.1.1) (@I.nat .i64 y1.1.1)).2.2.1, ((@rdL S_api_Poster Z_S_api_Poster (@appL S_api_Poster [] x0.1.1) (@I.nat .i64 y1.1.1)).2.2.2.1, ((@rdL S_api_Poster Z_S_api_Poster (@appL S_api_Poster [] x0.1.1) (@I.nat .i64 y1.1.1)).2.2.2.2.1, (x0.1.2.2.1, (@rdL S_api_Poster Z_S_api_Poster (@appL S_api_Poster [] x0.1.1) (@I.nat .i64 y1.1.1)).2.2.2.2.2.2))))))) (@I.nat .i64 y1.1.1)).1, (y17.1.1, (@rdL S_api_Poster Z_S_api_Poster (@setL S_api_Poster (@appL S_api_Poster [] x0.1.1) (@I.nat .i64 y1.1.1) ((@rdL S_api_Poster Z_S_api_Poster (@appL S_api_Poster [] x0.1.1) (@I.nat .i64 y1.1.1)).1, ((@rdL S_api_Poster Z_S_api_Poster (@appL S_api_Poster [] x0.1.1) (@I.nat .i64 y1.1.1)).2.1, ((@rdL S_api_Poster Z_S_api_Poster (@appL S_api_Poster [] x0.1.1) (@I.nat .i64 y1.1.1)).2.2.1, ((@rdL S_api_Poster Z_S_api_Poster (@appL S_api_Poster [] x0.1.1) (@I.nat .i64 y1.1.1)).2.2.2.1, ((@rdL S_api_Poster Z_S_api_Poster (@appL S_api_Poster [] x0.1.1) (@I.nat .i64 y1.1.1)).2.2.2.2.1, (x0.1.2.2.1, (@rdL S_api_Poster Z_S_api_Poster (@appL S_api_Poster [] x0.1.1) (@I.nat .i64 y1.1.1)).2.2.2.2.2.2))))))) (@I.nat .i64 y1.1.1)).2.2))) (@I.nat .i64 y1.1.1) ((@rdL S_api_Poster Z_S_api_Poster (@setL S_api_Poster (@setL S_api_Poster (@appL S_api_Poster [] x0.1.1) (@I.nat .i64 y1.1.1) ((@rdL S_api_Poster Z_S_api_Poster (@appL S_api_Poster [] x0.1.1) (@I.nat .i64 y1.1.1)).1, ((@rdL S_api_Poster Z_S_api_Poster (@appL S_api_Poster [] x0.1.1) (@I.nat .i64 y1.1.1)).2.1, ((@rdL S_api_Poster Z_S_api_Poster (@appL S_api_Poster [] x0.1.1) (@I.nat .i64 y1.1.1)).2.2.1, ((@rdL S_api_Poster Z_S_api_Poster (@appL S_api_Poster [] x0.1.1) (@I.nat .i64 y1.1.1)).2.2.2.1, ((@rdL S_api_Poster Z_S_api_Poster (@appL S_api_Poster [] x0.1.1) (@I.nat .i64 y1.1.1)).2.2.2.2.1, (x0.1.2.2.1, (@rdL S_api_Poster Z_S_api_Poster (@appL S_api_Poster [] x0.1.1) (@I.nat .i64 y1.1.1)).2.2.2.2.2.2))))))) (@I.nat .i64 y1.1.1) ((@rdL S_api_Poster Z_S_api_Poster (@setL S_api_Poster (@appL S_api_Poster [] x0.1.1) (@I.nat .i64 y1.1.1) ((@rdL S_api_Poster Z_S_api_Poster (@appL S_api_Poster [] x0.1.1) (@I.nat .i64 y1.1.1)).1, ((@rdL S_api_Poster Z_S_api_Poster (@appL S_api_Poster [] x0.1.1) (@I.nat .i64 y1.1.1)).2.1, ((@rdL S_api_Poster Z_S_api_Poster (@appL S_api_Poster [] x0.1.1) (@I.nat .i64 y1.1.1)).2.2.1, ((@rdL S_api_Poster Z_S_api_Poster (@appL S_api_Poster [] x0.1.1) (@I.nat .i64 y1.1.1)).2.2.2.1, ((@rdL S_api_Poster Z_S_api_Poster (@appL S_api_Poster [] x0.1.1) (@I.nat .i64 y1.1.1)).2.2.2.2.1, (x0.1.2.2.1, (@rdL S_api_Poster Z_S_api_Poster (@appL S_api_Poster [] x0.1.1) (@I.nat .i64 y1.1.1)).2.2.2.2.2.2))))))) (@I.nat .i64 y1.1.1)).1, (y17.1.1, (@rdL S_api_Poster Z_S_api_Poster (@setL S_api_Poster (@appL S_api_Poster [] x0.1.1) (@I.nat .i64 y1.1.1) ((@rdL S_api_Poster Z_S_api_Poster (@appL S_api_Poster [] x0.1.1) (@I.nat .i64 y1.1.1)).1, ((@rdL S_api_Poster Z_S_api_Poster (@appL S_api_Poster [] x0.1.1) (@I.nat .i64 y1.1.1)).2.1, ((@rdL S_api_Poster Z_S_api_Poster (@appL S_api_Poster [] x0.1.1) (@I.nat .i64 y1.1.1)).2.2.1, ((@rdL S_api_Poster Z_S_api_Poster (@appL S_api_Poster [] x0.1.1) (@I.nat .i64 y1.1.1)).2.2.2.1, ((@rdL S_api_Poster Z_S_api_Poster (@appL S_api_Poster [] x0.1.1) (@I.nat .i64 y1.1.1)).2.2.2.2.1, (x0.1.2.2.1, (@rdL S_api_Poster Z_S_api_Poster (@appL S_api_Poster [] x0.1.1) (@I.nat .i64 y1.1.1)).2.2.2.2.2.2))))))) (@I.nat .i64 y1.1.1)).2.2))) (@I.nat .i64 y1.1.1)).1, ((@rdL S_api_Poster Z_S_api_Poster (@setL S_api_Poster (@setL S_api_Poster (@appL S_api_Poster [] x0.1.1) (@I.nat .i64 y1.1.1) ((@rdL S_api_Poster Z_S_api_Poster (@appL S_api_Poster [] x0.1.1) (@I.nat .i64 y1.1.1)).1, ((@rdL S_api_Poster Z_S_api_Poster (@appL S_api_Poster [] x0.1.1) (@I.nat .i64 y1.1.1)).2.1, ((@rdL S_api_Poster Z_S_api_Poster (@appL S_api_Poster [] x0.1.1) (@I.nat .i64 y1.1.1)).2.2.1, ((@rdL S_api_Poster Z_S_api_Poster (@appL S_api_Poster [] x0.1.1) (@I.nat .i64 y1.1.1)).2.2.2.1, ((@rdL S_api_Poster Z_S_api_Poster (@appL S_api_Poster [] x0.1.1) (@I.nat .i64 y1.1.1)).2.2.2.2.1, (x0.1.2.2.1, (@rdL S_api_Poster Z_S_api_Poster (@appL S_api_Poster [] x0.1.1) (@I.nat .i64 y1.1.1)).2.2.2.2.2.2))))))) (@I.nat .i64 y1.1.1) ((@rdL S_api_Poster Z_S_api_Poster (@setL S_api_Poster (@appL S_api_Poster [] x0.1.1) (@I.nat .i64 y1.1.1) ((@rdL S_api_Poster Z_S_api_Poster (@appL S_api_Poster [] x0.1.1) (@I.nat .i64 y1.1.1)).1, ((@rdL S_api_Poster Z_S_api_Poster (@appL S_api_Poster [] x0.1.1) (@I.nat .i64 y1.1.1)).2.1, ((@rdL S_api_Poster Z_S_api_Poster (@appL S_api_Poster [] x0.1.1) (@I.nat .i64 y1.1.1)).2.2.1, ((@rdL S_api_Poster Z_S_api_Poster (@appL S_api_Poster [] x0.1.1) (@I.nat .i64 y1.1.1)).2.2.2.1, ((@rdL S_api_Poster Z_S_api_Poster (@appL S_api_Poster [] x0.1.1) (@I.nat .i64 y1.1.1)).2.2.2.2.1, (x0.1.2.2.1, (@rdL S_api_Poster Z_S_api_Poster (@appL S_api_Poster [] x0.1.1) (@I.nat .i64 y1.1.1)).2.2.2.2.2.2))))))) (@I.nat .i64 y1.1.1)).1, (y17.1.1, (@rdL S_api_Poster Z_S_api_Poster (@setL S_api_Poster (@appL S_api_Poster [] x0.1.1) (@I.nat .i64 y1.1.1) ((@rdL S_api_Poster Z_S_api_Poster (@appL S_api_Poster [] x0.1.1) (@I.nat .i64 y1.1.1)).1, ((@rdL S_api_Poster Z_S_api_Poster (@appL S_api_Poster [] x0.1.1) (@I.nat .i64 y1.1.1)).2.1, ((@rdL S_api_Poster Z_S_api_Poster (@appL S_api_Poster [] x0.1.1) (@I.nat .i64 y1.1.1)).2.2.1, ((@rdL S_api_Poster Z_S_api_Poster (@appL S_api_Poster [] x0.1.1) (@I.nat .i64 y1.1.1)).2.2.2.1, ((@rdL S_api_Poster Z_S_api_Poster (@appL S_api_Poster [] x0.1.1) (@I.nat .i64 y1.1.1)).2.2.2.2.1, (x0.1.2.2.1, (@rdL S_api_Poster Z_S_api_Poster (@appL S_api_Poster [] x0.1.1) (@I.nat .i64 y1.1.1)).2.2.2.2.2.2))))))) (@I.nat .i64 y1.1.1)).2.2))) (@I.nat .i64 y1.1.1)).2.1, (y18.1.1, (@rdL S_api_Poster Z_S_api_Poster (@setL S_api_Poster (@setL S_api_Poster (@appL S_api_Poster [] x0.1.1) (@I.nat .i64 y1.1.1) ((@rdL S_api_Poster Z_S_api_Poster (@appL S_api_Poster [] x0.1.1) (@I.nat .i64 y1.1.1)).1, ((@rdL S_api_Poster Z_S_api_Poster (@appL S_api_Poster [] x0.1.1) (@I.nat .i64 y1.1.1)).2.1, ((@rdL S_api_Poster Z_S_api_Poster (@appL S_api_Poster [] x0.1.1) (@I.nat .i64 y1.1.1)).2.2.1, ((@rdL S_api_Poster Z_S_api_Poster (@appL S_api_Poster [] x0.1.1) (@I.nat .i64 y1.1.1)).2.2.2.1, ((@rdL S_api_Poster Z_S_api_Poster (@appL S_api_Poster [] x0.1.1) (@I.nat .i64 y1.1.1)).2.2.2.2.1, (x0.1.2.2.1, (@rdL S_api_Poster Z_S_api_Poster (@appL S_api_Poster [] x0.1.1) (@I.nat .i64 y1.1.1)).2.2.2.2.2.2))))))) (@I.nat .i64 y1.1.1) ((@rdL S_api_Poster Z_S_api_Poster (@setL S_api_Poster (@appL S_api_Poster [] x0.1.1) (@I.nat .i64 y1.1.1) ((@rdL S_api_Poster Z_S_api_Poster (@appL S_api_Poster [] x0.1.1) (@I.nat .i64 y1.1.1)).1, ((@rdL S_api_Poster Z_S_api_Poster (@appL S_api_Poster [] x0.1.1) (@I.nat .i64 y1.1.1)).2.1, ((@rdL S_api_Poster Z_S_api_Poster (@appL S_api_Poster [] x0.1.1) (@I.nat .i64 y1.1.1)).2.2.1, ((@rdL S_api_Poster Z_S_api_Poster (@appL S_api_Poster [] x0.1.1) (@I.nat .i64 y1.1.1)).2.2.2.1, ((@rdL S_api_Poster Z_S_api_Poster (@appL S_api_Poster [] x0.1.1) (@I.nat .i64 y1.1.1)).2.2.2.2.1, (x0.1.2.2.1, (@rdL S_api_Poster Z_S_api_Poster (@appL S_api_Poster [] x0.1.1) (@I.nat .i64 y1.1.1)).2.2.2.2.2.2))))))) (@I.nat .i64 y1.1.1)).1, (y17.1.1, (@rdL S_api_Poster Z_S_api_Poster (@setL S_api_Poster (@appL S_api_Poster [] x0.1.1) (@I.nat .i64 y1.1.1) ((@rdL S_api_Poster Z_S_api_Poster (@appL S_api_Poster [] x0.1.1) (@I.nat .i64 y1.1.1)).1, ((@rdL S_api_Poster Z_S_api_Poster (@appL S_api_Poster [] x0.1.1) (@I.nat .i64 y1.1.1)).2.1, ((@rdL S_api_Poster Z_S_api_Poster (@appL S_api_Poster [] x0.1.1) (@I.nat .i64 y1.1.1)).2.2.1, ((@rdL S_api_Poster Z_S_api_Poster (@appL S_api_Poster [] x0.1.1) (@I.nat .i64 y1.1.1)).2.2.2.1, ((@rdL S_api_Poster Z_S_api_Poster (@appL S_api_Poster [] x0.1.1) (@I.nat .i64 y1.1.1)).2.2.2.2.1, (x0.1.2.2.1, (@rdL S_api_Poster Z_S_api_Poster (@appL S_api_Poster [] x0.1.1) (@I.nat .i64 y1.1.1)).2.2.2.2.2.2))))))) (@I.nat .i64 y1.1.1)).2.2))) (@I.nat .i64 y1.1.1)).2.2.2)))) (@I.nat .i64 y1.1.1)).2.2.2.2))))), ((I.of .i64 0), ())), ()))
           (optF (none) (pontageref1_ToUint256 ((y6.1.1, ()), ())) fun y17 =>
           optF (none) (pontageref1_ToUint256 ((y9.1.1, ()), ())) fun y18 =>
           optF (none) (pontageref1_ToUint256 ((y12.1.1, ()), ())) fun y19 =>
           some (((@setL S_api_Poster (@setL S_api_Poster (@setL S_api_Poster (@appL S_api_Poster [] x0.1.1) (@I.nat .i64 y1.1.1) ((@rdL S_api_Poster Z_S_api_Poster (@appL S_api_Poster [] x0.1.1) (@I.nat .i64 y1.1.1)).1, (y17.1.1, (@rdL S_api_Poster Z_S_api_Poster (@appL S_api_Poster [] x0.1.1) (@I.nat .i64 y1.1.1)).2.2))) (@I.nat .i64 y1.1.1) ((@rdL S_api_Poster Z_S_api_Poster (@setL S_api_Poster (@appL S_api_Poster [] x0.1.1) (@I.nat .i64 y1.1.1) ((@rdL S_api_Poster Z_S_api_Poster (@appL S_api_Poster [] x0.1.1) (@I.nat .i64 y1.1.1)).1, (y17.1.1, (@rdL S_api_Poster Z_S_api_Poster (@appL S_api_Poster [] x0.1.1) (@I.nat .i64 y1.1.1)).2.2))) (@I.nat .i64 y1.1.1)).1, ((@rdL S_api_Poster Z_S_api_Poster (@setL S_api_Poster (@appL S_api_Poster [] x0.1.1) (@I.nat .i64 y1.1.1) ((@rdL S_api_Poster Z_S_api_Poster (@appL S_api_Poster [] x0.1.1) (@I.nat .i64 y1.1.1)).1, (y17.1.1, (@rdL S_api_Poster Z_S_api_Poster (@appL S_api_Poster [] x0.1.1) (@I.nat .i64 y1.1.1)).2.2))) (@I.nat .i64 y1.1.1)).2.1, (y18.1.1, (@rdL S_api_Poster Z_S_api_Poster (@setL S_api_Poster (@appL S_api_Poster [] x0.1.1) (@I.nat .i64 y1.1.1) ((@rdL S_api_Poster Z_S_api_Poster (@appL S_api_Poster [] x0.1.1) (@I.nat .i64 y1.1.1)).1, (y17.1.1, (@rdL S_api_Poster Z_S_api_Poster (@appL S_api_Poster [] x0.1.1) (@I.nat .i64 y1.1.1)).2.2))) (@I.nat .i64 y1.1.1)).2.2.2)))) (@I.nat .i64 y1.1.1) ((@rdL S_api_Poster Z_S_api_Poster (@setL S_api_Poster (@setL S_api_Poster (@appL S_api_Poster [] x0.1.1) (@I.nat .i64 y1.1.1) ((@rdL S_api_Poster Z_S_api_Poster (@appL S_api_Poster [] x0.1.1) (@I.nat .i64 y1.1.1)).1, (y17.1.1, (@rdL S_api_Poster Z_S_api_Poster (@appL S_api_Poster [] x0.1.1) (@I.nat .i64 y1.1.1)).2.2))) (@I.nat .i64 y1.1.1) ((@rdL S_api_Poster Z_S_api_Poster (@setL S_api_Poster (@appL S_api_Poster [] x0.1.1) (@I.nat .i64 y1.1.1) ((@rdL S_api_Poster Z_S_api_Poster (@appL S_api_Poster [] x0.1.1) (@I.nat .i64 y1.1.1)).1, (y17.1.1, (@rdL S_api_Poster Z_S_api_Poster (@appL S_api_Poster [] x0.1.1) (@I.nat .i64 y1.1.1)).2.2))) (@I.nat .i64 y1.1.1)).1, ((@rdL S_api_Poster Z_S_api_Poster (@setL S_api_Poster (@appL S_api_Poster [] x0.1.1) (@I.nat .i64 y1.1.1) ((@rdL S_api_Poster Z_S_api_Poster (@appL S_api_Poster [] x0.1.1) (@I.nat .i64 y1.1.1)).1, (y17.1.1, (@rdL S_api_Poster Z_S_api_Poster (@appL S_api_Poster [] x0.1.1) (@I.nat .i64 y1.1.1)).2.2))) (@I.nat .i64 y1.1.1)).2.1, (y18.1.1, (@rdL S_api_Poster Z_S_api_Poster (@setL S_api_Poster (@appL S_api_Poster [] x0.1.1) (@I.nat .i64 y1.1.1) ((@rdL S_api_Poster Z_S_api_Poster (@appL S_api_Poster [] x0.1.1) (@I.nat .i64 y1.1.1)).1, (y17.1.1, (@rdL S_api_Poster Z_S_api_Poster (@appL S_api_Poster [] x0.1.1) (@I.nat .i64 y1.1.1)).2.2))) (@I.nat .i64 y1.1.1)).2.2.2)))) (@I.nat .i64 y1.1.1)).1, ((@rdL S_api_Poster Z_S_api_Poster (@setL S_api_Poster (@setL S_api_Poster (@appL S_api_Poster [] x0.1.1) (@I.nat .i64 y1.1.1) ((@rdL S_api_Poster Z_S_api_Poster (@appL S_api_Poster [] x0.1.1) (@I.nat .i64 y1.1.1)).1, (y17.1.1, (@rdL S_api_Poster Z_S_api_Poster (@appL S_api_Poster [] x0.1.1) (@I.nat .i64 y1.1.1)).2.2))) (@I.nat .i64 y1.1.1) ((@rdL S_api_Poster Z_S_api_Poster (@setL S_api_Poster (@appL S_api_Poster [] x0.1.1) (@I.nat .i64 y1.1.1) ((@rdL S_api_Poster Z_S_api_Poster (@appL S_api_Poster [] x0.1.1) (@I.nat .i64 y1.1.1)).1, (y17.1.1, (@rdL S_api_Poster Z_S_api_Poster (@appL S_api_Poster [] x0.1.1) (@I.nat .i64 y1.1.1)).2.2))) (@I.nat .i64 y1.1.1)).1, ((@rdL S_api_Poster Z_S_api_Poster (@setL S_api_Poster (@appL S_api_Poster [] x0.1.1) (@I.nat .i64 y1.1.1) ((@rdL S_api_Poster Z_S_api_Poster (@appL S_api_Poster [] x0.1.1) (@I.nat .i64 y1.1.1)).1, (y17.1.1, (@rdL S_api_Poster Z_S_api_Poster (@appL S_api_Poster [] x0.1.1) (@I.nat .i64 y1.1.1)).2.2))) (@I.nat .i64 y1.1.1)).2.1, (y18.1.1, (@rdL S_api_Poster Z_S_api_Poster (@setL S_api_Poster (@appL S_api_Poster [] x0.1.1) (@I.nat .i64 y1.1.1) ((@rdL S_api_Poster Z_S_api_Poster (@appL S_api_Poster [] x0.1.1) (@I.nat .i64 y1.1.1)).1, (y17.1.1, (@rdL S_api_Poster Z_S_api_Poster (@appL S_api_Poster [] x0.1.1) (@I.nat .i64 y1.1.1)).2.2))) (@I.nat .i64 y1.1.1)).2.2.2)))) (@I.nat .i64 y1.1.1)).2.1, ((@rdL S_api_Poster Z_S_api_Poster (@setL S_api_Poster (@setL S_api_Poster (@appL S_api_Poster [] x0.1.1) (@I.nat .i64 y1.1.1) ((@rdL S_api_Poster Z_S_api_Poster (@appL S_api_Poster [] x0.1.1) (@I.nat .i64 y1.1.1)).1, (y17.1.1, (@rdL S_api_Poster Z_S_api_Poster (@appL S_api_Poster [] x0.1.1) (@I.nat .i64 y1.1.1)).2.2))) (@I.nat .i64 y1.1.1) ((@rdL S_api_Poster Z_S_api_Poster (@setL S_api_Poster (@appL S_api_Poster [] x0.1.1) (@I.nat .i64 y1.1.1) ((@rdL S_api_Poster Z_S_api_Poster (@appL S_api_Poster [] x0.1.1) (@I.nat .i64 y1.1.1)).1, (y17.1.1, (@rdL S_api_Poster Z_S_api_Poster (@appL S_api_Poster [] x0.1.1) (@I.nat .i64 y1.1.1)).2.2))) (@I.nat .i64 y1.1.1)).1, ((@rdL S_api_Poster Z_S_api_Poster (@setL S_api_Poster (@appL S_api_Poster [] x0.1.1) (@I.nat .i64 y1.1.1) ((@rdL S_api_Poster Z_S_api_Poster (@appL S_api_Poster [] x0.1.1) (@I.nat .i64 y1.1.1)).1, (y17.1.1, (@rdL S_api_Poster Z_S_api_Poster (@appL S_api_Poster [] x0.1.1) (@I.nat .i64 y1.1.1)).2.2))) (@I.nat .i64 y1.1.1)).2.1, (y18.1.1, (@rdL S_api_Poster Z_S_api_Poster (@setL S_api_Poster (@appL S_api_Poster [] x0.1.1) (@I.nat .i64 y1.1.1) ((@rdL S_api_Poster Z_S_api_Poster (@appL S_api_Poster [] x0.1.1) (@I.nat .i64 y1.1.1)).1, (y17.1.1, (@rdL S_api_Poster Z_S_api_Poster (@appL S_api_Poster [] x0.1.1) (@I.nat .i64 y1.1.1)).2.2))) (@I.nat .i64 y1.1.1)).2.2.2)))) (@I.nat .i64 y1.1.1)).2.2.1, (y19.1.1, (@rdL S_api_Poster Z_S_api_Poster (@setL S_api_Poster (@setL S_api_Poster (@appL S_api_Poster [] x0.1.1) (@I.nat .i64 y1.1.1) ((@rdL S_api_Poster Z_S_api_Poster (@appL S_api_Poster [] x0.1.1) (@I.nat .i64 y1.1.1)).1, (y17.1.1, (@rdL S_api_Poster Z_S_api_Poster (@appL S_api_Poster [] x0.1.1) (@I.nat .i64 y1.1.1)).2.2))) (@I.nat .i64 y1.1.1) ((@rdL S_api_Poster Z_S_api_Poster (@setL S_api_Poster (@appL S_api_Poster [] x0.1.1) (@I.nat .i64 y1.1.1) ((@rdL S_api_Poster Z_S_api_Poster (@appL S_api_Poster [] x0.1.1) (@I.nat .i64 y1.1.1)).1, (y17.1.1, (@rdL S_api_Poster Z_S_api_Poster (@appL S_api_Poster [] x0.1.1) (@I.nat .i64 y1.1.1)).2.2))) (@I.nat .i64 y1.1.1)).1, ((@rdL S_api_Poster Z_S_api_Poster (@setL S_api_Poster (@appL S_api_Poster [] x0.1.1) (@I.nat .i64 y1.1.1) ((@rdL S_api_Poster Z_S_api_Poster (@appL S_api_Poster [] x0.1.1) (@I.nat .i64 y1.1.1)).1, (y17.1.1, (@rdL S_api_Poster Z_S_api_Poster (@appL S_api_Poster [] x0.1.1) (@I.nat .i64 y1.1.1)).2.2))) (@I.nat .i64 y1.1.1)).2.1, (y18.1.1, (@rdL S_api_Poster Z_S_api_Poster (@setL S_api_Poster (@appL S_api_Poster [] x0.1.1) (@I.nat .i64 y1.1.1) ((@rdL S_api_Poster Z_S_api_Poster (@appL S_api_Poster [] x0.1.1) (@I.nat .i64 y1.1.1)).1, (y17.1.1, (@rdL S_api_Poster Z_S_api_Poster (@appL S_api_Poster [] x0.1.1) (@I.nat .i64 y1.1.1)).2.2))) (@I.nat .i64 y1.1.1)).2.2.2)))) (@I.nat .i64 y1.1.1)).2.2.2.2))))), ((I.of .i64 0), ())), ())))
          (optF (none) (pontageref1_ToUint256 ((y6.1.1, ()), ())) fun y17 =>
          optF (none) (pontageref1_ToUint256 ((y9.1.1, ()), ())) fun y18 =>
          optF (none) (pontageref1_ToUint256 ((y12.1.1, ()), ())) fun y19 =>
          some (((@setL S_api_Poster (@setL S_api_Poster (@setL S_api_Poster (@appL S_api_Poster [] x0.1.1) (@I.nat .i64 y1.1.1) ((@rdL S_api_Poster Z_S_api_Poster (@appL S_api_Poster [] x0.1.1) (@I.nat .i64 y1.1.1)).1, (y17.1.1, (@rdL S_api_Poster Z_S_api_Poster (@appL S_api_Poster [] x0.1.1) (@I.nat .i64 y1.1.1)).2.2))) (@I.nat .i64 y1.1.1) ((@rdL S_api_Poster Z_S_api_Poster (@setL S_api_Poster (@appL S_api_Poster [] x0.1.1) (@I.nat .i64 y1.1.1) ((@rdL S_api_Poster Z_S_api_Poster (@appL S_api_Poster [] x0.1.1) (@I.nat .i64 y1.1.1)).1, (y17.1.1, (@rdL S_api_Poster Z_S_api_Poster (@appL S_api_Poster [] x0.1.1) (@I.nat .i64 y1.1.1)).2.2))) (@I.nat .i64 y1.1.1)).1, ((@rdL S_api_Poster Z_S_api_Poster (@setL S_api_Poster (@appL S_api_Poster [] x0.1.1) (@I.nat .i64 y1.1.1) ((@rdL S_api_Poster Z_S_api_Poster (@appL S_api_Poster [] x0.1.1) (@I.nat .i64 y1.1.1)).1, (y17.1.1, (@rdL S_api_Poster Z_S_api_Poster (@appL S_api_Poster [] x0.1.1) (@I.nat .i64 y1.1.1)).2.2))) (@I.nat .i64 y1.1.1)).2.1, (y18.1.1, (@rdL S_api_Poster Z_S_api_Poster (@setL S_api_Poster (@appL S_api_Poster [] x0.1.1) (@I.nat .i64 y1.1.1) ((@rdL S_api_Poster Z_S_api_Poster (@appL S_api_Poster [] x0.1.1) (@I.nat .i64 y1.1.1)).1, (y17.1.1, (@rdL S_api_Poster Z_S_api_Poster (@appL S_api_Poster [] x0.1.1) (@I.nat .i64 y1.1.1)).2.2))) (@I.nat .i64 y1.1.1)).2.2.2)))) (@I.nat .i64 y1.1.1) ((@rdL S_api_Poster Z_S_api_Poster (@setL S_api_Poster (@setL S_api_Poster (@appL S_api_Poster [] x0.1.1) (@I.nat .i64 y1.1.1) ((@rdL S_api_Poster Z_S_api_Poster (@appL S_api_Poster [] x0.1.1) (@I.nat .i64 y1.1.1)).1, (y17.1.1, (@rdL S_api_Poster Z_S_api_Poster (@appL S_api_Poster [] x0.1.1) (@I.nat .i64 y1.1.1)).2.2))) (@I.nat .i64 y1.1.1) ((@rdL S_api_Poster Z_S_api_Poster (@setL S_api_Poster (@appL S_api_Poster [] x0.1.1) (@I.nat .i64 y1.1.1) ((@rdL S_api_Poster Z_S_api_Poster (@appL S_api_Poster [] x0.1.1) (@I.nat .i64 y1.1.1)).1, (y17.1.1, (@rdL S_api_Poster Z_S_api_Poster (@appL S_api_Poster [] x0.1.1) (@I.nat .i64 y1.1.1)).2.2))) (@I.nat .i64 y1.1.1)).1, ((@rdL S_api_Poster Z_S_api_Poster (@setL S_api_Poster (@appL S_api_Poster [] x0.1.1) (@I.nat .i64 y1.1.1) ((@rdL S_api_Poster Z_S_api_Poster (@appL S_api_Poster [] x0.1.1) (@I.nat .i64 y1.1.1)).1, (y17.1.1, (@rdL S_api_Poster Z_S_api_Poster (@appL S_api_Poster [] x0.1.1) (@I.nat .i64 y1.1.1)).2.2))) (@I.nat .i64 y1.1.1)).2.1, (y18.1.1, (@rdL S_api_Poster Z_S_api_Poster (@setL S_api_Poster (@appL S_api_Poster [] x0.1.1) (@I.nat .i64 y1.1.1) ((@rdL S_api_Poster Z_S_api_Poster (@appL S_api_Poster [] x0.1.1) (@I.nat .i64 y1.1.1)).1, (y17.1.1, (@rdL S_api_Poster Z_S_api_Poster (@appL S_api_Poster [] x0.1.1) (@I.nat .i64 y1.1.1)).2.2))) (@I.nat .i64 y1.1.1)).2.2.2)))) (@I.nat .i64 y1.1.1)).1, ((@rdL S_api_Poster Z_S_api_Poster (@setL S_api_Poster (@setL S_api_Poster (@appL S_api_Poster [] x0.1.1) (@I.nat .i64 y1.1.1) ((@rdL S_api_Poster Z_S_api_Poster (@appL S_api_Poster [] x0.1.1) (@I.nat .i64 y1.1.1)).1, (y17.1.1, (@rdL S_api_Poster Z_S_api_Poster (@appL S_api_Poster [] x0.1.1) (@I.nat .i64 y1.1.1)).2.2))) (@I.nat .i64 y1.1.1) ((@rdL S_api_Poster Z_S_api_Poster (@setL S_api_Poster (@appL S_api_Poster [] x0.1.1) (@I.nat .i64 y1.1.1) ((@rdL S_api_Poster Z_S_api_Poster (@appL S_api_Poster [] x0.1.1) (@I.nat .i64 y1.1.1)).1, (y17.1.1, (@rdL S_api_Poster Z_S_api_Poster (@appL S_api_Poster [] x0.1.1) (@I.nat .i64 y1.1.1)).2.2))) (@I.nat .i64 y1.1.1)).1, ((@rdL S_api_Poster Z_S_api_Poster (@setL S_api_Poster (@appL S_api_Poster [] x0.1.1) (@I.nat .i64 y1.1.1) ((@rdL S_api_Poster Z_S_api_Poster (@appL S_api_Poster [] x0.1.1) (@I.nat .i64 y1.1.1)).1, (y17.1.1, (@rdL S_api_Poster Z_S_api_Poster (@appL S_api_Poster [] x0.1.1) (@I.nat .i64 y1.1.1)).2.2))) (@I.nat .i64 y1.1.1)).2.1, (y18.1.1, (@rdL S_api_Poster Z_S_api_Poster (@setL S_api_Poster (@appL S_api_Poster [] x0.1.1) (@I.nat .i64 y1.1.1) ((@rdL S_api_Poster Z_S_api_Poster (@appL S_api_Poster [] x0.1.1) (@I.nat .i64 y1.1.1)).1, (y17.1.1, (@rdL S_api_Poster Z_S_api_Poster (@appL S_api_Poster [] x0.1.1) (@I.nat .i64 y1.1.1)).2.2))) (@I.nat .i64 y1.1.1)).2.2.2)))) (@I.nat .i64 y1.1.1)).2.1, ((@rdL S_api_Poster Z_S_api_Poster (@setL S_api_Poster (@setL S_api_Poster (@appL S_api_Poster [] x0.1.1) (@I.nat .i64 y1.1.1) ((@rdL S_api_Poster Z_S_api_Poster (@appL S_api_Poster [] x0.1.1) (@I.nat .i64 y1.1.1)).1, (y17.1.1, (@rdL S_api_Poster Z_S_api_Poster (@appL S_api_Poster [] x0.1.1) (@I.nat .i64 y1.1.1)).2.2))) (@I.nat .i64 y1.1.1) ((@rdL S_api_Poster Z_S_api_Poster (@setL S_api_Poster (@appL S_api_Poster [] x0.1.1) (@I.nat .i64 y1.1.1) ((@rdL S_api_Poster Z_S_api_Poster (@appL S_api_Poster [] x0.1.1) (@I.nat .i64 y1.1.1)).1, (y17.1.1, (@rdL S_api_Poster Z_S_api_Poster (@appL S_api_Poster [] x0.1.1) (@I.nat .i64 y1.1.1)).2.2))) (@I.nat .i64 y1.1.1)).1, ((@rdL S_api_Poster Z_S_api_Poster (@setL S_api_Poster (@appL S_api_Poster [] x0.1.1) (@I.nat .i64 y1.1.1) ((@rdL S_api_Poster Z_S_api_Poster (@appL S_api_Poster [] x0.1.1) (@I.nat .i64 y1.1.1)).1, (y17.1.1, (@rdL S_api_Poster Z_S_api_Poster (@appL S_api_Poster [] x0.1.1) (@I.nat .i64 y1.1.1)).2.2))) (@I.nat .i64 y1.1.1)).2.1, (y18.1.1, (@rdL S_api_Poster Z_S_api_Poster (@setL S_api_Poster (@appL S_api_Poster [] x0.1.1) (@I.nat .i64 y1.1.1) ((@rdL S_api_Poster Z_S_api_Poster (@appL S_api_Poster [] x0.1.1) (@I.nat .i64 y1.1.1)).1, (y17.1.1, (@rdL S_api_Poster Z_S_api_Poster (@appL S_api_Poster [] x0.1.1) (@I.nat .i64 y1.1.1)).2.2))) (@I.nat .i64 y1.1.1)).2.2.2)))) (@I.nat .i64 y1.1.1)).2.2.1, (y19.1.1, (@rdL S_api_Poster Z_S_api_Poster (@setL S_api_Poster (@setL S_api_Poster (@appL S_api_Poster [] x0.1.1) (@I.nat .i64 y1.1.1) ((@rdL S_api_Poster Z_S_api_Poster (@appL S_api_Poster [] x0.1.1) (@I.nat .i64 y1.1.1)).1, (y17.1.1, (@rdL S_api_Poster Z_S_api_Poster (@appL S_api_Poster [] x0.1.1) (@I.nat .i64 y1.1.1)).2.2))) (@I.nat .i64 y1.1.1) ((@rdL S_api_Poster Z_S_api_Poster (@setL S_api_Poster (@appL S_api_Poster [] x0.1.1) (@I.nat .i64 y1.1.1) ((@rdL S_api_Poster Z_S_api_Poster (@appL S_api_Poster [] x0.1.1) (@I.nat .i64 y1.1.1)).1, (y17.1.1, (@rdL S_api_Poster Z_S_api_Poster (@appL S_api_Poster [] x0.1.1) (@I.nat .i64 y1.1.1)).2.2))) (@I.nat .i64 y1.1.1)).1, ((@rdL S_api_Poster Z_S_api_Poster (@setL S_api_Poster (@appL S_api_Poster [] x0.1.1) (@I.nat .i64 y1.1.1) ((@rdL S_api_Poster Z_S_api_Poster (@appL S_api_Poster [] x0.1.1) (@I.nat .i64 y1.1.1)).1, (y17.1.1, (@rdL S_api_Poster Z_S_api_Poster (@appL S_api_Poster [] x0.1.1) (@I.nat .i64 y1.1.1)).2.2))) (@I.nat .i64 y1.1.1)).2.1, (y18.1.1, (@rdL S_api_Poster Z_S_api_Poster (@setL S_api_Poster (@appL S_api_Poster [] x0.1.1) (@I.nat .i64 y1.1.1) ((@rdL S_api_Poster Z_S_api_Poster (@appL S_api_Poster [] x0.1.1) (@I.nat .i64 y1.1.1)).1, (y17.1.1, (@rdL S_api_Poster Z_S_api_Poster (@appL S_api_Poster [] x0.1.1) (@I.nat .i64 y1.1.1)).2.2))) (@I.nat .i64 y1.1.1)).2.2.2)))) (@I.nat .i64 y1.1.1)).2.2.2.2))))), ((I.of .i64 0), ())), ()))))))
      (none))
     (none))) fun j0 =>
 optF (none) (pontageref16_Valid ((a, ()), ())) fun y1 =>
 brn (bnot y1.1.1)
  (some (([], ((I.of .i64 2), ())), ()))
  (brn (@I.eqb .u64 e (I.of .u64 0))
   (some (([], ((I.of .i64 2), ())), ()))
   (j0 ((a, (b, (e, ()))), (c, (d, ())))))

/-- pontage/pontagelaw16.ReferenceApply -/
noncomputable def pontagelaw16_ReferenceApply (x : (⟨[.pl (.sl (.cons (.int .u64) (.cons (.arr 4 (.int .u64)) (.cons (.arr 4 (.int .u64)) (.cons (.arr 4 (.int .u64)) (.cons (.arr 4 (.int .u64)) (.cons (.int .u64) .nil))))))), .pl (.cons (.int .i64) (.cons (.int .u64) (.cons (.arr 4 (.int .u64)) (.cons (.arr 4 (.int .u64)) (.cons .bool (.cons .bool (.cons (.int .u64) .nil)))))))], []⟩ : Tm).D) : Option (⟨[.pl (.sl (.cons (.int .u64) (.cons (.arr 4 (.int .u64)) (.cons (.arr 4 (.int .u64)) (.cons (.arr 4 (.int .u64)) (.cons (.arr 4 (.int .u64)) (.cons (.int .u64) .nil))))))), .pl (.int .i64)], []⟩ : Tm).D :=
 let a : (List S_api_Poster) := x.1.1
 let b : S_pontagelaw16_Call := x.1.2.1
 jn (fun (x0 : (((List S_api_Poster) × Unit) × (S_pontagelaw16_Call × (U × Unit)))) =>
   brn (@I.eqb .i64 x0.2.1.1 (I.of .i64 0))
    (optF (none) (pontageref16_Add ((x0.1.1, (x0.2.1.2.1, ())), ())) fun y1 =>
    some ((y1.1.1, (y1.1.2.1, ())), ()))
    (brn (@I.ltb .i64 x0.2.1.1 (I.of .i64 5))
     (optF (none) (pontageref16_Accrue ((x0.1.1, (x0.2.1.2.1, (x0.2.1.2.2.1, (x0.2.1.2.2.2.1, (x0.2.1.2.2.2.2.2.2.1, ()))))), ())) fun y1 =>
     some ((y1.1.1, (y1.1.2.1, ())), ()))
     (optF (none) (pontageref16_Settle ((x0.1.1, (x0.2.1.2.1, (x0.2.2.1, ()))), ())) fun y1 =>
     some ((y1.1.1, (y1.1.2.1, ())), ())))) fun j0 =>
 optF (none) (pontageref16_Find ((a, (b.2.1, ())), ())) fun y1 =>
 brn b.2.2.2.2.2.1
  (brn (@I.leb .i64 (I.of .i64 0) y1.1.1)
   (brn (@inB .i64 y1.1.1 (@lenL S_api_Poster a))
    (j0 ((a, ()), (b, ((@rdL S_api_Poster Z_S_api_Poster a (@I.nat .i64 y1.1.1)).2.1, ()))))
    (none))
   (j0 ((a, ()), (b, (b.2.2.1, ())))))
  (j0 ((a, ()), (b, (b.2.2.1, ()))))

/-- pontage/pontagelaw16.Normalize -/
noncomputable def pontagelaw16_Normalize (x : (⟨[.pl (.cons (.int .i64) (.cons (.int .u64) (.cons (.arr 4 (.int .u64)) (.cons (.arr 4 (.int .u64)) (.cons .bool (.cons .bool (.cons (.int .u64) .nil))))))), .pl (.int .i64)], []⟩ : Tm).D) : Option (⟨[.pl (.cons (.int .i64) (.cons (.int .u64) (.cons (.arr 4 (.int .u64)) (.cons (.arr 4 (.int .u64)) (.cons .bool (.cons .bool (.cons (.int .u64) .nil)))))))], []⟩ : Tm).D :=
 let a : S_pontagelaw16_Call := x.1.1
 let b : (I .i64) := x.1.2.1
 optF (none) (pontagelaw0_Mod ((a.1, ((I.of .i64 8), ())), ())) fun y0 =>
 jn (fun (x1 : (((I .i64) × Unit) × (S_pontagelaw16_Call × (S_pontagelaw16_Call × Unit)))) =>
   jn (fun (x2 : (((I .i64) × Unit) × (S_pontagelaw16_Call × (S_pontagelaw16_Call × Unit)))) =>
     brn (@I.ltb .i64 (I.of .i64 0) (@I.rem .i64 x2.1.1 (I.of .i64 9)))
      (some (((x2.2.1.1, (x2.2.1.2.1, (x2.2.1.2.2.1, (x2.2.1.2.2.2.1, (x2.2.1.2.2.2.2.1, (x2.2.1.2.2.2.2.2.1, ((@I.add .u64 (I.of .u64 1) (@I.quo .u64 (I.conv (k := .i64) .u64 x2.1.1) (I.of .u64 2))), x2.2.1.2.2.2.2.2.2.2))))))), ()), ()))
      (some ((x2.2.1, ()), ()))) fun j2 =>
   brn x1.2.1.2.2.2.2.1
    (j2 ((x1.1.1, ()), ((x1.2.1.1, (x1.2.1.2.1, (((@I.rem .u64 x1.2.1.2.2.1.1 (I.of .u64 1000)), ((I.of .u64 0), ((I.of .u64 0), ((I.of .u64 0), ())))), (((@I.rem .u64 x1.2.1.2.2.2.1.1 (I.of .u64 10)), ((I.of .u64 0), ((I.of .u64 0), ((I.of .u64 0), ())))), x1.2.1.2.2.2.2)))), (x1.2.2.1, ()))))
    (j2 ((x1.1.1, ()), (x1.2.1, (x1.2.2.1, ()))))) fun j1 =>
 brn (@I.ltb .i64 (@I.rem .i64 b (I.of .i64 6)) (I.of .i64 5))
  (j1 ((b, ()), ((y0.1.1, ((@I.rem .u64 a.2.1 (I.of .u64 7)), a.2.2)), (Z_S_pontagelaw16_Call, ()))))
  (j1 ((b, ()), ((y0.1.1, a.2), (Z_S_pontagelaw16_Call, ()))))

/-- pontage/pontagelaw16.Generate -/
noncomputable def pontagelaw16_Generate (x : (⟨[.pl (.sl (.cons (.int .i64) (.cons (.int .u64) (.cons (.arr 4 (.int .u64)) (.cons (.arr 4 (.int .u64)) (.cons .bool (.cons .bool (.cons (.int .u64) .nil))))))))], []⟩ : Tm).D) : Option (⟨[.pl (.sl (.cons (.int .u64) (.cons (.arr 4 (.int .u64)) (.cons (.arr 4 (.int .u64)) (.cons (.arr 4 (.int .u64)) (.cons (.arr 4 (.int .u64)) (.cons (.int .u64) .nil)))))))], []⟩ : Tm).D :=
 let a : (List S_pontagelaw16_Call) := x.1.1
 iter (none) (fun x0 =>
   brn (@I.ltb .u64 x0.1.2.2.1 (I.of .u64 6))
    (optF (.done (none)) (pontageref16_Add ((x0.1.2.1, (x0.1.2.2.1, ())), ())) fun y1 =>
    .again ((x0.1.1, (y1.1.1, ((@I.add .u64 x0.1.2.2.1 (I.of .u64 1)), ()))), ()))
    (.done (iter (none) (fun x1 =>
      jn (fun (x2 : (((List S_pontagelaw16_Call) × ((List S_api_Poster) × ((I .i64) × ((I .i64) × (Bool × Unit))))) × Unit)) =>
        brn (@inB .i64 x2.1.2.2.1 (@lenL S_pontagelaw16_Call x2.1.1))
         (optF (.done (none)) (pontagelaw16_Normalize (((@rdL S_pontagelaw16_Call Z_S_pontagelaw16_Call x2.1.1 (@I.nat .i64 x2.1.2.2.1)), (x2.1.2.2.1, ())), ())) fun y3 =>
         optF (.done (none)) (pontagelaw16_ReferenceApply ((x2.1.2.1, (y3.1.1, ())), ())) fun y4 =>
         brn (@I.eqb .i64 y4.1.2.1 (I.of .i64 0))
          (.again ((x2.1.1, (y4.1.1, ((@I.add .i64 x2.1.2.2.1 (I.of .i64 1)), ()))), ()))
          (.again ((x2.1.1, (x2.1.2.1, ((@I.add .i64 x2.1.2.2.1 (I.of .i64 1)), ()))), ())))
         (.done (none))) fun j2 =>
      brn (@I.ltb .i64 x1.1.2.2.1 (I.ofNat .i64 (@lenL S_pontagelaw16_Call x1.1.1)))
       (brn (@I.ltb .i64 x1.1.2.2.1 (I.of .i64 30))
        (j2 ((x1.1.1, (x1.1.2.1, (x1.1.2.2.1, (x1.1.2.2.1, ((@I.ltb .i64 x1.1.2.2.1 (I.of .i64 30)), ()))))), ()))
        (.done (some ((x1.1.2.1, ()), ()))))
       (.done (some ((x1.1.2.1, ()), ()))))
    K0 ((x0.1.1, (x0.1.2.1, ((I.of .i64 0), ()))), ()))))
 K0 ((a, ([], ((I.of .u64 1), ()))), ())

/-- pontage/pontageref20.Plan -/
noncomputable def pontageref20_Plan (x : (⟨[.pl (.sl (.cons (.int .u64) (.cons (.arr 4 (.int .u64)) (.cons (.arr 4 (.int .u64)) (.cons (.arr 4 (.int .u64)) (.cons (.arr 4 (.int .u64)) (.cons (.int .u64) .nil))))))), .pl (.arr 4 (.int .u64))], []⟩ : Tm).D) : Option (⟨[.pl (.sl (.cons (.int .u64) (.cons (.arr 4 (.int .u64)) .nil))), .pl (.int .i64)], []⟩ : Tm).D :=
 let a : (List S_api_Poster) := x.1.1
 let b : U := x.1.2.1
 optF (none) (pontageref16_Valid ((a, ()), ())) fun y0 =>
 brn (bnot y0.1.1)
  (some (([], ((I.of .i64 2), ())), ()))
  (optF (none) (pontageref17_Sorted ((a, ()), ())) fun y1 =>
  optF (none) (pontageref1_FromUint256 ((b, ()), ())) fun y2 =>
  iter (none) (fun x3 =>
    jn (fun (x4 : (((List S_api_Poster) × ((List (I .i64)) × ((I .i64) × ((List (I .i64)) × ((I .i64) × (Bool × Unit)))))) × ((List S_api_Payment) × Unit))) =>
      brn (@inB .i64 x4.1.2.2.1 (@lenL S_api_Poster x4.1.1))
       (optF (.done (none)) (pontageref1_FromUint256 (((@rdL S_api_Poster Z_S_api_Poster x4.1.1 (@I.nat .i64 x4.1.2.2.1)).2.1, ()), ())) fun y5 =>
       optF (.done (none)) (pontageref1_Min ((x4.1.2.1, (y5.1.1, ())), ())) fun y6 =>
       brn (@inB .i64 x4.1.2.2.1 (@lenL S_api_Poster x4.1.1))
        (optF (.done (none)) (pontageref1_ToUint256 ((y6.1.1, ()), ())) fun y7 =>
        brn (fitsLen (@lenL S_api_Payment (@appL S_api_Payment x4.2.1 (((@rdL S_api_Poster Z_S_api_Poster x4.1.1 (@I.nat .i64 x4.1.2.2.1)).1, (y7.1.1, ())) :: []))))
         (optF (.done (none)) (pontageref1_Sub ((x4.1.2.1, (y6.1.1, ())), ())) fun y8 =>
         .again ((x4.1.1, (y8.1.1, ((@I.add .i64 x4.1.2.2.1 (I.of .i64 1)), ()))), ((@appL S_api_Payment x4.2.1 (((@rdL S_api_Poster Z_S_api_Poster x4.1.1 (@I.nat .i64 x4.1.2.2.1)).1, (y7.1.1, ())) :: [])), ())))
         (.done (none)))
        (.done (none)))
       (.done (none))) fun j4 =>
    brn (@I.ltb .i64 x3.1.2.2.1 (I.ofNat .i64 (@lenL S_api_Poster x3.1.1)))
     (brn (@I.ltb .i64 (I.of .i64 0) (I.ofNat .i64 (@lenL (I .i64) x3.1.2.1)))
      (j4 ((x3.1.1, (x3.1.2.1, (x3.1.2.2.1, (x3.1.2.1, ((I.ofNat .i64 (@lenL (I .i64) x3.1.2.1)), ((@I.ltb .i64 (I.of .i64 0) (I.ofNat .i64 (@lenL (I .i64) x3.1.2.1))), ())))))), (x3.2.1, ())))
      (.done (some ((x3.2.1, ((I.of .i64 0), ())), ()))))
     (.done (some ((x3.2.1, ((I.of .i64 0), ())), ()))))
  K0 ((y1.1.1, (y2.1.1, ((I.of .i64 0), ()))), ([], ())))

/-- pontage/pontagelaw0.EqualPayments -/
noncomputable def pontagelaw0_EqualPayments (x : (⟨[.pl (.sl (.cons (.int .u64) (.cons (.arr 4 (.int .u64)) .nil))), .pl (.sl (.cons (.int .u64) (.cons (.arr 4 (.int .u64)) .nil)))], []⟩ : Tm).D) : Option (⟨[.pl .bool], []⟩ : Tm).D :=
 let a : (List S_api_Payment) := x.1.1
 let b : (List S_api_Payment) := x.1.2.1
 brn (@I.neb .i64 (I.ofNat .i64 (@lenL S_api_Payment a)) (I.ofNat .i64 (@lenL S_api_Payment b)))
  (some ((false, ()), ()))
  (iter (none) (fun x0 =>
    brn (@I.ltb .i64 x0.1.2.2.1 (I.ofNat .i64 (@lenL S_api_Payment x0.1.1)))
     (brn (@inB .i64 x0.1.2.2.1 (@lenL S_api_Payment x0.1.1))
      (brn (@inB .i64 x0.1.2.2.1 (@lenL S_api_Payment x0.1.2.1))
       (brn (bnot (Ty.eqb (.cons (.int .u64) (.cons (.arr 4 (.int .u64)) .nil)) (@rdL S_api_Payment Z_S_api_Payment x0.1.1 (@I.nat .i64 x0.1.2.2.1)) (@rdL S_api_Payment Z_S_api_Payment x0.1.2.1 (@I.nat .i64 x0.1.2.2.1))))
        (.done (some ((false, ()), ())))
        (.again ((x0.1.1, (x0.1.2.1, ((@I.add .i64 x0.1.2.2.1 (I.of .i64 1)), ()))), ())))
       (.done (none)))
      (.done (none)))
     (.done (some ((true, ()), ()))))
  K0 ((a, (b, ((I.of .i64 0), ()))), ()))

/-- pontage/pontagelaw20.PayoutPlan -/
noncomputable def pontagelaw20_PayoutPlan (x : (⟨[.pl (.sl (.cons (.int .u64) (.cons (.arr 4 (.int .u64)) (.cons (.arr 4 (.int .u64)) (.cons (.arr 4 (.int .u64)) (.cons (.arr 4 (.int .u64)) (.cons (.int .u64) .nil))))))), .pl (.sl (.cons (.int .i64) (.cons (.int .u64) (.cons (.arr 4 (.int .u64)) (.cons (.arr 4 (.int .u64)) (.cons .bool (.cons .bool (.cons (.int .u64) .nil)))))))), .pl (.arr 4 (.int .u64)), .pl (.int .u64)], []⟩ : Tm).D) : Option (⟨[.pl .bool], []⟩ : Tm).D :=
 let a : (List S_api_Poster) := x.1.1
 let b : (List S_pontagelaw16_Call) := x.1.2.1
 let c : U := x.1.2.2.1
 let d : (I .u64) := x.1.2.2.2.1
 jn (fun (x0 : (((List S_api_Poster) × ((List S_pontagelaw16_Call) × ((I .u64) × Unit))) × (U × Unit))) =>
   optF (none) (pontagelaw16_Generate ((x0.1.2.1, ()), ())) fun y1 =>
   iter (none) (fun x2 =>
     brn (@I.ltb .i64 x2.1.2.2.1 (I.of .i64 2))
      (brn (@inB .i64 x2.1.2.2.1 2)
       (iter (.done (none)) (fun x3 =>
         brn (@I.ltb .i64 x3.1.2.2.2.2.2.1 (I.of .i64 2))
          (brn (@inB .i64 x3.1.2.2.2.2.2.1 2)
           (optF (.done (.done (none))) (payout_Plan ((x3.1.2.1, ((@Arr.sel U Z_U 2 x3.1.2.2.2.2.1 (@I.nat .i64 x3.1.2.2.2.2.2.1)), ())), ())) fun y4 =>
           optF (.done (.done (none))) (pontageref20_Plan ((x3.1.2.1, ((@Arr.sel U Z_U 2 x3.1.2.2.2.2.1 (@I.nat .i64 x3.1.2.2.2.2.2.1)), ())), ())) fun y5 =>
           brn (@I.neb .i64 y4.1.2.1 y5.1.2.1)
            (.done (.done (some ((false, ()), ()))))
            (optF (.done (.done (none))) (pontagelaw0_EqualPayments ((y4.1.1, (y5.1.1, ())), ())) fun y6 =>
            brn (bnot y6.1.1)
             (.done (.done (some ((false, ()), ()))))
             (.again ((x3.1.1, (x3.1.2.1, (x3.1.2.2.1, (x3.1.2.2.2.1, (x3.1.2.2.2.2.1, ((@I.add .i64 x3.1.2.2.2.2.2.1 (I.of .i64 1)), ())))))), (x3.2.1, ())))))
           (.done (.done (none))))
          (.done (.again ((x3.1.1, (x3.1.2.2.1, ((@I.add .i64 x3.1.2.2.2.1 (I.of .i64 1)), ()))), (x3.2.1, ())))))
       K0 ((x2.1.1, ((@Arr.sel (List S_api_Poster) [] 2 x2.1.2.1 (@I.nat .i64 x2.1.2.2.1)), (x2.1.2.1, (x2.1.2.2.1, ((x2.2.1, (((@I.rem .u64 x2.1.1 (I.of .u64 3000)), ((I.of .u64 0), ((I.of .u64 0), ((I.of .u64 0), ())))), ())), ((I.of .i64 0), ())))))), (x2.2.1, ())))
       (.done (none)))
      (.done (optF (none) (pontagelaw20_awake ((), ())) fun y3 =>
      some ((y3.1.1, ()), ()))))
   K0 ((x0.1.2.2.1, ((x0.1.1, (y1.1.1, ())), ((I.of .i64 0), ()))), (x0.2.1, ()))) fun j0 =>
 jn (fun (x1 : (((List S_api_Poster) × ((List S_pontagelaw16_Call) × ((I .u64) × (Bool × Unit)))) × (U × Unit))) =>
   brn x1.1.2.2.2.1
    (optF (none) (pontagelaw20_awake ((), ())) fun y2 =>
    some ((y2.1.1, ()), ()))
    (j0 ((x1.1.1, (x1.1.2.1, (x1.1.2.2.1, ()))), (x1.2.1, ())))) fun j1 =>
 brn (@I.ltb .i64 (I.of .i64 30) (I.ofNat .i64 (@lenL S_api_Poster a)))
  (j1 ((a, (b, (d, (true, ())))), (c, ())))
  (j1 ((a, (b, (d, ((@I.ltb .i64 (I.of .i64 40) (I.ofNat .i64 (@lenL S_pontagelaw16_Call b))), ())))), (c, ())))

/-- pontage/pontagelaw20.PayoutMonotone -/
noncomputable def pontagelaw20_PayoutMonotone (x : (⟨[.pl (.sl (.cons (.int .i64) (.cons (.int .u64) (.cons (.arr 4 (.int .u64)) (.cons (.arr 4 (.int .u64)) (.cons .bool (.cons .bool (.cons (.int .u64) .nil)))))))), .pl (.arr 4 (.int .u64)), .pl (.arr 4 (.int .u64)), .pl (.arr 2 (.int .u64))], []⟩ : Tm).D) : Option (⟨[.pl .bool], []⟩ : Tm).D :=
 let a : (List S_pontagelaw16_Call) := x.1.1
 let b : U := x.1.2.1
 let c : U := x.1.2.2.1
 let d : ((I .u64) × ((I .u64) × Unit)) := x.1.2.2.2.1
 brn (@I.ltb .i64 (I.of .i64 40) (I.ofNat .i64 (@lenL S_pontagelaw16_Call a)))
  (optF (none) (pontagelaw20_awake ((), ())) fun y0 =>
  some ((y0.1.1, ()), ()))
  (optF (none) (pontagelaw16_Generate ((a, ()), ())) fun y0 =>
  iter (none) (fun x1 =>
    brn (@I.ltb .i64 x1.1.2.2.1 (I.of .i64 2))
     (brn (@inB .i64 x1.1.2.2.1 2)
      (jn (fun (x2 : (((List S_api_Poster) × (((U × (U × Unit)) × ((U × (U × Unit)) × Unit)) × ((I .i64) × Unit))) × (U × (U × Unit)))) =>
        optF (.done (none)) (payout_Plan ((x2.1.1, (x2.2.1, ())), ())) fun y3 =>
        optF (.done (none)) (payout_Plan ((x2.1.1, (x2.2.2.1, ())), ())) fun y4 =>
        jn (fun (x5 : (((List S_api_Poster) × ((List S_api_Payment) × ((List S_api_Payment) × (((U × (U × Unit)) × ((U × (U × Unit)) × Unit)) × ((I .i64) × ((I .i64) × (Bool × ((List S_api_Payment) × ((I .i64) × ((List S_api_Payment) × ((I .i64) × (Bool × Unit)))))))))))) × Unit)) =>
          iter (.done (none)) (fun x6 =>
            brn (@I.ltb .i64 x6.1.2.2.2.1 (I.ofNat .i64 (@lenL S_api_Payment x6.1.2.1)))
             (brn (@inB .i64 x6.1.2.2.2.1 (@lenL S_api_Payment x6.1.2.1))
              (brn (@inB .i64 x6.1.2.2.2.1 (@lenL S_api_Payment x6.1.2.2.1))
               (brn (@I.neb .u64 (@rdL S_api_Payment Z_S_api_Payment x6.1.2.1 (@I.nat .i64 x6.1.2.2.2.1)).1 (@rdL S_api_Payment Z_S_api_Payment x6.1.2.2.1 (@I.nat .i64 x6.1.2.2.2.1)).1)
                (.done (.done (some ((false, ()), ()))))
                (brn (@inB .i64 x6.1.2.2.2.1 (@lenL S_api_Payment x6.1.2.1))
                 (brn (@inB .i64 x6.1.2.2.2.1 (@lenL S_api_Payment x6.1.2.2.1))
                  (optF (.done (.done (none))) (uint256_Cmp (((@rdL S_api_Payment Z_S_api_Payment x6.1.2.1 (@I.nat .i64 x6.1.2.2.2.1)).2.1, ((@rdL S_api_Payment Z_S_api_Payment x6.1.2.2.1 (@I.nat .i64 x6.1.2.2.2.1)).2.1, ())), ())) fun y7 =>
                  brn (@I.ltb .i64 (I.of .i64 0) y7.1.1)
                   (.done (.done (some ((false, ()), ()))))
                   (brn (@I.ltb .i64 (@I.add .i64 x6.1.2.2.2.1 (I.of .i64 1)) (I.ofNat .i64 (@lenL S_api_Payment x6.1.2.1)))
                    (brn (@inB .i64 x6.1.2.2.2.1 (@lenL S_api_Payment x6.1.2.1))
                     (brn (@inB .i64 x6.1.2.2.2.1 (@lenL S_api_Payment x6.1.2.2.1))
                      (brn (bnot (Ty.eqb (.cons (.int .u64) (.cons (.arr 4 (.int .u64)) .nil)) (@rdL S_api_Payment Z_S_api_Payment x6.1.2.1 (@I.nat .i64 x6.1.2.2.2.1)) (@rdL S_api_Payment Z_S_api_Payment x6.1.2.2.1 (@I.nat .i64 x6.1.2.2.2.1))))
                       (.done (.done (some ((false, ()), ()))))
                       (.again ((x6.1.1, (x6.1.2.1, (x6.1.2.2.1, ((@I.add .i64 x6.1.2.2.2.1 (I.of .i64 1)), (x6.1.2.2.2.2.1, (x6.1.2.2.2.2.2.1, (x6.1.2.2.2.2.2.2.1, (x6.1.2.2.2.2.2.2.2.1, (x6.1.2.2.2.2.2.2.2.2.1, (x6.1.2.2.2.2.2.2.2.2.2.1, (x6.1.2.2.2.2.2.2.2.2.2.2.1, (x6.1.2.2.2.2.2.2.2.2.2.2.2.1, (x6.1.2.2.2.2.2.2.2.2.2.2.2.2.1, ()))))))))))))), ())))
                      (.done (.done (none))))
                     (.done (.done (none))))
                    (.again ((x6.1.1, (x6.1.2.1, (x6.1.2.2.1, ((@I.add .i64 x6.1.2.2.2.1 (I.of .i64 1)), (x6.1.2.2.2.2.1, (x6.1.2.2.2.2.2.1, (x6.1.2.2.2.2.2.2.1, (x6.1.2.2.2.2.2.2.2.1, (x6.1.2.2.2.2.2.2.2.2.1, (x6.1.2.2.2.2.2.2.2.2.2.1, (x6.1.2.2.2.2.2.2.2.2.2.2.1, (x6.1.2.2.2.2.2.2.2.2.2.2.2.1, (x6.1.2.2.2.2.2.2.2.2.2.2.2.2.1, ()))))))))))))), ()))))
                  (.done (.done (none))))
                 (.done (.done (none)))))
               (.done (.done (none))))
              (.done (.done (none))))
             (.done (.again ((x6.1.1, (x6.1.2.2.2.2.1, ((@I.add .i64 x6.1.2.2.2.2.2.1 (I.of .i64 1)), ()))), ()))))
          K0 ((x5.1.1, (x5.1.2.1, (x5.1.2.2.1, ((I.of .i64 0), (x5.1.2.2.2.1, (x5.1.2.2.2.2.1, (x5.1.2.2.2.2.2.1, (x5.1.2.2.2.2.2.2.1, (x5.1.2.2.2.2.2.2.2.1, (x5.1.2.2.2.2.2.2.2.2.1, (x5.1.2.2.2.2.2.2.2.2.2.1, (x5.1.2.2.2.2.2.2.2.2.2.2.1, (x5.1.2.2.2.2.2.2.2.2.2.2.2.1, ()))))))))))))), ())) fun j5 =>
        brn (@I.neb .i64 y3.1.2.1 (I.of .i64 0))
         (.done (some ((false, ()), ())))
         (brn (@I.neb .i64 y4.1.2.1 (I.of .i64 0))
          (.done (some ((false, ()), ())))
          (brn (@I.ltb .i64 (I.ofNat .i64 (@lenL S_api_Payment y4.1.1)) (I.ofNat .i64 (@lenL S_api_Payment y3.1.1)))
           (.done (some ((false, ()), ())))
           (j5 ((x2.1.1, (y3.1.1, (y4.1.1, (x2.1.2.1, (x2.1.2.2.1, (y4.1.2.1, ((@I.neb .i64 y4.1.2.1 (I.of .i64 0)), (y3.1.1, ((I.ofNat .i64 (@lenL S_api_Payment y3.1.1)), (y4.1.1, ((I.ofNat .i64 (@lenL S_api_Payment y4.1.1)), ((@I.ltb .i64 (I.ofNat .i64 (@lenL S_api_Payment y4.1.1)) (I.ofNat .i64 (@lenL S_api_Payment y3.1.1))), ())))))))))))), ()))))) fun j2 =>
      optF (.done (none)) (uint256_Cmp (((@Arr.sel (U × (U × Unit)) (Z_U, (Z_U, ())) 2 x1.1.2.1 (@I.nat .i64 x1.1.2.2.1)).1, ((@Arr.sel (U × (U × Unit)) (Z_U, (Z_U, ())) 2 x1.1.2.1 (@I.nat .i64 x1.1.2.2.1)).2.1, ())), ())) fun y3 =>
      brn (@I.ltb .i64 (I.of .i64 0) y3.1.1)
       (j2 ((x1.1.1, (x1.1.2.1, (x1.1.2.2.1, ()))), ((@Arr.sel (U × (U × Unit)) (Z_U, (Z_U, ())) 2 x1.1.2.1 (@I.nat .i64 x1.1.2.2.1)).2.1, ((@Arr.sel (U × (U × Unit)) (Z_U, (Z_U, ())) 2 x1.1.2.1 (@I.nat .i64 x1.1.2.2.1)).1, ()))))
       (j2 ((x1.1.1, (x1.1.2.1, (x1.1.2.2.1, ()))), ((@Arr.sel (U × (U × Unit)) (Z_U, (Z_U, ())) 2 x1.1.2.1 (@I.nat .i64 x1.1.2.2.1)).1, ((@Arr.sel (U × (U × Unit)) (Z_U, (Z_U, ())) 2 x1.1.2.1 (@I.nat .i64 x1.1.2.2.1)).2.1, ())))))
      (.done (none)))
     (.done (optF (none) (pontagelaw20_awake ((), ())) fun y2 =>
     some ((y2.1.1, ()), ()))))
  K0 ((y0.1.1, (((b, (c, ())), ((((@I.rem .u64 d.1 (I.of .u64 3000)), ((I.of .u64 0), ((I.of .u64 0), ((I.of .u64 0), ())))), (((@I.rem .u64 d.2.1 (I.of .u64 3000)), ((I.of .u64 0), ((I.of .u64 0), ((I.of .u64 0), ())))), ())), ())), ((I.of .i64 0), ()))), ()))

/-- slices.Clone[[]pontage/api.Poster,pontage/api.Poster] -/
noncomputable def slices_Clone___api_Poster_api_Poster_ (x : (⟨[.pl (.sl (.cons (.int .u64) (.cons (.arr 4 (.int .u64)) (.cons (.arr 4 (.int .u64)) (.cons (.arr 4 (.int .u64)) (.cons (.arr 4 (.int .u64)) (.cons (.int .u64) .nil)))))))], []⟩ : Tm).D) : Option (⟨[.whole 0], [.row (.cons (.int .u64) (.cons (.arr 4 (.int .u64)) (.cons (.arr 4 (.int .u64)) (.cons (.arr 4 (.int .u64)) (.cons (.arr 4 (.int .u64)) (.cons (.int .u64) .nil))))))]⟩ : Tm).D :=
 let a : (List S_api_Poster) := x.1.1
 brn (emptyN (@lenL S_api_Poster a))
  (both (none)
   (some ((), ([], ())))
   (brn (fitsLen (@lenL S_api_Poster (@appL S_api_Poster [] a)))
    (some ((), ((@appL S_api_Poster [] a), ())))
    (none)))
  (brn (fitsLen (@lenL S_api_Poster (@appL S_api_Poster [] a)))
   (some ((), ((@appL S_api_Poster [] a), ())))
   (none))

/-- pontage/poster.Find -/
noncomputable def poster_Find (x : (⟨[.pl (.sl (.cons (.int .u64) (.cons (.arr 4 (.int .u64)) (.cons (.arr 4 (.int .u64)) (.cons (.arr 4 (.int .u64)) (.cons (.arr 4 (.int .u64)) (.cons (.int .u64) .nil))))))), .pl (.int .u64)], []⟩ : Tm).D) : Option (⟨[.pl (.int .i64)], []⟩ : Tm).D :=
 let a : (List S_api_Poster) := x.1.1
 let b : (I .u64) := x.1.2.1
 iter (none) (fun x0 =>
   brn (@I.ltb .i64 x0.1.2.2.2.1 x0.1.2.2.1)
    (brn (@inB .i64 x0.1.2.2.2.1 (@lenL S_api_Poster x0.1.1))
     (brn (@I.eqb .u64 (@rdL S_api_Poster Z_S_api_Poster x0.1.1 (@I.nat .i64 x0.1.2.2.2.1)).1 x0.2.1)
      (.done (some ((x0.1.2.2.2.1, ()), ())))
      (.again ((x0.1.1, (((), x0.1.2.1.2), (x0.1.2.2.1, ((@I.add .i64 x0.1.2.2.2.1 (I.of .i64 1)), ())))), (x0.2.1, ()))))
     (.done (none)))
    (.done (some (((I.of .i64 (-1)), ()), ()))))
 K0 ((a, (((), ()), ((I.ofNat .i64 (@lenL S_api_Poster a)), ((I.of .i64 0), ())))), (b, ()))

/-- pontage/poster.Settle -/
noncomputable def poster_Settle (x : (⟨[.pl (.sl (.cons (.int .u64) (.cons (.arr 4 (.int .u64)) (.cons (.arr 4 (.int .u64)) (.cons (.arr 4 (.int .u64)) (.cons (.arr 4 (.int .u64)) (.cons (.int .u64) .nil))))))), .pl (.int .u64), .pl (.arr 4 (.int .u64))], []⟩ : Tm).D) : Option (⟨[.pl (.sl (.cons (.int .u64) (.cons (.arr 4 (.int .u64)) (.cons (.arr 4 (.int .u64)) (.cons (.arr 4 (.int .u64)) (.cons (.arr 4 (.int .u64)) (.cons (.int .u64) .nil))))))), .pl (.int .i64)], []⟩ : Tm).D :=
 let a : (List S_api_Poster) := x.1.1
 let b : (I .u64) := x.1.2.1
 let c : U := x.1.2.2.1
 optF (none) (poster_Find ((a, (b, ())), ())) fun y0 =>
 optF (none) (poster_Valid ((a, ()), ())) fun y1 =>
 brn (bnot y1.1.1)
  (some (([], ((I.of .i64 2), ())), ()))
  (brn (@I.ltb .i64 y0.1.1 (I.of .i64 0))
   (some (([], ((I.of .i64 8), ())), ()))
   (brn (@inB .i64 y0.1.1 (@lenL S_api_Poster a))
    (optF (none) (uint256_Sub (((@rdL S_api_Poster Z_S_api_Poster a (@I.nat .i64 y0.1.1)).2.1, (c, ())), ())) fun y2 =>
    brn (@I.neb .i64 y2.1.2.1 (I.of .i64 0))
     (some (([], ((I.of .i64 10), ())), ()))
     (optF (none) (uint256_Add (((@rdL S_api_Poster Z_S_api_Poster a (@I.nat .i64 y0.1.1)).2.2.2.2.1, (c, ())), ())) fun y3 =>
     brn (@I.neb .i64 y3.1.2.1 (I.of .i64 0))
      (some (([], (y3.1.2.1, ())), ()))
      (jn (fun (x4 : (((List S_api_Poster) × ((I .i64) × Unit)) × (S_api_Poster × Unit))) =>
        optF (none) (slices_Clone___api_Poster_api_Poster_ ((x4.1.1, ()), ())) fun y5 =>
        brn (@inB .i64 x4.1.2.1 (@lenL S_api_Poster y5.2.1))
         (some (((@setL S_api_Poster y5.2.1 (@I.nat .i64 x4.1.2.1) x4.2.1), ((I.of .i64 0), ())), ()))
         (none)) fun j4 =>
      optF (none) (poster_isZero ((y2.1.1, ()), ())) fun y5 =>
      brn y5.1.1
       (j4 ((a, (y0.1.1, ())), (((@rdL S_api_Poster Z_S_api_Poster a (@I.nat .i64 y0.1.1)).1, (y2.1.1, ((@rdL S_api_Poster Z_S_api_Poster a (@I.nat .i64 y0.1.1)).2.2.1, ((@rdL S_api_Poster Z_S_api_Poster a (@I.nat .i64 y0.1.1)).2.2.2.1, (y3.1.1, ((I.of .u64 0), (@rdL S_api_Poster Z_S_api_Poster a (@I.nat .i64 y0.1.1)).2.2.2.2.2.2)))))), ())))
       (j4 ((a, (y0.1.1, ())), (((@rdL S_api_Poster Z_S_api_Poster a (@I.nat .i64 y0.1.1)).1, (y2.1.1, ((@rdL S_api_Poster Z_S_api_Poster a (@I.nat .i64 y0.1.1)).2.2.1, ((@rdL S_api_Poster Z_S_api_Poster a (@I.nat .i64 y0.1.1)).2.2.2.1, (y3.1.1, (@rdL S_api_Poster Z_S_api_Poster a (@I.nat .i64 y0.1.1)).2.2.2.2.2))))), ()))))))
    (none)))

/-- pontage/payout.Apply -/
noncomputable def payout_Apply (x : (⟨[.pl (.sl (.cons (.int .u64) (.cons (.arr 4 (.int .u64)) (.cons (.arr 4 (.int .u64)) (.cons (.arr 4 (.int .u64)) (.cons (.arr 4 (.int .u64)) (.cons (.int .u64) .nil))))))), .pl (.sl (.cons (.int .u64) (.cons (.arr 4 (.int .u64)) .nil)))], []⟩ : Tm).D) : Option (⟨[.pl (.sl (.cons (.int .u64) (.cons (.arr 4 (.int .u64)) (.cons (.arr 4 (.int .u64)) (.cons (.arr 4 (.int .u64)) (.cons (.arr 4 (.int .u64)) (.cons (.int .u64) .nil))))))), .pl (.int .i64)], []⟩ : Tm).D :=
 let a : (List S_api_Poster) := x.1.1
 let b : (List S_api_Payment) := x.1.2.1
 optF (none) (slices_Clone___api_Poster_api_Poster_ ((a, ()), ())) fun y0 =>
 iter (none) (fun x1 =>
   brn (@I.ltb .i64 x1.1.2.2.2.1 x1.1.2.2.1)
    (brn (@inB .i64 x1.1.2.2.2.1 (@lenL S_api_Payment x1.1.2.1))
     (optF (.done (none)) (poster_Settle ((x1.1.1, ((@rdL S_api_Payment Z_S_api_Payment x1.1.2.1 (@I.nat .i64 x1.1.2.2.2.1)).1, ((@rdL S_api_Payment Z_S_api_Payment x1.1.2.1 (@I.nat .i64 x1.1.2.2.2.1)).2.1, ()))), ())) fun y2 =>
     brn (@I.neb .i64 y2.1.2.1 (I.of .i64 0))
      (.done (some (([], (y2.1.2.1, ())), ())))
      (.again ((y2.1.1, (x1.1.2.1, (x1.1.2.2.1, ((@I.add .i64 x1.1.2.2.2.1 (I.of .i64 1)), ())))), ())))
     (.done (none)))
    (.done (some ((x1.1.1, ((I.of .i64 0), ())), ()))))
 K0 ((y0.2.1, (b, ((I.ofNat .i64 (@lenL S_api_Payment b)), ((I.of .i64 0), ())))), ())

/-- pontage/pontagelaw20.PayoutOldestFirst -/
noncomputable def pontagelaw20_PayoutOldestFirst (x : (⟨[.pl (.sl (.cons (.int .i64) (.cons (.int .u64) (.cons (.arr 4 (.int .u64)) (.cons (.arr 4 (.int .u64)) (.cons .bool (.cons .bool (.cons (.int .u64) .nil)))))))), .pl (.int .u64)], []⟩ : Tm).D) : Option (⟨[.pl .bool], []⟩ : Tm).D :=
 let a : (List S_pontagelaw16_Call) := x.1.1
 let b : (I .u64) := x.1.2.1
 brn (@I.ltb .i64 (I.of .i64 40) (I.ofNat .i64 (@lenL S_pontagelaw16_Call a)))
  (optF (none) (pontagelaw20_awake ((), ())) fun y0 =>
  some ((y0.1.1, ()), ()))
  (optF (none) (pontagelaw16_Generate ((a, ()), ())) fun y0 =>
  optF (none) (payout_Plan ((y0.1.1, (((@I.rem .u64 b (I.of .u64 4000)), ((I.of .u64 0), ((I.of .u64 0), ((I.of .u64 0), ())))), ())), ())) fun y1 =>
  optF (none) (payout_Apply ((y0.1.1, (y1.1.1, ())), ())) fun y2 =>
  jn (fun (x3 : (((List S_api_Poster) × ((List S_api_Payment) × ((I .i64) × ((List S_api_Poster) × ((I .i64) × Unit))))) × Unit)) =>
    jn (fun (x4 : (((List S_api_Poster) × ((List S_api_Payment) × ((List S_api_Poster) × Unit))) × Unit)) =>
      iter (none) (fun x5 =>
        brn (@I.ltb .i64 (@I.add .i64 x5.1.2.2.2.1 (I.of .i64 1)) (I.ofNat .i64 (@lenL S_api_Payment x5.1.2.1)))
         (brn (@inB .i64 x5.1.2.2.2.1 (@lenL S_api_Payment x5.1.2.1))
          (optF (.done (none)) (poster_Find ((x5.1.2.2.1, ((@rdL S_api_Payment Z_S_api_Payment x5.1.2.1 (@I.nat .i64 x5.1.2.2.2.1)).1, ())), ())) fun y6 =>
          brn (@I.ltb .i64 y6.1.1 (I.of .i64 0))
           (.done (some ((false, ()), ())))
           (brn (@inB .i64 y6.1.1 (@lenL S_api_Poster x5.1.2.2.1))
            (brn (bnot (Ty.eqb (.arr 4 (.int .u64)) (@rdL S_api_Poster Z_S_api_Poster x5.1.2.2.1 (@I.nat .i64 y6.1.1)).2.1 Z_U))
             (.done (some ((false, ()), ())))
             (.again ((x5.1.1, (x5.1.2.1, (x5.1.2.2.1, ((@I.add .i64 x5.1.2.2.2.1 (I.of .i64 1)), ())))), ())))
            (.done (none))))
          (.done (none)))
         (.done (iter (none) (fun x6 =>
           brn (@I.ltb .i64 x6.1.2.2.2.1 (I.ofNat .i64 (@lenL S_api_Payment x6.1.2.1)))
            (brn (@inB .i64 x6.1.2.2.2.1 (@lenL S_api_Payment x6.1.2.1))
             (optF (.done (none)) (poster_Find ((x6.1.1, ((@rdL S_api_Payment Z_S_api_Payment x6.1.2.1 (@I.nat .i64 x6.1.2.2.2.1)).1, ())), ())) fun y7 =>
             iter (.done (none)) (fun x8 =>
               brn (@I.ltb .i64 x8.1.2.2.2.2.2.1 (I.ofNat .i64 (@lenL S_api_Poster x8.1.1)))
                (brn (@I.ltb .i64 x8.1.2.2.2.2.1 (I.of .i64 0))
                 (.done (.done (some ((false, ()), ()))))
                 (brn (@inB .i64 x8.1.2.2.2.2.2.1 (@lenL S_api_Poster x8.1.1))
                  (brn (@I.ltb .u64 (I.of .u64 0) (@rdL S_api_Poster Z_S_api_Poster x8.1.1 (@I.nat .i64 x8.1.2.2.2.2.2.1)).2.2.2.2.2.1)
                   (brn (@inB .i64 x8.1.2.2.2.2.2.1 (@lenL S_api_Poster x8.1.1))
                    (brn (@inB .i64 x8.1.2.2.2.2.1 (@lenL S_api_Poster x8.1.1))
                     (brn (@I.ltb .u64 (@rdL S_api_Poster Z_S_api_Poster x8.1.1 (@I.nat .i64 x8.1.2.2.2.2.2.1)).2.2.2.2.2.1 (@rdL S_api_Poster Z_S_api_Poster x8.1.1 (@I.nat .i64 x8.1.2.2.2.2.1)).2.2.2.2.2.1)
                      (brn (@inB .i64 x8.1.2.2.2.2.2.1 (@lenL S_api_Poster x8.1.2.2.1))
                       (brn (bnot (Ty.eqb (.arr 4 (.int .u64)) (@rdL S_api_Poster Z_S_api_Poster x8.1.2.2.1 (@I.nat .i64 x8.1.2.2.2.2.2.1)).2.1 Z_U))
                        (.done (.done (some ((false, ()), ()))))
                        (.again ((x8.1.1, (x8.1.2.1, (x8.1.2.2.1, (x8.1.2.2.2.1, (x8.1.2.2.2.2.1, ((@I.add .i64 x8.1.2.2.2.2.2.1 (I.of .i64 1)), ())))))), ())))
                       (.done (.done (none))))
                      (.again ((x8.1.1, (x8.1.2.1, (x8.1.2.2.1, (x8.1.2.2.2.1, (x8.1.2.2.2.2.1, ((@I.add .i64 x8.1.2.2.2.2.2.1 (I.of .i64 1)), ())))))), ())))
                     (.done (.done (none))))
                    (.done (.done (none))))
                   (.again ((x8.1.1, (x8.1.2.1, (x8.1.2.2.1, (x8.1.2.2.2.1, (x8.1.2.2.2.2.1, ((@I.add .i64 x8.1.2.2.2.2.2.1 (I.of .i64 1)), ())))))), ())))
                  (.done (.done (none)))))
                (.done (.again ((x8.1.1, (x8.1.2.1, (x8.1.2.2.1, ((@I.add .i64 x8.1.2.2.2.1 (I.of .i64 1)), ())))), ()))))
             K0 ((x6.1.1, (x6.1.2.1, (x6.1.2.2.1, (x6.1.2.2.2.1, (y7.1.1, ((I.of .i64 0), ())))))), ()))
             (.done (none)))
            (.done (optF (none) (pontagelaw20_awake ((), ())) fun y7 =>
            some ((y7.1.1, ()), ()))))
         K0 ((x5.1.1, (x5.1.2.1, (x5.1.2.2.1, ((I.of .i64 0), ())))), ()))))
      K0 ((x4.1.1, (x4.1.2.1, (x4.1.2.2.1, ((I.of .i64 0), ())))), ())) fun j4 =>
    brn (@I.neb .i64 x3.1.2.2.1 (I.of .i64 0))
     (some ((false, ()), ()))
     (brn (@I.neb .i64 x3.1.2.2.2.2.1 (I.of .i64 0))
      (some ((false, ()), ()))
      (brn (@I.neb .i64 (I.ofNat .i64 (@lenL S_api_Poster x3.1.2.2.2.1)) (I.ofNat .i64 (@lenL S_api_Poster x3.1.1)))
       (some ((false, ()), ()))
       (j4 ((x3.1.1, (x3.1.2.1, (x3.1.2.2.2.1, ()))), ()))))) fun j3 =>
  jn (fun (x4 : (((List S_api_Poster) × ((List S_api_Payment) × ((I .i64) × ((List S_api_Poster) × ((I .i64) × (Bool × Unit)))))) × Unit)) =>
    brn x4.1.2.2.2.2.2.1
     (optF (none) (pontagelaw20_awake ((), ())) fun y5 =>
     some ((y5.1.1, ()), ()))
     (j3 ((x4.1.1, (x4.1.2.1, (x4.1.2.2.1, (x4.1.2.2.2.1, (x4.1.2.2.2.2.1, ()))))), ()))) fun j4 =>
  brn (@I.eqb .i64 y1.1.2.1 (I.of .i64 0))
   (j4 ((y0.1.1, (y1.1.1, (y1.1.2.1, (y2.1.1, (y2.1.2.1, ((@I.eqb .i64 y2.1.2.1 (I.of .i64 4)), ())))))), ()))
   (j4 ((y0.1.1, (y1.1.1, (y1.1.2.1, (y2.1.1, (y2.1.2.1, (false, ())))))), ())))

/-- pontage/payout.Sum -/
noncomputable def payout_Sum (x : (⟨[.pl (.sl (.cons (.int .u64) (.cons (.arr 4 (.int .u64)) .nil)))], []⟩ : Tm).D) : Option (⟨[.pl (.arr 4 (.int .u64)), .pl (.int .i64)], []⟩ : Tm).D :=
 let a : (List S_api_Payment) := x.1.1
 iter (none) (fun x0 =>
   brn (@I.ltb .i64 x0.1.2.2.1 x0.1.2.1)
    (brn (@inB .i64 x0.1.2.2.1 (@lenL S_api_Payment x0.1.1))
     (optF (.done (none)) (uint256_Add ((x0.2.2.1, ((@rdL S_api_Payment Z_S_api_Payment x0.1.1 (@I.nat .i64 x0.1.2.2.1)).2.1, ())), ())) fun y1 =>
     brn (@I.neb .i64 y1.1.2.1 (I.of .i64 0))
      (.done (some ((Z_U, (y1.1.2.1, ())), ())))
      (.again ((x0.1.1, (x0.1.2.1, ((@I.add .i64 x0.1.2.2.1 (I.of .i64 1)), ()))), (x0.2.1, (y1.1.1, ())))))
     (.done (none)))
    (.done (some ((x0.2.2.1, ((I.of .i64 0), ())), ()))))
 K0 ((a, ((I.ofNat .i64 (@lenL S_api_Payment a)), ((I.of .i64 0), ()))), (Z_U, (Z_U, ())))

/-- pontage/pontageref20.Sum -/
noncomputable def pontageref20_Sum (x : (⟨[.pl (.sl (.cons (.int .u64) (.cons (.arr 4 (.int .u64)) .nil)))], []⟩ : Tm).D) : Option (⟨[.pl (.arr 4 (.int .u64)), .pl (.int .i64)], []⟩ : Tm).D :=
 let a : (List S_api_Payment) := x.1.1
 iter (none) (fun x0 =>
   brn (@I.ltb .i64 x0.1.2.2.1 (I.ofNat .i64 (@lenL S_api_Payment x0.1.1)))
    (brn (@inB .i64 x0.1.2.2.1 (@lenL S_api_Payment x0.1.1))
     (optF (.done (none)) (pontageref1_FromUint256 (((@rdL S_api_Payment Z_S_api_Payment x0.1.1 (@I.nat .i64 x0.1.2.2.1)).2.1, ()), ())) fun y1 =>
     optF (.done (none)) (pontageref1_Add ((x0.1.2.1, (y1.1.1, ())), ())) fun y2 =>
     .again ((x0.1.1, (y2.1.1, ((@I.add .i64 x0.1.2.2.1 (I.of .i64 1)), ()))), (x0.2.1, ())))
     (.done (none)))
    (.done (optF (none) (pontageref1_Checked ((x0.1.2.1, ()), ())) fun y1 =>
    some ((y1.1.1, (y1.1.2.1, ())), ()))))
 K0 ((a, ([], ((I.of .i64 0), ()))), (Z_U, ()))

/-- pontage/pontageref20.Apply -/
noncomputable def pontageref20_Apply (x : (⟨[.pl (.sl (.cons (.int .u64) (.cons (.arr 4 (.int .u64)) (.cons (.arr 4 (.int .u64)) (.cons (.arr 4 (.int .u64)) (.cons (.arr 4 (.int .u64)) (.cons (.int .u64) .nil))))))), .pl (.sl (.cons (.int .u64) (.cons (.arr 4 (.int .u64)) .nil)))], []⟩ : Tm).D) : Option (⟨[.pl (.sl (.cons (.int .u64) (.cons (.arr 4 (.int .u64)) (.cons (.arr 4 (.int .u64)) (.cons (.arr 4 (.int .u64)) (.cons (.arr 4 (.int .u64)) (.cons (.int .u64) .nil))))))), .pl (.int .i64)], []⟩ : Tm).D :=
 let a : (List S_api_Poster) := x.1.1
 let b : (List S_api_Payment) := x.1.2.1
 brn (fitsLen (@lenL S_api_Poster (@appL S_api_Poster [] a)))
  (iter (none) (fun x0 =>
    brn (@I.ltb .i64 x0.1.2.2.1 (I.ofNat .i64 (@lenL S_api_Payment x0.1.1)))
     (brn (@inB .i64 x0.1.2.2.1 (@lenL S_api_Payment x0.1.1))
      (brn (@inB .i64 x0.1.2.2.1 (@lenL S_api_Payment x0.1.1))
       (optF (.done (none)) (pontageref16_Settle ((x0.1.2.1, ((@rdL S_api_Payment Z_S_api_Payment x0.1.1 (@I.nat .i64 x0.1.2.2.1)).1, ((@rdL S_api_Payment Z_S_api_Payment x0.1.1 (@I.nat .i64 x0.1.2.2.1)).2.1, ()))), ())) fun y1 =>
       brn (@I.neb .i64 y1.1.2.1 (I.of .i64 0))
        (.done (some (([], (y1.1.2.1, ())), ())))
        (.again ((x0.1.1, (y1.1.1, ((@I.add .i64 x0.1.2.2.1 (I.of .i64 1)), ()))), ())))
       (.done (none)))
      (.done (none)))
     (.done (some ((x0.1.2.1, ((I.of .i64 0), ())), ()))))
  K0 ((b, ((@appL S_api_Poster [] a), ((I.of .i64 0), ()))), ()))
  (none)

/-- pontage/pontagelaw20.PayoutSumApply -/
noncomputable def pontagelaw20_PayoutSumApply (x : (⟨[.pl (.sl (.cons (.int .u64) (.cons (.arr 4 (.int .u64)) .nil))), .pl (.sl (.cons (.int .i64) (.cons (.int .u64) (.cons (.arr 4 (.int .u64)) (.cons (.arr 4 (.int .u64)) (.cons .bool (.cons .bool (.cons (.int .u64) .nil)))))))), .pl (.sl (.cons (.int .u64) (.cons (.arr 4 (.int .u64)) (.cons (.arr 4 (.int .u64)) (.cons (.arr 4 (.int .u64)) (.cons (.arr 4 (.int .u64)) (.cons (.int .u64) .nil)))))))], []⟩ : Tm).D) : Option (⟨[.pl .bool], []⟩ : Tm).D :=
 let a : (List S_api_Payment) := x.1.1
 let b : (List S_pontagelaw16_Call) := x.1.2.1
 let c : (List S_api_Poster) := x.1.2.2.1
 jn (fun (x0 : (((List S_api_Payment) × ((List S_pontagelaw16_Call) × ((List S_api_Poster) × Unit))) × Unit)) =>
   optF (none) (payout_Sum ((x0.1.1, ()), ())) fun y1 =>
   optF (none) (pontageref20_Sum ((x0.1.1, ()), ())) fun y2 =>
   jn (fun (x3 : (((List S_api_Payment) × ((List S_pontagelaw16_Call) × ((List S_api_Poster) × Unit))) × Unit)) =>
     brn (fitsLen (@lenL S_api_Payment (@appL S_api_Payment [] x3.1.1)))
      (iter (none) (fun x4 =>
        brn (@I.ltb .i64 x4.1.2.2.2.1 (I.ofNat .i64 (@lenL S_api_Payment x4.2.1)))
         (brn (@inB .i64 x4.1.2.2.2.1 (@lenL S_api_Payment x4.2.1))
          (brn (@inB .i64 x4.1.2.2.2.1 (@lenL S_api_Payment x4.2.1))
           (brn (@inB .i64 x4.1.2.2.2.1 (@lenL S_api_Payment x4.2.1))
            (.again ((x4.1.1, (x4.1.2.1, (x4.1.2.2.1, ((@I.add .i64 x4.1.2.2.2.1 (I.of .i64 1)), ())))), ((@setL S_api_Payment x4.2.1 (@I.nat .i64 x4.1.2.2.2.1) ((@I.rem .u64 (@rdL S_api_Payment Z_S_api_Payment x4.2.1 (@I.nat .i64 x4.1.2.2.2.1)).1 (I.of .u64 7)), (((@I.rem .u64 (@rdL S_api_Payment Z_S_api_Payment x4.2.1 (@I.nat .i64 x4.1.2.2.2.1)).2.1.1 (I.of .u64 300)), ((I.of .u64 0), ((I.of .u64 0), ((I.of .u64 0), ())))), ()))), ())))
            (.done (none)))
           (.done (none)))
          (.done (none)))
         (.done (iter (none) (fun x5 =>
           brn (@I.ltb .i64 x5.1.2.2.2.1 (I.of .i64 2))
            (brn (@inB .i64 x5.1.2.2.2.1 2)
             (optF (.done (none)) (pontagelaw16_Generate ((x5.1.1, ()), ())) fun y6 =>
             iter (.done (none)) (fun x7 =>
               brn (@I.ltb .i64 x7.1.2.2.2.2.2.2.1 (I.of .i64 2))
                (brn (@inB .i64 x7.1.2.2.2.2.2.2.1 2)
                 (optF (.done (.done (none))) (payout_Apply (((@Arr.sel (List S_api_Poster) [] 2 x7.1.2.2.2.2.2.1 (@I.nat .i64 x7.1.2.2.2.2.2.2.1)), (x7.1.2.2.1, ())), ())) fun y8 =>
                 optF (.done (.done (none))) (pontageref20_Apply (((@Arr.sel (List S_api_Poster) [] 2 x7.1.2.2.2.2.2.1 (@I.nat .i64 x7.1.2.2.2.2.2.2.1)), (x7.1.2.2.1, ())), ())) fun y9 =>
                 brn (@I.neb .i64 y8.1.2.1 y9.1.2.1)
                  (.done (.done (some ((false, ()), ()))))
                  (optF (.done (.done (none))) (pontagelaw0_EqualPosters ((y8.1.1, (y9.1.1, ())), ())) fun y10 =>
                  brn (bnot y10.1.1)
                   (.done (.done (some ((false, ()), ()))))
                   (.again ((x7.1.1, (x7.1.2.1, (x7.1.2.2.1, (x7.1.2.2.2.1, (x7.1.2.2.2.2.1, (x7.1.2.2.2.2.2.1, ((@I.add .i64 x7.1.2.2.2.2.2.2.1 (I.of .i64 1)), ()))))))), ()))))
                 (.done (.done (none))))
                (.done (.again ((x7.1.1, (x7.1.2.1, (x7.1.2.2.2.1, ((@I.add .i64 x7.1.2.2.2.2.1 (I.of .i64 1)), ())))), ()))))
             K0 ((x5.1.1, (x5.1.2.1, ((@Arr.sel (List S_api_Payment) [] 2 x5.1.2.2.1 (@I.nat .i64 x5.1.2.2.2.1)), (x5.1.2.2.1, (x5.1.2.2.2.1, ((x5.1.2.1, (y6.1.1, ())), ((I.of .i64 0), ()))))))), ()))
             (.done (none)))
            (.done (optF (none) (pontagelaw20_awake ((), ())) fun y6 =>
            some ((y6.1.1, ()), ()))))
         K0 ((x4.1.2.1, (x4.1.2.2.1, ((x4.1.1, (x4.2.1, ())), ((I.of .i64 0), ())))), ()))))
      K0 ((x3.1.1, (x3.1.2.1, (x3.1.2.2.1, ((I.of .i64 0), ())))), ((@appL S_api_Payment [] x3.1.1), ())))
      (none)) fun j3 =>
   brn (bnot (Ty.eqb (.arr 4 (.int .u64)) y1.1.1 y2.1.1))
    (some ((false, ()), ()))
    (brn (@I.neb .i64 y1.1.2.1 y2.1.2.1)
     (some ((false, ()), ()))
     (j3 ((x0.1.1, (x0.1.2.1, (x0.1.2.2.1, ()))), ())))) fun j0 =>
 jn (fun (x1 : (((List S_api_Payment) × ((List S_pontagelaw16_Call) × ((List S_api_Poster) × (Bool × Unit)))) × Unit)) =>
   brn x1.1.2.2.2.1
    (optF (none) (pontagelaw20_awake ((), ())) fun y2 =>
    some ((y2.1.1, ()), ()))
    (j0 ((x1.1.1, (x1.1.2.1, (x1.1.2.2.1, ()))), ()))) fun j1 =>
 brn (@I.ltb .i64 (I.of .i64 30) (I.ofNat .i64 (@lenL S_api_Payment a)))
  (j1 ((a, (b, (c, (true, ())))), ()))
  (brn (@I.ltb .i64 (I.of .i64 40) (I.ofNat .i64 (@lenL S_pontagelaw16_Call b)))
   (j1 ((a, (b, (c, (true, ())))), ()))
   (j1 ((a, (b, (c, ((@I.ltb .i64 (I.of .i64 30) (I.ofNat .i64 (@lenL S_api_Poster c))), ())))), ())))

/-- pontage/poster.TotalDue -/
noncomputable def poster_TotalDue (x : (⟨[.pl (.sl (.cons (.int .u64) (.cons (.arr 4 (.int .u64)) (.cons (.arr 4 (.int .u64)) (.cons (.arr 4 (.int .u64)) (.cons (.arr 4 (.int .u64)) (.cons (.int .u64) .nil)))))))], []⟩ : Tm).D) : Option (⟨[.pl (.arr 4 (.int .u64)), .pl (.int .i64)], []⟩ : Tm).D :=
 let a : (List S_api_Poster) := x.1.1
 optF (none) (poster_Valid ((a, ()), ())) fun y0 =>
 brn (bnot y0.1.1)
  (some ((Z_U, ((I.of .i64 2), ())), ()))
  (iter (none) (fun x1 =>
    brn (@I.ltb .i64 x1.1.2.2.1 x1.1.2.1)
     (brn (@inB .i64 x1.1.2.2.1 (@lenL S_api_Poster x1.1.1))
      (optF (.done (none)) (uint256_Add ((x1.2.2.1, ((@rdL S_api_Poster Z_S_api_Poster x1.1.1 (@I.nat .i64 x1.1.2.2.1)).2.1, ())), ())) fun y2 =>
      brn (@I.neb .i64 y2.1.2.1 (I.of .i64 0))
       (.done (some ((Z_U, (y2.1.2.1, ())), ())))
       (.again ((x1.1.1, (x1.1.2.1, ((@I.add .i64 x1.1.2.2.1 (I.of .i64 1)), ()))), (x1.2.1, (y2.1.1, ())))))
      (.done (none)))
     (.done (some ((x1.2.2.1, ((I.of .i64 0), ())), ()))))
  K0 ((a, ((I.ofNat .i64 (@lenL S_api_Poster a)), ((I.of .i64 0), ()))), (Z_U, (Z_U, ()))))

/-- pontage/pontagelaw20.PayoutComplete -/
noncomputable def pontagelaw20_PayoutComplete (x : (⟨[.pl (.sl (.cons (.int .i64) (.cons (.int .u64) (.cons (.arr 4 (.int .u64)) (.cons (.arr 4 (.int .u64)) (.cons .bool (.cons .bool (.cons (.int .u64) .nil)))))))), .pl (.arr 4 (.int .u64)), .pl (.int .u64)], []⟩ : Tm).D) : Option (⟨[.pl .bool], []⟩ : Tm).D :=
 let a : (List S_pontagelaw16_Call) := x.1.1
 let b : U := x.1.2.1
 let c : (I .u64) := x.1.2.2.1
 brn (@I.ltb .i64 (I.of .i64 40) (I.ofNat .i64 (@lenL S_pontagelaw16_Call a)))
  (optF (none) (pontagelaw20_awake ((), ())) fun y0 =>
  some ((y0.1.1, ()), ()))
  (optF (none) (pontagelaw16_Generate ((a, ()), ())) fun y0 =>
  optF (none) (poster_TotalDue ((y0.1.1, ()), ())) fun y1 =>
  brn (@I.neb .i64 y1.1.2.1 (I.of .i64 0))
   (brn (@I.eqb .i64 y1.1.2.1 (I.of .i64 4))
    (optF (none) (pontagelaw20_awake ((), ())) fun y2 =>
    some ((y2.1.1, ()), ()))
    (some ((false, ()), ())))
   (iter (none) (fun x2 =>
     brn (@I.ltb .i64 x2.1.2.2.1 (I.of .i64 3))
      (brn (@inB .i64 x2.1.2.2.1 3)
       (optF (.done (none)) (payout_Plan ((x2.1.1, ((@Arr.sel U Z_U 3 x2.1.2.1 (@I.nat .i64 x2.1.2.2.1)), ())), ())) fun y3 =>
       optF (.done (none)) (payout_Sum ((y3.1.1, ()), ())) fun y4 =>
       optF (.done (none)) (payout_Apply ((x2.1.1, (y3.1.1, ())), ())) fun y5 =>
       jn (fun (x6 : (((List S_api_Poster) × ((List S_api_Payment) × ((I .i64) × ((I .i64) × ((List S_api_Poster) × ((I .i64) × ((U × (U × (U × Unit))) × ((I .i64) × Unit)))))))) × (U × (U × (U × Unit))))) =>
         optF (.done (none)) (poster_TotalDue ((x6.1.2.2.2.2.1, ()), ())) fun y7 =>
         jn (fun (x8 : (((List S_api_Poster) × ((List S_api_Payment) × ((U × (U × (U × Unit))) × ((I .i64) × ((I .i64) × (Bool × ((I .i64) × (Bool × ((I .i64) × (Bool × (U × (U × (U × (U × (Bool × (U × (U × (U × (U × (Bool × Unit)))))))))))))))))))) × (U × ((List U) × Unit)))) =>
           iter (.done (none)) (fun x9 =>
             brn (@I.ltb .i64 x9.1.2.2.1 (I.ofNat .i64 (@lenL S_api_Payment x9.1.2.1)))
              (brn (@inB .i64 x9.1.2.2.1 (@lenL S_api_Payment x9.1.2.1))
               (brn (Ty.eqb (.arr 4 (.int .u64)) (@rdL S_api_Payment Z_S_api_Payment x9.1.2.1 (@I.nat .i64 x9.1.2.2.1)).2.1 Z_U)
                (.done (.done (some ((false, ()), ()))))
                (brn (@inB .i64 x9.1.2.2.1 (@lenL S_api_Payment x9.1.2.1))
                 (brn (@I.eqb .u64 (@rdL S_api_Payment Z_S_api_Payment x9.1.2.1 (@I.nat .i64 x9.1.2.2.1)).1 (I.of .u64 0))
                  (.done (.done (some ((false, ()), ()))))
                  (.again ((x9.1.1, (x9.1.2.1, ((@I.add .i64 x9.1.2.2.1 (I.of .i64 1)), (x9.1.2.2.2.1, (x9.1.2.2.2.2.1, (x9.1.2.2.2.2.2.1, (x9.1.2.2.2.2.2.2.1, (x9.1.2.2.2.2.2.2.2.1, (x9.1.2.2.2.2.2.2.2.2.1, (x9.1.2.2.2.2.2.2.2.2.2.1, (x9.1.2.2.2.2.2.2.2.2.2.2.1, (x9.1.2.2.2.2.2.2.2.2.2.2.2.1, (x9.1.2.2.2.2.2.2.2.2.2.2.2.2.1, (x9.1.2.2.2.2.2.2.2.2.2.2.2.2.2.1, (x9.1.2.2.2.2.2.2.2.2.2.2.2.2.2.2.1, (x9.1.2.2.2.2.2.2.2.2.2.2.2.2.2.2.2.1, (x9.1.2.2.2.2.2.2.2.2.2.2.2.2.2.2.2.2.1, (x9.1.2.2.2.2.2.2.2.2.2.2.2.2.2.2.2.2.2.1, (x9.1.2.2.2.2.2.2.2.2.2.2.2.2.2.2.2.2.2.2.1, (x9.1.2.2.2.2.2.2.2.2.2.2.2.2.2.2.2.2.2.2.2.1, (x9.1.2.2.2.2.2.2.2.2.2.2.2.2.2.2.2.2.2.2.2.2.1, ()))))))))))))))))))))), (x9.2.1, (x9.2.2.1, ())))))
                 (.done (.done (none)))))
               (.done (.done (none))))
              (.done (.again ((x9.1.1, (x9.1.2.2.2.1, ((@I.add .i64 x9.1.2.2.2.2.1 (I.of .i64 1)), ()))), (x9.2.1, ())))))
           K0 ((x8.1.1, (x8.1.2.1, ((I.of .i64 0), (x8.1.2.2.1, (x8.1.2.2.2.1, (x8.1.2.2.2.2.1, (x8.1.2.2.2.2.2.1, (x8.1.2.2.2.2.2.2.1, (x8.1.2.2.2.2.2.2.2.1, (x8.1.2.2.2.2.2.2.2.2.1, (x8.1.2.2.2.2.2.2.2.2.2.1, (x8.1.2.2.2.2.2.2.2.2.2.2.1, (x8.1.2.2.2.2.2.2.2.2.2.2.2.1, (x8.1.2.2.2.2.2.2.2.2.2.2.2.2.1, (x8.1.2.2.2.2.2.2.2.2.2.2.2.2.2.1, (x8.1.2.2.2.2.2.2.2.2.2.2.2.2.2.2.1, (x8.1.2.2.2.2.2.2.2.2.2.2.2.2.2.2.2.1, (x8.1.2.2.2.2.2.2.2.2.2.2.2.2.2.2.2.2.1, (x8.1.2.2.2.2.2.2.2.2.2.2.2.2.2.2.2.2.2.1, (x8.1.2.2.2.2.2.2.2.2.2.2.2.2.2.2.2.2.2.2.1, (x8.1.2.2.2.2.2.2.2.2.2.2.2.2.2.2.2.2.2.2.2.1, ()))))))))))))))))))))), (x8.2.1, (x8.2.2.1, ())))) fun j8 =>
         brn (@I.neb .i64 x6.1.2.2.1 (I.of .i64 0))
          (.done (some ((false, ()), ())))
          (brn (@I.neb .i64 x6.1.2.2.2.1 (I.of .i64 0))
           (.done (some ((false, ()), ())))
           (brn (@I.neb .i64 x6.1.2.2.2.2.2.1 (I.of .i64 0))
            (.done (some ((false, ()), ())))
            (brn (@I.neb .i64 y7.1.2.1 (I.of .i64 0))
             (.done (some ((false, ()), ())))
             (optF (.done (none)) (uint256_Min ((x6.2.2.1, ((x6.2.1 :: []), ())), ())) fun y9 =>
             brn (bnot (Ty.eqb (.arr 4 (.int .u64)) x6.2.2.2.1 y9.1.1))
              (.done (some ((false, ()), ())))
              (optF (.done (none)) (uint256_SaturatingSub ((x6.2.1, (x6.2.2.1, ())), ())) fun y10 =>
              brn (bnot (Ty.eqb (.arr 4 (.int .u64)) y7.1.1 y10.1.1))
               (.done (some ((false, ()), ())))
               (j8 ((x6.1.1, (x6.1.2.1, (x6.1.2.2.2.2.2.2.1, (x6.1.2.2.2.2.2.2.2.1, (x6.1.2.2.2.1, ((@I.neb .i64 x6.1.2.2.2.1 (I.of .i64 0)), (x6.1.2.2.2.2.2.1, ((@I.neb .i64 x6.1.2.2.2.2.2.1 (I.of .i64 0)), (y7.1.2.1, ((@I.neb .i64 y7.1.2.1 (I.of .i64 0)), (x6.2.2.2.1, (x6.2.2.1, (x6.2.1, (y9.1.1, ((bnot (Ty.eqb (.arr 4 (.int .u64)) x6.2.2.2.1 y9.1.1)), (y7.1.1, (x6.2.1, (x6.2.2.1, (y10.1.1, ((bnot (Ty.eqb (.arr 4 (.int .u64)) y7.1.1 y10.1.1)), ())))))))))))))))))))), (x6.2.1, ((x6.2.1 :: []), ())))))))))) fun j6 =>
       brn (@I.eqb .i64 y5.1.2.1 (I.of .i64 4))
        (brn (@I.eqb .i64 y3.1.2.1 (I.of .i64 0))
         (brn (@I.eqb .i64 y4.1.2.1 (I.of .i64 0))
          (optF (.done (none)) (uint256_Min (((@Arr.sel U Z_U 3 x2.1.2.1 (@I.nat .i64 x2.1.2.2.1)), ((x2.2.1 :: []), ())), ())) fun y7 =>
          brn (Ty.eqb (.arr 4 (.int .u64)) y4.1.1 y7.1.1)
           (.again ((x2.1.1, (x2.1.2.1, ((@I.add .i64 x2.1.2.2.1 (I.of .i64 1)), ()))), (x2.2.1, ())))
           (j6 ((x2.1.1, (y3.1.1, (y3.1.2.1, (y4.1.2.1, (y5.1.1, (y5.1.2.1, (x2.1.2.1, (x2.1.2.2.1, ())))))))), (x2.2.1, ((@Arr.sel U Z_U 3 x2.1.2.1 (@I.nat .i64 x2.1.2.2.1)), (y4.1.1, ()))))))
          (j6 ((x2.1.1, (y3.1.1, (y3.1.2.1, (y4.1.2.1, (y5.1.1, (y5.1.2.1, (x2.1.2.1, (x2.1.2.2.1, ())))))))), (x2.2.1, ((@Arr.sel U Z_U 3 x2.1.2.1 (@I.nat .i64 x2.1.2.2.1)), (y4.1.1, ()))))))
         (j6 ((x2.1.1, (y3.1.1, (y3.1.2.1, (y4.1.2.1, (y5.1.1, (y5.1.2.1, (x2.1.2.1, (x2.1.2.2.1, ())))))))), (x2.2.1, ((@Arr.sel U Z_U 3 x2.1.2.1 (@I.nat .i64 x2.1.2.2.1)), (y4.1.1, ()))))))
        (j6 ((x2.1.1, (y3.1.1, (y3.1.2.1, (y4.1.2.1, (y5.1.1, (y5.1.2.1, (x2.1.2.1, (x2.1.2.2.1, ())))))))), (x2.2.1, ((@Arr.sel U Z_U 3 x2.1.2.1 (@I.nat .i64 x2.1.2.2.1)), (y4.1.1, ()))))))
       (.done (none)))
      (.done (optF (none) (pontagelaw20_awake ((), ())) fun y3 =>
      some ((y3.1.1, ()), ()))))
   K0 ((y0.1.1, ((b, (((@I.rem .u64 c (I.of .u64 2000)), ((I.of .u64 0), ((I.of .u64 0), ((I.of .u64 0), ())))), (y1.1.1, ()))), ((I.of .i64 0), ()))), (y1.1.1, ()))))

end Sym
