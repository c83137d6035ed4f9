/- The given functions as plain functions, as the printer told them. -/
import Derived.Test.YtpeicefbediffaaProg
import Derived.Shelf.Spec.SlicesInsertGrow
import Derived.Test.YtpeicefbediffaaPart3
namespace Sym
open Go
abbrev S_api_Payment : Type := (I .u64) × (U × Unit)
noncomputable abbrev Z_S_api_Payment : S_api_Payment := ((I.of .u64 0), (Z_U, ()))
abbrev S_pontagelaw16_Call : Type := (I .i64) × ((I .u64) × (U × (U × (Bool × (Bool × ((I .u64) × Unit))))))
noncomputable def poster_sum (x : (⟨[.pl (.arr 4 (.int .u64)), .pl (.arr 4 (.int .u64))], []⟩ : Tm).D) : Option (⟨[.pl (.arr 5 (.int .u64))], []⟩ : Tm).D :=
 let a : U := x.1.1
 let b : U := x.1.2.1
 iter (none) (fun x0 =>
   brn (@I.ltb .i64 x0.1.2.1 (I.of .i64 4))
    (brn (@inB .i64 x0.1.2.1 4)
     (brn (@inB .i64 x0.1.2.1 4)
      (optF (.done (none)) (add64F (((@Arr.sel (I .u64) (I.of .u64 0) 4 x0.2.1 (@I.nat .i64 x0.1.2.1)), ((@Arr.sel (I .u64) (I.of .u64 0) 4 x0.2.2.1 (@I.nat .i64 x0.1.2.1)), (x0.1.1, ()))), ())) fun y1 =>
      brn (@inB .i64 x0.1.2.1 5)
       (.again ((y1.1.2.1, ((@I.add .i64 x0.1.2.1 (I.of .i64 1)), ())), (x0.2.1, (x0.2.2.1, (x0.2.2.2.1, ((@Arr.upd (I .u64) 5 x0.2.2.2.2.1 (@I.nat .i64 x0.1.2.1) y1.1.1), ()))))))
       (.done (none)))
      (.done (none)))
     (.done (none)))
    (.done (some (((x0.2.2.2.2.1.1, (x0.2.2.2.2.1.2.1, (x0.2.2.2.2.1.2.2.1, (x0.2.2.2.2.1.2.2.2.1, (x0.1.1, ()))))), ()), ()))))
 K0 (((I.of .u64 0), ((I.of .i64 0), ())), (a, (b, (((I.of .u64 0), Z_U), (((I.of .u64 0), Z_U), ())))))
noncomputable def poster_isZero (x : (⟨[.pl (.arr 4 (.int .u64))], []⟩ : Tm).D) : Option (⟨[.pl .bool], []⟩ : Tm).D :=
 let a : U := x.1.1
 some (((Ty.eqb (.arr 4 (.int .u64)) a Z_U), ()), ())
noncomputable def poster_Valid (x : (⟨[.pl (.sl (.cons (.int .u64) (.cons (.arr 4 (.int .u64)) (.cons (.arr 4 (.int .u64)) (.cons (.arr 4 (.int .u64)) (.cons (.arr 4 (.int .u64)) (.cons (.int .u64) .nil)))))))], []⟩ : Tm).D) : Option (⟨[.pl .bool], []⟩ : Tm).D :=
 let a : (List S_api_Poster) := x.1.1
 iter (none) (fun x0 =>
   brn (@I.ltb .i64 x0.1.2.2.2.1 x0.1.2.2.1)
    (brn (@inB .i64 x0.1.2.2.2.1 (@lenL S_api_Poster x0.1.2.1))
     (jn (fun (x1 : (((List S_api_Poster) × ((List S_api_Poster) × ((I .i64) × ((I .i64) × ((I .i64) × (Bool × (Bool × (Bool × Unit)))))))) × (S_api_Poster × Unit))) =>
       optF (.done (none)) (poster_sum ((x1.2.1.2.1, (x1.2.1.2.2.2.2.1, ())), ())) fun y2 =>
       optF (.done (none)) (poster_sum ((x1.2.1.2.2.1, (x1.2.1.2.2.2.1, ())), ())) fun y3 =>
       brn (bnot (Ty.eqb (.arr 5 (.int .u64)) y2.1.1 y3.1.1))
        (.done (some ((false, ()), ())))
        (optF (.done (none)) (poster_isZero ((x1.2.1.2.1, ()), ())) fun y4 =>
        brn (bnot (Ty.eqb .bool (@I.eqb .u64 x1.2.1.2.2.2.2.2.1 (I.of .u64 0)) y4.1.1))
         (.done (some ((false, ()), ())))
         (.again ((x1.1.1, (x1.1.2.1, (x1.1.2.2.1, ((@I.add .i64 x1.1.2.2.2.1 (I.of .i64 1)), ())))), ())))) fun j1 =>
     brn (@I.eqb .u64 (@rdL S_api_Poster Z_S_api_Poster x0.1.2.1 (@I.nat .i64 x0.1.2.2.2.1)).1 (I.of .u64 0))
      (.done (some ((false, ()), ())))
      (brn (@I.ltb .i64 (I.of .i64 0) x0.1.2.2.2.1)
       (brn (@inB .i64 (@I.sub .i64 x0.1.2.2.2.1 (I.of .i64 1)) (@lenL S_api_Poster x0.1.1))
        (brn (@I.leb .u64 (@rdL S_api_Poster Z_S_api_Poster x0.1.2.1 (@I.nat .i64 x0.1.2.2.2.1)).1 (@rdL S_api_Poster Z_S_api_Poster x0.1.1 (@I.nat .i64 (@I.sub .i64 x0.1.2.2.2.1 (I.of .i64 1)))).1)
         (.done (some ((false, ()), ())))
         (j1 ((x0.1.1, (x0.1.2.1, (x0.1.2.2.1, (x0.1.2.2.2.1, (x0.1.2.2.2.1, ((@I.ltb .i64 (I.of .i64 0) x0.1.2.2.2.1), (true, ((@I.leb .u64 (@rdL S_api_Poster Z_S_api_Poster x0.1.2.1 (@I.nat .i64 x0.1.2.2.2.1)).1 (@rdL S_api_Poster Z_S_api_Poster x0.1.1 (@I.nat .i64 (@I.sub .i64 x0.1.2.2.2.1 (I.of .i64 1)))).1), ())))))))), ((@rdL S_api_Poster Z_S_api_Poster x0.1.2.1 (@I.nat .i64 x0.1.2.2.2.1)), ()))))
        (.done (none)))
       (j1 ((x0.1.1, (x0.1.2.1, (x0.1.2.2.1, (x0.1.2.2.2.1, (x0.1.2.2.2.1, ((@I.ltb .i64 (I.of .i64 0) x0.1.2.2.2.1), (false, (false, ())))))))), ((@rdL S_api_Poster Z_S_api_Poster x0.1.2.1 (@I.nat .i64 x0.1.2.2.2.1)), ())))))
     (.done (none)))
    (.done (some (((@I.leb .i64 (I.ofNat .i64 (@lenL S_api_Poster x0.1.1)) (I.of .i64 64)), ()), ()))))
 K0 ((a, (a, ((I.ofNat .i64 (@lenL S_api_Poster a)), ((I.of .i64 0), ())))), ())
noncomputable def payout_Plan (x : (⟨[.pl (.sl (.cons (.int .u64) (.cons (.arr 4 (.int .u64)) (.cons (.arr 4 (.int .u64)) (.cons (.arr 4 (.int .u64)) (.cons (.arr 4 (.int .u64)) (.cons (.int .u64) .nil))))))), .pl (.arr 4 (.int .u64))], []⟩ : Tm).D) : Option (⟨[.pl (.sl (.cons (.int .u64) (.cons (.arr 4 (.int .u64)) .nil))), .pl (.int .i64)], []⟩ : Tm).D :=
 let a : (List S_api_Poster) := x.1.1
 let b : U := x.1.2.1
 optF (none) (poster_Valid ((a, ()), ())) fun y0 =>
 brn (bnot y0.1.1)
  (some (([], ((I.of .i64 2), ())), ()))
  (optF (none) (debtqueue_New ((a, ()), ())) fun y1 =>
  optF (none) (debtqueue_Queue_Pop ((), (((), y1.2.1.2), (y1.2.2.1, ())))) fun y2 =>
  iter (none) (fun x3 =>
    jn (fun (x4 : ((U × (U × (Bool × Unit))) × (U × ((List S_api_Payment) × ((Unit × Unit) × ((List S_debtqueue_item) × (S_api_Poster × Unit))))))) =>
      optF (.done (none)) (uint256_Min ((x4.2.2.2.2.2.1.2.1, ((x4.2.1 :: []), ())), ())) fun y5 =>
      optF (.done (none)) (uint256_SaturatingSub ((x4.2.1, (y5.1.1, ())), ())) fun y6 =>
      brn (fitsLen (@lenL S_api_Payment (@appL S_api_Payment x4.2.2.1 ((x4.2.2.2.2.2.1.1, (y5.1.1, ())) :: []))))
       (optF (.done (none)) (debtqueue_Queue_Pop ((), (((), x4.2.2.2.1.2), (x4.2.2.2.2.1, ())))) fun y7 =>
       .again ((y7.1.2.1, ()), (y6.1.1, ((@appL S_api_Payment x4.2.2.1 ((x4.2.2.2.2.2.1.1, (y5.1.1, ())) :: [])), (((), y7.2.1.2), (y7.2.2.1, (y7.1.1, ())))))))
       (.done (none))) fun j4 =>
    brn x3.1.1
     (brn (bnot (Ty.eqb (.arr 4 (.int .u64)) x3.2.1 Z_U))
      (j4 ((x3.2.1, (Z_U, ((bnot (Ty.eqb (.arr 4 (.int .u64)) x3.2.1 Z_U)), ()))), (x3.2.1, (x3.2.2.1, (((), x3.2.2.2.1.2), (x3.2.2.2.2.1, (x3.2.2.2.2.2.1, ())))))))
      (.done (some ((x3.2.2.1, ((I.of .i64 0), ())), ()))))
     (.done (some ((x3.2.2.1, ((I.of .i64 0), ())), ()))))
  K0 ((y2.1.2.1, ()), (b, ([], (((), y2.2.1.2), (y2.2.2.1, (y2.1.1, ())))))))
noncomputable def slices_Clone___api_Poster_api_Poster_ (x : (⟨[.pl (.sl (.cons (.int .u64) (.cons (.arr 4 (.int .u64)) (.cons (.arr 4 (.int .u64)) (.cons (.arr 4 (.int .u64)) (.cons (.arr 4 (.int .u64)) (.cons (.int .u64) .nil)))))))], []⟩ : Tm).D) : Option (⟨[.whole 0], [.row (.cons (.int .u64) (.cons (.arr 4 (.int .u64)) (.cons (.arr 4 (.int .u64)) (.cons (.arr 4 (.int .u64)) (.cons (.arr 4 (.int .u64)) (.cons (.int .u64) .nil))))))]⟩ : Tm).D :=
 let a : (List S_api_Poster) := x.1.1
 brn (emptyN (@lenL S_api_Poster a))
  (both (none)
   (some ((), ([], ())))
   (brn (fitsLen (@lenL S_api_Poster (@appL S_api_Poster [] a)))
    (some ((), ((@appL S_api_Poster [] a), ())))
    (none)))
  (brn (fitsLen (@lenL S_api_Poster (@appL S_api_Poster [] a)))
   (some ((), ((@appL S_api_Poster [] a), ())))
   (none))
noncomputable def poster_Find (x : (⟨[.pl (.sl (.cons (.int .u64) (.cons (.arr 4 (.int .u64)) (.cons (.arr 4 (.int .u64)) (.cons (.arr 4 (.int .u64)) (.cons (.arr 4 (.int .u64)) (.cons (.int .u64) .nil))))))), .pl (.int .u64)], []⟩ : Tm).D) : Option (⟨[.pl (.int .i64)], []⟩ : Tm).D :=
 let a : (List S_api_Poster) := x.1.1
 let b : (I .u64) := x.1.2.1
 iter (none) (fun x0 =>
   brn (@I.ltb .i64 x0.1.2.2.2.1 x0.1.2.2.1)
    (brn (@inB .i64 x0.1.2.2.2.1 (@lenL S_api_Poster x0.1.1))
     (brn (@I.eqb .u64 (@rdL S_api_Poster Z_S_api_Poster x0.1.1 (@I.nat .i64 x0.1.2.2.2.1)).1 x0.2.1)
      (.done (some ((x0.1.2.2.2.1, ()), ())))
      (.again ((x0.1.1, (((), x0.1.2.1.2), (x0.1.2.2.1, ((@I.add .i64 x0.1.2.2.2.1 (I.of .i64 1)), ())))), (x0.2.1, ()))))
     (.done (none)))
    (.done (some (((I.of .i64 (-1)), ()), ()))))
 K0 ((a, (((), ()), ((I.ofNat .i64 (@lenL S_api_Poster a)), ((I.of .i64 0), ())))), (b, ()))
noncomputable def poster_Settle (x : (⟨[.pl (.sl (.cons (.int .u64) (.cons (.arr 4 (.int .u64)) (.cons (.arr 4 (.int .u64)) (.cons (.arr 4 (.int .u64)) (.cons (.arr 4 (.int .u64)) (.cons (.int .u64) .nil))))))), .pl (.int .u64), .pl (.arr 4 (.int .u64))], []⟩ : Tm).D) : Option (⟨[.pl (.sl (.cons (.int .u64) (.cons (.arr 4 (.int .u64)) (.cons (.arr 4 (.int .u64)) (.cons (.arr 4 (.int .u64)) (.cons (.arr 4 (.int .u64)) (.cons (.int .u64) .nil))))))), .pl (.int .i64)], []⟩ : Tm).D :=
 let a : (List S_api_Poster) := x.1.1
 let b : (I .u64) := x.1.2.1
 let c : U := x.1.2.2.1
 optF (none) (poster_Find ((a, (b, ())), ())) fun y0 =>
 optF (none) (poster_Valid ((a, ()), ())) fun y1 =>
 brn (bnot y1.1.1)
  (some (([], ((I.of .i64 2), ())), ()))
  (brn (@I.ltb .i64 y0.1.1 (I.of .i64 0))
   (some (([], ((I.of .i64 8), ())), ()))
   (brn (@inB .i64 y0.1.1 (@lenL S_api_Poster a))
    (optF (none) (uint256_Sub (((@rdL S_api_Poster Z_S_api_Poster a (@I.nat .i64 y0.1.1)).2.1, (c, ())), ())) fun y2 =>
    brn (@I.neb .i64 y2.1.2.1 (I.of .i64 0))
     (some (([], ((I.of .i64 10), ())), ()))
     (optF (none) (uint256_Add (((@rdL S_api_Poster Z_S_api_Poster a (@I.nat .i64 y0.1.1)).2.2.2.2.1, (c, ())), ())) fun y3 =>
     brn (@I.neb .i64 y3.1.2.1 (I.of .i64 0))
      (some (([], (y3.1.2.1, ())), ()))
      (jn (fun (x4 : (((List S_api_Poster) × ((I .i64) × Unit)) × (S_api_Poster × Unit))) =>
        optF (none) (slices_Clone___api_Poster_api_Poster_ ((x4.1.1, ()), ())) fun y5 =>
        brn (@inB .i64 x4.1.2.1 (@lenL S_api_Poster y5.2.1))
         (some (((@setL S_api_Poster y5.2.1 (@I.nat .i64 x4.1.2.1) x4.2.1), ((I.of .i64 0), ())), ()))
         (none)) fun j4 =>
      optF (none) (poster_isZero ((y2.1.1, ()), ())) fun y5 =>
      brn y5.1.1
       (j4 ((a, (y0.1.1, ())), (((@rdL S_api_Poster Z_S_api_Poster a (@I.nat .i64 y0.1.1)).1, (y2.1.1, ((@rdL S_api_Poster Z_S_api_Poster a (@I.nat .i64 y0.1.1)).2.2.1, ((@rdL S_api_Poster Z_S_api_Poster a (@I.nat .i64 y0.1.1)).2.2.2.1, (y3.1.1, ((I.of .u64 0), (@rdL S_api_Poster Z_S_api_Poster a (@I.nat .i64 y0.1.1)).2.2.2.2.2.2)))))), ())))
       (j4 ((a, (y0.1.1, ())), (((@rdL S_api_Poster Z_S_api_Poster a (@I.nat .i64 y0.1.1)).1, (y2.1.1, ((@rdL S_api_Poster Z_S_api_Poster a (@I.nat .i64 y0.1.1)).2.2.1, ((@rdL S_api_Poster Z_S_api_Poster a (@I.nat .i64 y0.1.1)).2.2.2.1, (y3.1.1, (@rdL S_api_Poster Z_S_api_Poster a (@I.nat .i64 y0.1.1)).2.2.2.2.2))))), ()))))))
    (none)))
noncomputable def payout_Apply (x : (⟨[.pl (.sl (.cons (.int .u64) (.cons (.arr 4 (.int .u64)) (.cons (.arr 4 (.int .u64)) (.cons (.arr 4 (.int .u64)) (.cons (.arr 4 (.int .u64)) (.cons (.int .u64) .nil))))))), .pl (.sl (.cons (.int .u64) (.cons (.arr 4 (.int .u64)) .nil)))], []⟩ : Tm).D) : Option (⟨[.pl (.sl (.cons (.int .u64) (.cons (.arr 4 (.int .u64)) (.cons (.arr 4 (.int .u64)) (.cons (.arr 4 (.int .u64)) (.cons (.arr 4 (.int .u64)) (.cons (.int .u64) .nil))))))), .pl (.int .i64)], []⟩ : Tm).D :=
 let a : (List S_api_Poster) := x.1.1
 let b : (List S_api_Payment) := x.1.2.1
 optF (none) (slices_Clone___api_Poster_api_Poster_ ((a, ()), ())) fun y0 =>
 iter (none) (fun x1 =>
   brn (@I.ltb .i64 x1.1.2.2.2.1 x1.1.2.2.1)
    (brn (@inB .i64 x1.1.2.2.2.1 (@lenL S_api_Payment x1.1.2.1))
     (optF (.done (none)) (poster_Settle ((x1.1.1, ((@rdL S_api_Payment Z_S_api_Payment x1.1.2.1 (@I.nat .i64 x1.1.2.2.2.1)).1, ((@rdL S_api_Payment Z_S_api_Payment x1.1.2.1 (@I.nat .i64 x1.1.2.2.2.1)).2.1, ()))), ())) fun y2 =>
     brn (@I.neb .i64 y2.1.2.1 (I.of .i64 0))
      (.done (some (([], (y2.1.2.1, ())), ())))
      (.again ((y2.1.1, (x1.1.2.1, (x1.1.2.2.1, ((@I.add .i64 x1.1.2.2.2.1 (I.of .i64 1)), ())))), ())))
     (.done (none)))
    (.done (some ((x1.1.1, ((I.of .i64 0), ())), ()))))
 K0 ((y0.2.1, (b, ((I.ofNat .i64 (@lenL S_api_Payment b)), ((I.of .i64 0), ())))), ())
noncomputable def payout_Sum (x : (⟨[.pl (.sl (.cons (.int .u64) (.cons (.arr 4 (.int .u64)) .nil)))], []⟩ : Tm).D) : Option (⟨[.pl (.arr 4 (.int .u64)), .pl (.int .i64)], []⟩ : Tm).D :=
 let a : (List S_api_Payment) := x.1.1
 iter (none) (fun x0 =>
   brn (@I.ltb .i64 x0.1.2.2.1 x0.1.2.1)
    (brn (@inB .i64 x0.1.2.2.1 (@lenL S_api_Payment x0.1.1))
     (optF (.done (none)) (uint256_Add ((x0.2.2.1, ((@rdL S_api_Payment Z_S_api_Payment x0.1.1 (@I.nat .i64 x0.1.2.2.1)).2.1, ())), ())) fun y1 =>
     brn (@I.neb .i64 y1.1.2.1 (I.of .i64 0))
      (.done (some ((Z_U, (y1.1.2.1, ())), ())))
      (.again ((x0.1.1, (x0.1.2.1, ((@I.add .i64 x0.1.2.2.1 (I.of .i64 1)), ()))), (x0.2.1, (y1.1.1, ())))))
     (.done (none)))
    (.done (some ((x0.2.2.1, ((I.of .i64 0), ())), ()))))
 K0 ((a, ((I.ofNat .i64 (@lenL S_api_Payment a)), ((I.of .i64 0), ()))), (Z_U, (Z_U, ())))
noncomputable def poster_TotalDue (x : (⟨[.pl (.sl (.cons (.int .u64) (.cons (.arr 4 (.int .u64)) (.cons (.arr 4 (.int .u64)) (.cons (.arr 4 (.int .u64)) (.cons (.arr 4 (.int .u64)) (.cons (.int .u64) .nil)))))))], []⟩ : Tm).D) : Option (⟨[.pl (.arr 4 (.int .u64)), .pl (.int .i64)], []⟩ : Tm).D :=
 let a : (List S_api_Poster) := x.1.1
 optF (none) (poster_Valid ((a, ()), ())) fun y0 =>
 brn (bnot y0.1.1)
  (some ((Z_U, ((I.of .i64 2), ())), ()))
  (iter (none) (fun x1 =>
    brn (@I.ltb .i64 x1.1.2.2.1 x1.1.2.1)
     (brn (@inB .i64 x1.1.2.2.1 (@lenL S_api_Poster x1.1.1))
      (optF (.done (none)) (uint256_Add ((x1.2.2.1, ((@rdL S_api_Poster Z_S_api_Poster x1.1.1 (@I.nat .i64 x1.1.2.2.1)).2.1, ())), ())) fun y2 =>
      brn (@I.neb .i64 y2.1.2.1 (I.of .i64 0))
       (.done (some ((Z_U, (y2.1.2.1, ())), ())))
       (.again ((x1.1.1, (x1.1.2.1, ((@I.add .i64 x1.1.2.2.1 (I.of .i64 1)), ()))), (x1.2.1, (y2.1.1, ())))))
      (.done (none)))
     (.done (some ((x1.2.2.1, ((I.of .i64 0), ())), ()))))
  K0 ((a, ((I.ofNat .i64 (@lenL S_api_Poster a)), ((I.of .i64 0), ()))), (Z_U, (Z_U, ()))))
end Sym

/- slices.Insert at a slice of posters, as a plain function. -/
namespace Sym
open Go
abbrev pT18 : Ty := .cons (.int .u64) (.cons (.arr 4 (.int .u64)) (.cons (.arr 4 (.int .u64)) (.cons (.arr 4 (.int .u64)) (.cons (.arr 4 (.int .u64)) (.cons (.int .u64) .nil)))))
noncomputable def insertF (x : (⟨[.whole 0, .pl (.int .i64), .whole 1], [.row pT18, .row pT18]⟩ : Tm).D) : Option (⟨[.whole 0], [.row pT18]⟩ : Tm).D :=
  let i : I .i64 := x.1.1
  let l : List pT18.D := x.2.1
  let ys : List pT18.D := x.2.2.1
  brn (inB' i (lenL l)) (brn (Nat.ble 1 (lenL ys)) (brn (fitsLen (lenL l + lenL ys)) (some ((), (subL l 0 (I.nat i) ++ ys ++ subL l (I.nat i) (lenL l - I.nat i), ()))) none) none) none
noncomputable def insertC : Con := ⟨⟨[.whole 0, .pl (.int .i64), .whole 1], [.row pT18, .row pT18]⟩, ⟨[.whole 0], [.row pT18]⟩, insertF⟩
end Sym

/- The given functions as plain functions, as the printer told them. -/
namespace Sym
open Go
noncomputable def KS_0001020203030303_256_633d86 : List (I .u8) := bytesL [0, 1, 2, 2, 3, 3, 3, 3, 4, 4, 4, 4, 4, 4, 4, 4, 5, 5, 5, 5, 5, 5, 5, 5, 5, 5, 5, 5, 5, 5, 5, 5, 6, 6, 6, 6, 6, 6, 6, 6, 6, 6, 6, 6, 6, 6, 6, 6, 6, 6, 6, 6, 6, 6, 6, 6, 6, 6, 6, 6, 6, 6, 6, 6, 7, 7, 7, 7, 7, 7, 7, 7, 7, 7, 7, 7, 7, 7, 7, 7, 7, 7, 7, 7, 7, 7, 7, 7, 7, 7, 7, 7, 7, 7, 7, 7, 7, 7, 7, 7, 7, 7, 7, 7, 7, 7, 7, 7, 7, 7, 7, 7, 7, 7, 7, 7, 7, 7, 7, 7, 7, 7, 7, 7, 7, 7, 7, 7, 8, 8, 8, 8, 8, 8, 8, 8, 8, 8, 8, 8, 8, 8, 8, 8, 8, 8, 8, 8, 8, 8, 8, 8, 8, 8, 8, 8, 8, 8, 8, 8, 8, 8, 8, 8, 8, 8, 8, 8, 8, 8, 8, 8, 8, 8, 8, 8, 8, 8, 8, 8, 8, 8, 8, 8, 8, 8, 8, 8, 8, 8, 8, 8, 8, 8, 8, 8, 8, 8, 8, 8, 8, 8, 8, 8, 8, 8, 8, 8, 8, 8, 8, 8, 8, 8, 8, 8, 8, 8, 8, 8, 8, 8, 8, 8, 8, 8, 8, 8, 8, 8, 8, 8, 8, 8, 8, 8, 8, 8, 8, 8, 8, 8, 8, 8, 8, 8, 8, 8, 8, 8, 8, 8, 8, 8, 8, 8]
abbrev S_api_Int256 : Type := Bool × (U × Unit)
noncomputable abbrev Z_S_api_Int256 : S_api_Int256 := (false, (Z_U, ()))
abbrev S_api_Report : Type := (I .u64) × S_api_Payment
noncomputable abbrev Z_S_api_Report : S_api_Report := ((I.of .u64 0), Z_S_api_Payment)
abbrev S_pricer_Outcome : Type := (I .u64) × (U × ((List S_api_Payment) × Unit))
abbrev S_pontagelaw21_Call : Type := (I .i64) × ((I .u64) × ((I .u64) × (U × (S_api_Report × ((I .u64) × (Bool × Unit))))))
noncomputable abbrev Z_S_pontagelaw21_Call : S_pontagelaw21_Call := ((I.of .i64 0), ((I.of .u64 0), ((I.of .u64 0), (Z_U, (Z_S_api_Report, ((I.of .u64 0), (false, ())))))))
abbrev S_api_Params : Type := (I .u64) × ((I .u64) × ((I .u64) × (U × ((I .u64) × (U × ((I .u64) × (U × U)))))))
abbrev S_api_Pricer : Type := U × ((I .u64) × ((I .u64) × ((I .u64) × (S_api_Int256 × ((List S_api_Poster) × Unit)))))
abbrev Y_api_Int256 : Ty := .cons .bool (.cons u256 .nil)
abbrev Y_api_Payment : Ty := .cons (.int .u64) (.cons u256 .nil)
abbrev Y_api_Report : Ty := .cons (.int .u64) Y_api_Payment
abbrev Y_runtime_boundsError : Ty := .cons (.int .i64) (.cons (.int .i64) (.cons .bool (.cons (.int .u8) .nil)))
abbrev Y_pricer_Outcome : Ty := .cons (.int .u64) (.cons u256 (.cons (.sl Y_api_Payment) .nil))
abbrev Y_api_Poster : Ty := .cons (.int .u64) (.cons u256 (.cons u256 (.cons u256 (.cons u256 (.cons (.int .u64) .nil)))))
abbrev Y_debtqueue_item : Ty := .cons Y_api_Poster (.cons (.int .i64) .nil)
abbrev Y_pontagelaw21_Call : Ty := .cons (.int .i64) (.cons (.int .u64) (.cons (.int .u64) (.cons u256 (.cons Y_api_Report (.cons (.int .u64) (.cons .bool .nil))))))
abbrev Y_debtqueue_Queue : Ty := .cons (.sl Y_debtqueue_item) .nil
abbrev Y_api_Params : Ty := .cons (.int .u64) (.cons (.int .u64) (.cons (.int .u64) (.cons u256 (.cons (.int .u64) (.cons u256 (.cons (.int .u64) (.cons u256 (.cons (.int .u64) (.cons (.int .u64) (.cons (.int .u64) (.cons (.int .u64) .nil)))))))))))
abbrev Y_api_Pricer : Ty := .cons u256 (.cons (.int .u64) (.cons (.int .u64) (.cons (.int .u64) (.cons Y_api_Int256 (.cons (.sl Y_api_Poster) .nil)))))
noncomputable def pricer_Genesis (x : (⟨[], []⟩ : Tm).D) : Option (⟨[.pl Y_api_Pricer], []⟩ : Tm).D :=
 optF (none) (uint256_FromUint64 (((I.of .u64 1000000000), ()), ())) fun y0 =>
 some (((y0.1.1, ((I.of .u64 0), ((I.of .u64 0), ((I.of .u64 0), (Z_S_api_Int256, ([], ())))))), ()), ())
noncomputable def pricer_Valid (x : (⟨[.pl Y_api_Pricer], []⟩ : Tm).D) : Option (⟨[.pl .bool], []⟩ : Tm).D :=
 let a : S_api_Pricer := x.1.1
 iter (none) (fun x0 =>
   brn (@I.ltb .i64 x0.1.2.2.1 x0.1.2.1)
    (brn (@inB .i64 x0.1.2.2.1 (@lenL S_api_Poster x0.1.1))
     (brn (@I.ltb .u64 x0.2.1.2.2.2.1 (@rdL S_api_Poster Z_S_api_Poster x0.1.1 (@I.nat .i64 x0.1.2.2.1)).2.2.2.2.2.1)
      (.done (some ((false, ()), ())))
      (.again ((x0.1.1, (x0.1.2.1, ((@I.add .i64 x0.1.2.2.1 (I.of .i64 1)), ()))), (x0.2.1, ()))))
     (.done (none)))
    (.done (optF (none) (poster_Valid ((x0.2.1.2.2.2.2.2.1, ()), ())) fun y1 =>
    brn y1.1.1
     (optF (none) (int256_Valid ((x0.2.1.2.2.2.2.1, ()), ())) fun y2 =>
     some ((y2.1.1, ()), ()))
     (some ((false, ()), ())))))
 K0 ((a.2.2.2.2.2.1, ((I.ofNat .i64 (@lenL S_api_Poster a.2.2.2.2.2.1)), ((I.of .i64 0), ()))), (a, ()))
noncomputable def poster_Add (x : (⟨[.pl (.sl Y_api_Poster), .pl (.int .u64)], []⟩ : Tm).D) : Option (⟨[.pl (.sl Y_api_Poster), .pl (.int .i64)], []⟩ : Tm).D :=
 let a : (List S_api_Poster) := x.1.1
 let b : (I .u64) := x.1.2.1
 jn (fun (x0 : (((List S_api_Poster) × ((I .u64) × Unit)) × Unit)) =>
   jn (fun (x1 : (((List S_api_Poster) × ((I .u64) × ((I .i64) × Unit))) × Unit)) =>
     optF (none) (slices_Clone___api_Poster_api_Poster_ ((x1.1.1, ()), ())) fun y2 =>
     optF (none) (insertF ((x1.1.2.2.1, ()), (y2.2.1, (((x1.1.2.1, (Z_U, (Z_U, (Z_U, (Z_U, ((I.of .u64 0), ())))))) :: []), ())))) fun y3 =>
     some ((y3.2.1, ((I.of .i64 0), ())), ())) fun j1 =>
   iter (none) (fun x2 =>
     brn (@I.ltb .i64 x2.1.2.2.1 (I.ofNat .i64 (@lenL S_api_Poster x2.1.1)))
      (brn (@inB .i64 x2.1.2.2.1 (@lenL S_api_Poster x2.1.1))
       (brn (@I.ltb .u64 (@rdL S_api_Poster Z_S_api_Poster x2.1.1 (@I.nat .i64 x2.1.2.2.1)).1 x2.1.2.1)
        (.again ((x2.1.1, (x2.1.2.1, ((@I.add .i64 x2.1.2.2.1 (I.of .i64 1)), ()))), ()))
        (.done (j1 ((x2.1.1, (x2.1.2.1, (x2.1.2.2.1, ()))), ()))))
       (.done (none)))
      (.done (j1 ((x2.1.1, (x2.1.2.1, (x2.1.2.2.1, ()))), ()))))
   K0 ((x0.1.1, (x0.1.2.1, ((I.of .i64 0), ()))), ())) fun j0 =>
 jn (fun (x1 : (((List S_api_Poster) × ((I .u64) × (Bool × Unit))) × Unit)) =>
   brn x1.1.2.2.1
    (some (([], ((I.of .i64 2), ())), ()))
    (optF (none) (poster_Find ((x1.1.1, (x1.1.2.1, ())), ())) fun y2 =>
    brn (@I.leb .i64 (I.of .i64 0) y2.1.1)
     (some (([], ((I.of .i64 9), ())), ()))
     (brn (@I.eqb .i64 (I.ofNat .i64 (@lenL S_api_Poster x1.1.1)) (I.of .i64 64))
      (some (([], ((I.of .i64 7), ())), ()))
      (j0 ((x1.1.1, (x1.1.2.1, ())), ()))))) fun j1 =>
 optF (none) (poster_Valid ((a, ()), ())) fun y2 =>
 brn (bnot y2.1.1)
  (j1 ((a, (b, (true, ()))), ()))
  (j1 ((a, (b, ((@I.eqb .u64 b (I.of .u64 0)), ()))), ()))
noncomputable def pricer_AddPoster (x : (⟨[.pl Y_api_Pricer, .pl (.int .u64)], []⟩ : Tm).D) : Option (⟨[.pl Y_api_Pricer, .pl (.int .i64)], []⟩ : Tm).D :=
 let a : S_api_Pricer := x.1.1
 let b : (I .u64) := x.1.2.1
 optF (none) (pricer_Valid ((a, ()), ())) fun y0 =>
 brn (bnot y0.1.1)
  (some (((Z_U, ((I.of .u64 0), ((I.of .u64 0), ((I.of .u64 0), (Z_S_api_Int256, ([], ())))))), ((I.of .i64 2), ())), ()))
  (optF (none) (poster_Add ((a.2.2.2.2.2.1, (b, ())), ())) fun y1 =>
  brn (@I.neb .i64 y1.1.2.1 (I.of .i64 0))
   (some (((Z_U, ((I.of .u64 0), ((I.of .u64 0), ((I.of .u64 0), (Z_S_api_Int256, ([], ())))))), (y1.1.2.1, ())), ()))
   (some (((a.1, (a.2.1, (a.2.2.1, (a.2.2.2.1, (a.2.2.2.2.1, (y1.1.1, a.2.2.2.2.2.2)))))), ((I.of .i64 0), ())), ())))
noncomputable def math_bits_Len64 (x : (⟨[.pl (.int .u64)], []⟩ : Tm).D) : Option (⟨[.pl (.int .i64)], []⟩ : Tm).D :=
 let a : (I .u64) := x.1.1
 jn (fun (x0 : (((I .u64) × ((I .i64) × Unit)) × Unit)) =>
   jn (fun (x1 : (((I .u64) × ((I .i64) × Unit)) × Unit)) =>
     brn (@I.leb .u64 (I.of .u64 256) x1.1.1)
      (brn (@inB .u8 (I.conv (k := .u64) .u8 (@I.shr .u64 .u64 x1.1.1 (I.of .u64 8))) 256)
       (some (((@I.add .i64 (@I.add .i64 x1.1.2.1 (I.of .i64 8)) (I.conv (k := .u8) .i64 (@rdL (I .u8) (I.of .u8 0) KS_0001020203030303_256_633d86 (@I.nat .u8 (I.conv (k := .u64) .u8 (@I.shr .u64 .u64 x1.1.1 (I.of .u64 8))))))), ()), ()))
       (none))
      (brn (@inB .u8 (I.conv (k := .u64) .u8 x1.1.1) 256)
       (some (((@I.add .i64 x1.1.2.1 (I.conv (k := .u8) .i64 (@rdL (I .u8) (I.of .u8 0) KS_0001020203030303_256_633d86 (@I.nat .u8 (I.conv (k := .u64) .u8 x1.1.1))))), ()), ()))
       (none))) fun j1 =>
   brn (@I.leb .u64 (I.of .u64 65536) x0.1.1)
    (j1 (((@I.shr .u64 .u64 x0.1.1 (I.of .u64 16)), ((@I.add .i64 x0.1.2.1 (I.of .i64 16)), ())), ()))
    (j1 ((x0.1.1, (x0.1.2.1, ())), ()))) fun j0 =>
 brn (@I.leb .u64 (I.of .u64 4294967296) a)
  (j0 (((@I.shr .u64 .u64 a (I.of .u64 32)), ((I.of .i64 32), ())), ()))
  (j0 ((a, ((I.of .i64 0), ())), ()))
noncomputable def uint256_BitLen (x : (⟨[.pl u256], []⟩ : Tm).D) : Option (⟨[.pl (.int .i64)], []⟩ : Tm).D :=
 let a : U := x.1.1
 iter (none) (fun x0 =>
   brn (@I.leb .i64 (I.of .i64 0) x0.1.1)
    (brn (@inB .i64 x0.1.1 4)
     (brn (@I.neb .u64 (@Arr.sel (I .u64) (I.of .u64 0) 4 x0.2.1 (@I.nat .i64 x0.1.1)) (I.of .u64 0))
      (brn (@inB .i64 x0.1.1 4)
       (optF (.done (none)) (math_bits_Len64 (((@Arr.sel (I .u64) (I.of .u64 0) 4 x0.2.1 (@I.nat .i64 x0.1.1)), ()), ())) fun y1 =>
       .done (some (((@I.add .i64 (@I.mul .i64 (I.of .i64 64) x0.1.1) y1.1.1), ()), ())))
       (.done (none)))
      (.again (((@I.sub .i64 x0.1.1 (I.of .i64 1)), ()), (x0.2.1, ()))))
     (.done (none)))
    (.done (some (((I.of .i64 0), ()), ()))))
 K0 (((I.of .i64 3), ()), (a, ()))
noncomputable def pricer_checkReport (x : (⟨[.pl Y_api_Pricer, .pl Y_api_Params, .pl Y_api_Report, .pl (.int .u64)], []⟩ : Tm).D) : Option (⟨[.pl (.int .i64)], []⟩ : Tm).D :=
 let a : S_api_Pricer := x.1.1
 let b : S_api_Params := x.1.2.1
 let c : S_api_Report := x.1.2.2.1
 let d : (I .u64) := x.1.2.2.2.1
 optF (none) (pricer_Valid ((a, ()), ())) fun y0 =>
 brn (bnot y0.1.1)
  (some (((I.of .i64 2), ()), ()))
  (optF (none) (params_Valid ((b, ()), ())) fun y1 =>
  brn (bnot y1.1.1)
   (some (((I.of .i64 15), ()), ()))
   (optF (none) (poster_Find ((a.2.2.2.2.2.1, (c.1, ())), ())) fun y2 =>
   brn (@I.ltb .i64 y2.1.1 (I.of .i64 0))
    (some (((I.of .i64 8), ()), ()))
    (jn (fun (x3 : ((Bool × Unit) × (S_api_Pricer × (S_api_Report × Unit)))) =>
      brn x3.1.1
       (some (((I.of .i64 14), ()), ()))
       (optF (none) (uint256_BitLen ((x3.2.2.1.2.2.1, ()), ())) fun y4 =>
       brn (@I.ltb .i64 (I.of .i64 128) y4.1.1)
        (some (((I.of .i64 2), ()), ()))
        (brn (@I.eqb .u64 x3.2.1.2.2.2.1 (I.of .u64 18446744073709551615))
         (some (((I.of .i64 4), ()), ()))
         (some (((I.of .i64 0), ()), ()))))) fun j3 =>
    brn (@I.ltb .u64 c.2.1 a.2.2.1)
     (j3 ((true, ()), (a, (c, ()))))
     (j3 (((@I.ltb .u64 d c.2.1), ()), (a, (c, ())))))))
noncomputable def alloc_Allocate (x : (⟨[.pl (.int .u64), .pl (.int .u64), .pl (.int .u64), .pl (.int .u64)], []⟩ : Tm).D) : Option (⟨[.pl (.int .u64), .pl (.int .i64)], []⟩ : Tm).D :=
 let a : (I .u64) := x.1.1
 let b : (I .u64) := x.1.2.1
 let c : (I .u64) := x.1.2.2.1
 let d : (I .u64) := x.1.2.2.2.1
 jn (fun (x0 : (U × Unit)) =>
   optF (none) (uint256_FromUint64 ((x0.1.1, ()), ())) fun y1 =>
   optF (none) (uint256_FromUint64 (((@I.sub .u64 x0.1.2.2.1 x0.1.2.1), ()), ())) fun y2 =>
   optF (none) (uint256_FromUint64 (((@I.sub .u64 x0.1.2.2.2.1 x0.1.2.1), ()), ())) fun y3 =>
   optF (none) (muldiv_MulDivFloor ((y1.1.1, (y2.1.1, (y3.1.1, ()))), ())) fun y4 =>
   some ((y4.1.1.1, (y4.1.2.1, ())), ())) fun j0 =>
 jn (fun (x1 : (((I .u64) × ((I .u64) × ((I .u64) × ((I .u64) × (Bool × Unit))))) × Unit)) =>
   brn x1.1.2.2.2.2.1
    (some (((I.of .u64 0), ((I.of .i64 14), ())), ()))
    (brn (@I.eqb .u64 x1.1.2.2.2.1 x1.1.2.1)
     (some ((x1.1.1, ((I.of .i64 0), ())), ()))
     (j0 ((x1.1.1, (x1.1.2.1, (x1.1.2.2.1, (x1.1.2.2.2.1, ())))), ())))) fun j1 =>
 brn (@I.ltb .u64 c b)
  (j1 ((a, (b, (c, (d, (true, ()))))), ()))
  (j1 ((a, (b, (c, (d, ((@I.ltb .u64 d c), ()))))), ()))
noncomputable def pricer_allocate (x : (⟨[.pl Y_api_Pricer, .pl Y_api_Params, .pl Y_api_Report, .pl (.int .u64)], []⟩ : Tm).D) : Option (⟨[.pl Y_pricer_Outcome, .pl (.int .i64)], []⟩ : Tm).D :=
 let a : S_api_Pricer := x.1.1
 let b : S_api_Params := x.1.2.1
 let c : S_api_Report := x.1.2.2.1
 let d : (I .u64) := x.1.2.2.2.1
 optF (none) (alloc_Allocate ((a.2.1, (a.2.2.1, (c.2.1, (d, ())))), ())) fun y0 =>
 brn (@I.neb .i64 y0.1.2.1 (I.of .i64 0))
  (some ((((I.of .u64 0), (Z_U, ([], ()))), (y0.1.2.1, ())), ()))
  (optF (none) (uint256_FromUint64 ((y0.1.1, ()), ())) fun y1 =>
  optF (none) (uint256_Mul ((b.2.2.2.2.2.2.2.1, (y1.1.1, ())), ())) fun y2 =>
  brn (@I.neb .i64 y2.1.2.1 (I.of .i64 0))
   (some ((((I.of .u64 0), (Z_U, ([], ()))), (y2.1.2.1, ())), ()))
   (some (((y0.1.1, (y2.1.1, ([], ()))), ((I.of .i64 0), ())), ())))
noncomputable def poster_Accrue (x : (⟨[.pl (.sl Y_api_Poster), .pl (.int .u64), .pl u256, .pl u256, .pl (.int .u64)], []⟩ : Tm).D) : Option (⟨[.pl (.sl Y_api_Poster), .pl (.int .i64)], []⟩ : Tm).D :=
 let a : (List S_api_Poster) := x.1.1
 let b : (I .u64) := x.1.2.1
 let c : U := x.1.2.2.1
 let d : U := x.1.2.2.2.1
 let e : (I .u64) := x.1.2.2.2.2.1
 optF (none) (poster_Find ((a, (b, ())), ())) fun y0 =>
 jn (fun (x1 : (((List S_api_Poster) × ((I .u64) × ((I .i64) × Unit))) × (U × (U × Unit)))) =>
   brn (@inB .i64 x1.1.2.2.1 (@lenL S_api_Poster x1.1.1))
    (optF (none) (uint256_Add ((x1.2.1, (x1.2.2.1, ())), ())) fun y2 =>
    optF (none) (uint256_Add (((@rdL S_api_Poster Z_S_api_Poster x1.1.1 (@I.nat .i64 x1.1.2.2.1)).2.1, (y2.1.1, ())), ())) fun y3 =>
    optF (none) (uint256_Add (((@rdL S_api_Poster Z_S_api_Poster x1.1.1 (@I.nat .i64 x1.1.2.2.1)).2.2.1, (x1.2.1, ())), ())) fun y4 =>
    optF (none) (uint256_Add (((@rdL S_api_Poster Z_S_api_Poster x1.1.1 (@I.nat .i64 x1.1.2.2.1)).2.2.2.1, (x1.2.2.1, ())), ())) fun y5 =>
    jn (fun (x6 : (((List S_api_Poster) × ((I .u64) × ((I .i64) × Unit))) × (S_api_Poster × (U × (U × (U × Unit)))))) =>
      jn (fun (x7 : (((List S_api_Poster) × ((I .i64) × Unit)) × (S_api_Poster × (U × (U × (U × Unit)))))) =>
        optF (none) (slices_Clone___api_Poster_api_Poster_ ((x7.1.1, ()), ())) fun y8 =>
        brn (@inB .i64 x7.1.2.1 (@lenL S_api_Poster y8.2.1))
         (some (((@setL S_api_Poster y8.2.1 (@I.nat .i64 x7.1.2.1) (x7.2.1.1, (x7.2.2.1, (x7.2.2.2.1, (x7.2.2.2.2.1, x7.2.1.2.2.2.2))))), ((I.of .i64 0), ())), ()))
         (none)) fun j7 =>
      optF (none) (poster_isZero ((x6.2.1.2.1, ()), ())) fun y8 =>
      brn y8.1.1
       (optF (none) (poster_isZero ((x6.2.2.1, ()), ())) fun y9 =>
       brn (bnot y9.1.1)
        (j7 ((x6.1.1, (x6.1.2.2.1, ())), ((x6.2.1.1, (x6.2.1.2.1, (x6.2.1.2.2.1, (x6.2.1.2.2.2.1, (x6.2.1.2.2.2.2.1, (x6.1.2.1, x6.2.1.2.2.2.2.2.2)))))), (x6.2.2.1, (x6.2.2.2.1, (x6.2.2.2.2.1, ()))))))
        (j7 ((x6.1.1, (x6.1.2.2.1, ())), (x6.2.1, (x6.2.2.1, (x6.2.2.2.1, (x6.2.2.2.2.1, ())))))))
       (j7 ((x6.1.1, (x6.1.2.2.1, ())), (x6.2.1, (x6.2.2.1, (x6.2.2.2.1, (x6.2.2.2.2.1, ()))))))) fun j6 =>
    brn (@I.neb .i64 y2.1.2.1 (I.of .i64 0))
     (some (([], ((I.of .i64 4), ())), ()))
     (brn (@I.neb .i64 y3.1.2.1 (I.of .i64 0))
      (some (([], ((I.of .i64 4), ())), ()))
      (brn (@I.neb .i64 y4.1.2.1 (I.of .i64 0))
       (some (([], ((I.of .i64 4), ())), ()))
       (brn (@I.neb .i64 y5.1.2.1 (I.of .i64 0))
        (some (([], ((I.of .i64 4), ())), ()))
        (j6 ((x1.1.1, (x1.1.2.1, (x1.1.2.2.1, ()))), ((@rdL S_api_Poster Z_S_api_Poster x1.1.1 (@I.nat .i64 x1.1.2.2.1)), (y3.1.1, (y4.1.1, (y5.1.1, ()))))))))))
    (none)) fun j1 =>
 jn (fun (x2 : (((List S_api_Poster) × ((I .u64) × ((I .i64) × (Bool × Unit)))) × (U × (U × Unit)))) =>
   brn x2.1.2.2.2.1
    (some (([], ((I.of .i64 2), ())), ()))
    (brn (@I.ltb .i64 x2.1.2.2.1 (I.of .i64 0))
     (some (([], ((I.of .i64 8), ())), ()))
     (j1 ((x2.1.1, (x2.1.2.1, (x2.1.2.2.1, ()))), (x2.2.1, (x2.2.2.1, ())))))) fun j2 =>
 optF (none) (poster_Valid ((a, ()), ())) fun y3 =>
 brn (bnot y3.1.1)
  (j2 ((a, (e, (y0.1.1, (true, ())))), (c, (d, ()))))
  (j2 ((a, (e, (y0.1.1, ((@I.eqb .u64 e (I.of .u64 0)), ())))), (c, (d, ()))))
noncomputable def pricer_adjust (x : (⟨[.pl Y_api_Pricer, .pl Y_api_Params, .pl u256, .pl Y_pricer_Outcome], []⟩ : Tm).D) : Option (⟨[.pl Y_api_Pricer, .pl (.int .i64)], []⟩ : Tm).D :=
 let a : S_api_Pricer := x.1.1
 let b : S_api_Params := x.1.2.1
 let c : U := x.1.2.2.1
 let d : S_pricer_Outcome := x.1.2.2.2.1
 optF (none) (payout_Sum ((d.2.2.1, ()), ())) fun y0 =>
 brn (@I.neb .i64 y0.1.2.1 (I.of .i64 0))
  (some (((Z_U, ((I.of .u64 0), ((I.of .u64 0), ((I.of .u64 0), (Z_S_api_Int256, ([], ())))))), (y0.1.2.1, ())), ()))
  (optF (none) (poster_TotalDue ((a.2.2.2.2.2.1, ()), ())) fun y1 =>
  brn (@I.neb .i64 y1.1.2.1 (I.of .i64 0))
   (some (((Z_U, ((I.of .u64 0), ((I.of .u64 0), ((I.of .u64 0), (Z_S_api_Int256, ([], ())))))), (y1.1.2.1, ())), ()))
   (brn (@I.eqb .u64 d.1 (I.of .u64 0))
    (some ((a, ((I.of .i64 0), ())), ()))
    (optF (none) (uint256_SaturatingSub ((c, (y0.1.1, ())), ())) fun y2 =>
    optF (none) (l1price_Surplus ((y2.1.1, (y1.1.1, ())), ())) fun y3 =>
    optF (none) (l1price_Next ((a.1, (y3.1.1, (a.2.2.2.2.1, (d.1, (b, ()))))), ())) fun y4 =>
    brn (@I.neb .i64 y4.1.2.1 (I.of .i64 0))
     (some (((Z_U, ((I.of .u64 0), ((I.of .u64 0), ((I.of .u64 0), (Z_S_api_Int256, ([], ())))))), (y4.1.2.1, ())), ()))
     (some (((y4.1.1, (a.2.1, (a.2.2.1, (a.2.2.2.1, (y3.1.1, a.2.2.2.2.2))))), ((I.of .i64 0), ())), ())))))
noncomputable def pricer_Report (x : (⟨[.pl Y_api_Pricer, .pl Y_api_Params, .pl u256, .pl Y_api_Report, .pl (.int .u64)], []⟩ : Tm).D) : Option (⟨[.pl Y_api_Pricer, .pl Y_pricer_Outcome, .pl (.int .i64)], []⟩ : Tm).D :=
 let a : S_api_Pricer := x.1.1
 let b : S_api_Params := x.1.2.1
 let c : U := x.1.2.2.1
 let d : S_api_Report := x.1.2.2.2.1
 let e : (I .u64) := x.1.2.2.2.2.1
 optF (none) (pricer_checkReport ((a, (b, (d, (e, ())))), ())) fun y0 =>
 brn (@I.neb .i64 y0.1.1 (I.of .i64 0))
  (some (((Z_U, ((I.of .u64 0), ((I.of .u64 0), ((I.of .u64 0), (Z_S_api_Int256, ([], ())))))), (((I.of .u64 0), (Z_U, ([], ()))), (y0.1.1, ()))), ()))
  (optF (none) (pricer_allocate ((a, (b, (d, (e, ())))), ())) fun y1 =>
  jn (fun (x2 : (((I .i64) × Unit) × (S_api_Pricer × (S_api_Params × (U × (S_api_Report × (S_api_Pricer × (S_pricer_Outcome × (S_pricer_Outcome × Unit))))))))) =>
    jn (fun (x3 : (((I .i64) × Unit) × (S_api_Pricer × (S_api_Params × (U × (S_api_Report × (S_api_Pricer × (S_pricer_Outcome × (S_pricer_Outcome × Unit))))))))) =>
      jn (fun (x4 : (((I .i64) × Unit) × (S_api_Pricer × (S_api_Params × (U × (S_api_Report × (S_api_Pricer × (S_pricer_Outcome × (S_pricer_Outcome × Unit))))))))) =>
        jn (fun (x5 : (((I .i64) × Unit) × (S_api_Pricer × (S_api_Report × (S_api_Pricer × (S_pricer_Outcome × (S_pricer_Outcome × Unit))))))) =>
          brn (@I.neb .i64 x5.1.1 (I.of .i64 0))
           (some (((Z_U, ((I.of .u64 0), ((I.of .u64 0), ((I.of .u64 0), (Z_S_api_Int256, ([], ())))))), (((I.of .u64 0), (Z_U, ([], ()))), (x5.1.1, ()))), ()))
           (some (((x5.2.1.1, ((@I.sub .u64 x5.2.1.2.1 x5.2.2.2.2.2.1.1), (x5.2.2.1.2.1, x5.2.1.2.2.2))), (x5.2.2.2.2.2.1, ((I.of .i64 0), ()))), ()))) fun j5 =>
        brn (@I.eqb .i64 x4.1.1 (I.of .i64 0))
         (optF (none) (pricer_adjust ((x4.2.1, (x4.2.2.1, (x4.2.2.2.1, (x4.2.2.2.2.2.2.2.1, ())))), ())) fun y6 =>
         j5 ((y6.1.2.1, ()), (y6.1.1, (x4.2.2.2.2.1, (x4.2.2.2.2.2.1, (x4.2.2.2.2.2.2.1, (x4.2.2.2.2.2.2.2.1, ())))))))
         (j5 ((x4.1.1, ()), (x4.2.1, (x4.2.2.2.2.1, (x4.2.2.2.2.2.1, (x4.2.2.2.2.2.2.1, (x4.2.2.2.2.2.2.2.1, ())))))))) fun j4 =>
      brn (@I.eqb .i64 x3.1.1 (I.of .i64 0))
       (optF (none) (payout_Apply ((x3.2.1.2.2.2.2.2.1, (x3.2.2.2.2.2.2.2.1.2.2.1, ())), ())) fun y5 =>
       j4 ((y5.1.2.1, ()), ((x3.2.1.1, (x3.2.1.2.1, (x3.2.1.2.2.1, (x3.2.1.2.2.2.1, (x3.2.1.2.2.2.2.1, (y5.1.1, x3.2.1.2.2.2.2.2.2)))))), (x3.2.2.1, (x3.2.2.2.1, (x3.2.2.2.2.1, (x3.2.2.2.2.2.1, (x3.2.2.2.2.2.2.1, (x3.2.2.2.2.2.2.2.1, ())))))))))
       (j4 ((x3.1.1, ()), (x3.2.1, (x3.2.2.1, (x3.2.2.2.1, (x3.2.2.2.2.1, (x3.2.2.2.2.2.1, (x3.2.2.2.2.2.2.1, (x3.2.2.2.2.2.2.2.1, ())))))))))) fun j3 =>
    brn (@I.eqb .i64 x2.1.1 (I.of .i64 0))
     (optF (none) (payout_Plan ((x2.2.1.2.2.2.2.2.1, (x2.2.2.2.1, ())), ())) fun y4 =>
     j3 ((y4.1.2.1, ()), (x2.2.1, (x2.2.2.1, (x2.2.2.2.1, (x2.2.2.2.2.1, (x2.2.2.2.2.2.1, (x2.2.2.2.2.2.2.1, ((x2.2.2.2.2.2.2.2.1.1, (x2.2.2.2.2.2.2.2.1.2.1, (y4.1.1, x2.2.2.2.2.2.2.2.1.2.2.2))), ())))))))))
     (j3 ((x2.1.1, ()), (x2.2.1, (x2.2.2.1, (x2.2.2.2.1, (x2.2.2.2.2.1, (x2.2.2.2.2.2.1, (x2.2.2.2.2.2.2.1, (x2.2.2.2.2.2.2.2.1, ())))))))))) fun j2 =>
  brn (@I.eqb .i64 y1.1.2.1 (I.of .i64 0))
   (optF (none) (poster_Accrue ((a.2.2.2.2.2.1, (d.1, (d.2.2.1, (y1.1.1.2.1, ((@I.add .u64 a.2.2.2.1 (I.of .u64 1)), ()))))), ())) fun y3 =>
   j2 ((y3.1.2.1, ()), ((a.1, (a.2.1, (a.2.2.1, ((@I.add .u64 a.2.2.2.1 (I.of .u64 1)), (a.2.2.2.2.1, (y3.1.1, a.2.2.2.2.2.2)))))), (b, (c, (d, ((Z_U, ((I.of .u64 0), ((I.of .u64 0), ((I.of .u64 0), (Z_S_api_Int256, ([], ())))))), (((I.of .u64 0), (Z_U, ([], ()))), (y1.1.1, ())))))))))
   (j2 ((y1.1.2.1, ()), (a, (b, (c, (d, ((Z_U, ((I.of .u64 0), ((I.of .u64 0), ((I.of .u64 0), (Z_S_api_Int256, ([], ())))))), (((I.of .u64 0), (Z_U, ([], ()))), (y1.1.1, ()))))))))))
noncomputable def pontagelaw21_awake (x : (⟨[], []⟩ : Tm).D) : Option (⟨[.pl .bool], []⟩ : Tm).D :=
 optF (none) (pricer_Genesis ((), ())) fun y0 =>
 optF (none) (pricer_AddPoster ((y0.1.1, ((I.of .u64 7), ())), ())) fun y1 =>
 optF (none) (params_Genesis ((), ())) fun y2 =>
 optF (none) (pricer_Report ((y1.1.1, (y2.1.1, (((I.of .u64 20), ((I.of .u64 0), ((I.of .u64 0), ((I.of .u64 0), ())))), (((I.of .u64 7), ((I.of .u64 0), (((I.of .u64 50), ((I.of .u64 0), ((I.of .u64 0), ((I.of .u64 0), ())))), ()))), ((I.of .u64 0), ()))))), ())) fun y3 =>
 optF (none) (params_Genesis ((), ())) fun y4 =>
 optF (none) (pricer_Report ((y1.1.1, (y4.1.1, (((I.of .u64 20), ((I.of .u64 0), ((I.of .u64 0), ((I.of .u64 0), ())))), (((I.of .u64 8), Z_S_api_Payment), ((I.of .u64 0), ()))))), ())) fun y5 =>
 brn (@I.eqb .i64 y1.1.2.1 (I.of .i64 0))
  (brn (@I.eqb .i64 y3.1.2.2.1 (I.of .i64 0))
   (brn (@I.eqb .i64 y5.1.2.2.1 (I.of .i64 8))
    (brn (@I.eqb .i64 (I.ofNat .i64 (@lenL S_api_Payment y3.1.2.1.2.2.1)) (I.of .i64 1))
     (brn (@inB .i64 (I.of .i64 0) (@lenL S_api_Payment y3.1.2.1.2.2.1))
      (brn (Ty.eqb Y_api_Payment (@rdL S_api_Payment Z_S_api_Payment y3.1.2.1.2.2.1 0) ((I.of .u64 7), (((I.of .u64 20), ((I.of .u64 0), ((I.of .u64 0), ((I.of .u64 0), ())))), ())))
       (brn (@I.eqb .i64 (I.ofNat .i64 (@lenL S_api_Poster y3.1.1.2.2.2.2.2.1)) (I.of .i64 1))
        (brn (@inB .i64 (I.of .i64 0) (@lenL S_api_Poster y3.1.1.2.2.2.2.2.1))
         (some (((Ty.eqb u256 (@rdL S_api_Poster Z_S_api_Poster y3.1.1.2.2.2.2.2.1 0).2.1 ((I.of .u64 30), ((I.of .u64 0), ((I.of .u64 0), ((I.of .u64 0), ()))))), ()), ()))
         (none))
        (some ((false, ()), ())))
       (some ((false, ()), ())))
      (none))
     (some ((false, ()), ())))
    (some ((false, ()), ())))
   (some ((false, ()), ())))
  (some ((false, ()), ()))
noncomputable def pontagelaw21_normalize (x : (⟨[.pl Y_pontagelaw21_Call, .pl (.int .i64), .pl Y_api_Pricer, .pl (.int .u64)], []⟩ : Tm).D) : Option (⟨[.pl Y_pontagelaw21_Call], []⟩ : Tm).D :=
 let a : S_pontagelaw21_Call := x.1.1
 let b : (I .i64) := x.1.2.1
 let c : S_api_Pricer := x.1.2.2.1
 let d : (I .u64) := x.1.2.2.2.1
 optF (none) (pontagelaw0_Mod ((a.1, ((I.of .i64 6), ())), ())) fun y0 =>
 brn (@I.eqb .i64 (@I.rem .i64 b (I.of .i64 8)) (I.of .i64 7))
  (some (((y0.1.1, a.2), ()), ()))
  (brn (@I.nz .u64 (@I.add .u64 (@I.sub .u64 d c.2.2.1) (I.of .u64 2)))
   (brn a.2.2.2.2.2.2.1
    (some (((y0.1.1, ((@I.rem .u64 a.2.1 (I.of .u64 6)), ((@I.rem .u64 a.2.2.1 (I.of .u64 100000)), (((@I.rem .u64 a.2.2.2.1.1 (I.of .u64 100000)), ((I.of .u64 0), ((I.of .u64 0), ((I.of .u64 0), ())))), (((@I.add .u64 (I.of .u64 1) (@I.rem .u64 a.2.2.2.2.1.1 (I.of .u64 5))), ((@I.add .u64 c.2.2.1 (@I.rem .u64 a.2.2.2.2.1.2.1 (@I.add .u64 (@I.sub .u64 d c.2.2.1) (I.of .u64 2)))), (((@I.rem .u64 a.2.2.2.2.1.2.2.1.1 (I.of .u64 100000)), ((I.of .u64 0), ((I.of .u64 0), ((I.of .u64 0), ())))), a.2.2.2.2.1.2.2.2))), a.2.2.2.2.2))))), ()), ()))
    (some (((y0.1.1, ((@I.rem .u64 a.2.1 (I.of .u64 6)), ((@I.rem .u64 a.2.2.1 (I.of .u64 100000)), (a.2.2.2.1, (((@I.add .u64 (I.of .u64 1) (@I.rem .u64 a.2.2.2.2.1.1 (I.of .u64 5))), ((@I.add .u64 c.2.2.1 (@I.rem .u64 a.2.2.2.2.1.2.1 (@I.add .u64 (@I.sub .u64 d c.2.2.1) (I.of .u64 2)))), ((a.2.2.2.2.1.2.2.1.1, (a.2.2.2.2.1.2.2.1.2.1, ((I.of .u64 0), ((I.of .u64 0), ())))), a.2.2.2.2.1.2.2.2))), a.2.2.2.2.2))))), ()), ())))
   (none))
noncomputable def pricer_cloned (x : (⟨[.pl Y_api_Pricer], []⟩ : Tm).D) : Option (⟨[.pl Y_api_Pricer], []⟩ : Tm).D :=
 let a : S_api_Pricer := x.1.1
 optF (none) (slices_Clone___api_Poster_api_Poster_ ((a.2.2.2.2.2.1, ()), ())) fun y0 =>
 some (((a.1, (a.2.1, (a.2.2.1, (a.2.2.2.1, (a.2.2.2.2.1, (y0.2.1, a.2.2.2.2.2.2)))))), ()), ())
noncomputable def pricer_AddUnits (x : (⟨[.pl Y_api_Pricer, .pl (.int .u64)], []⟩ : Tm).D) : Option (⟨[.pl Y_api_Pricer, .pl (.int .i64)], []⟩ : Tm).D :=
 let a : S_api_Pricer := x.1.1
 let b : (I .u64) := x.1.2.1
 optF (none) (pricer_Valid ((a, ()), ())) fun y0 =>
 brn (bnot y0.1.1)
  (some (((Z_U, ((I.of .u64 0), ((I.of .u64 0), ((I.of .u64 0), (Z_S_api_Int256, ([], ())))))), ((I.of .i64 2), ())), ()))
  (optF (none) (add64F ((a.2.1, (b, ((I.of .u64 0), ()))), ())) fun y1 =>
  brn (@I.neb .u64 y1.1.2.1 (I.of .u64 0))
   (some (((Z_U, ((I.of .u64 0), ((I.of .u64 0), ((I.of .u64 0), (Z_S_api_Int256, ([], ())))))), ((I.of .i64 4), ())), ()))
   (optF (none) (pricer_cloned ((a, ()), ())) fun y2 =>
   some (((y2.1.1.1, (y1.1.1, y2.1.1.2.2)), ((I.of .i64 0), ())), ())))
noncomputable def pontagelaw21_PricerAccounting (x : (⟨[.pl (.sl Y_pontagelaw21_Call), .pl (.arr 8 (.int .u64))], []⟩ : Tm).D) : Option (⟨[.pl .bool], []⟩ : Tm).D :=
 let a : (List S_pontagelaw21_Call) := x.1.1
 let b : ((I .u64) × ((I .u64) × ((I .u64) × ((I .u64) × U)))) := x.1.2.1
 brn (@I.ltb .i64 (I.of .i64 30) (I.ofNat .i64 (@lenL S_pontagelaw21_Call a)))
  (optF (none) (pontagelaw21_awake ((), ())) fun y0 =>
  some ((y0.1.1, ()), ()))
  (optF (none) (pontagelaw14_ValidParams ((b, ()), ())) fun y0 =>
  optF (none) (pricer_Genesis ((), ())) fun y1 =>
  iter (none) (fun x2 =>
    brn (@I.ltb .u64 x2.1.2.1 (I.of .u64 6))
     (optF (.done (none)) (pricer_AddPoster ((x2.2.2.1, (x2.1.2.1, ())), ())) fun y3 =>
     .again ((x2.1.1, ((@I.add .u64 x2.1.2.1 (I.of .u64 1)), ())), (x2.2.1, (y3.1.1, ()))))
     (.done (iter (none) (fun x3 =>
       brn (@I.ltb .i64 x3.1.2.2.1 (I.ofNat .i64 (@lenL S_pontagelaw21_Call x3.1.1)))
        (brn (@inB .i64 x3.1.2.2.1 (@lenL S_pontagelaw21_Call x3.1.1))
         (brn (@inB .i64 x3.1.2.2.1 (@lenL S_pontagelaw21_Call x3.1.1))
          (optF (.done (none)) (pontagelaw21_normalize (((@rdL S_pontagelaw21_Call Z_S_pontagelaw21_Call x3.1.1 (@I.nat .i64 x3.1.2.2.1)), ((I.of .i64 0), (x3.2.2.1, ((@I.add .u64 x3.1.2.1 (@I.rem .u64 (@rdL S_pontagelaw21_Call Z_S_pontagelaw21_Call x3.1.1 (@I.nat .i64 x3.1.2.2.1)).2.2.2.2.2.1 (I.of .u64 50))), ())))), ())) fun y4 =>
          optF (.done (none)) (pricer_AddUnits ((x3.2.2.1, (y4.1.1.2.2.1, ())), ())) fun y5 =>
          optF (.done (none)) (poster_TotalDue ((y5.1.1.2.2.2.2.2.1, ()), ())) fun y6 =>
          optF (.done (none)) (pricer_Report ((y5.1.1, (x3.2.1, ((y4.1.1.2.2.2.1.1, ((@I.rem .u64 y4.1.1.2.2.2.1.2.1 (I.of .u64 68719476736)), ((I.of .u64 0), ((I.of .u64 0), ())))), ((y4.1.1.2.2.2.2.1.1, (y4.1.1.2.2.2.2.1.2.1, ((y4.1.1.2.2.2.2.1.2.2.1.1, ((@I.rem .u64 y4.1.1.2.2.2.2.1.2.2.1.2.1 (I.of .u64 68719476736)), (y4.1.1.2.2.2.2.1.2.2.1.2.2.1, (y4.1.1.2.2.2.2.1.2.2.1.2.2.2.1, ())))), y4.1.1.2.2.2.2.1.2.2.2))), ((@I.add .u64 x3.1.2.1 (@I.rem .u64 (@rdL S_pontagelaw21_Call Z_S_pontagelaw21_Call x3.1.1 (@I.nat .i64 x3.1.2.2.1)).2.2.2.2.2.1 (I.of .u64 50))), ()))))), ())) fun y7 =>
          brn (@I.neb .i64 y7.1.2.2.1 (I.of .i64 0))
           (brn (@I.neb .i64 y7.1.2.2.1 (I.of .i64 14))
            (.done (some ((false, ()), ())))
            (.again ((x3.1.1, ((@I.add .u64 x3.1.2.1 (@I.rem .u64 (@rdL S_pontagelaw21_Call Z_S_pontagelaw21_Call x3.1.1 (@I.nat .i64 x3.1.2.2.1)).2.2.2.2.2.1 (I.of .u64 50))), ((@I.add .i64 x3.1.2.2.1 (I.of .i64 1)), ()))), (x3.2.1, (y5.1.1, ())))))
           (optF (.done (none)) (payout_Sum ((y7.1.2.1.2.2.1, ()), ())) fun y8 =>
           optF (.done (none)) (poster_TotalDue ((y7.1.1.2.2.2.2.2.1, ()), ())) fun y9 =>
           optF (.done (none)) (uint256_SaturatingAdd ((y6.1.1, ((y4.1.1.2.2.2.2.1.2.2.1.1, ((@I.rem .u64 y4.1.1.2.2.2.2.1.2.2.1.2.1 (I.of .u64 68719476736)), (y4.1.1.2.2.2.2.1.2.2.1.2.2.1, (y4.1.1.2.2.2.2.1.2.2.1.2.2.2.1, ())))), ())), ())) fun y10 =>
           optF (.done (none)) (uint256_SaturatingAdd ((y10.1.1, (y7.1.2.1.2.1, ())), ())) fun y11 =>
           optF (.done (none)) (poster_Find ((y7.1.1.2.2.2.2.2.1, (y4.1.1.2.2.2.2.1.1, ())), ())) fun y12 =>
           jn (fun (x13 : (((List S_pontagelaw21_Call) × ((I .u64) × ((I .i64) × ((I .i64) × (U × (U × ((I .u64) × (U × (U × (Bool × ((I .i64) × (Bool × ((I .u64) × ((I .u64) × ((I .u64) × ((I .u64) × (Bool × ((I .u64) × ((I .u64) × (Bool × ((I .u64) × ((I .u64) × ((I .u64) × (Bool × Unit)))))))))))))))))))))))) × (S_api_Params × (S_api_Pricer × (S_pontagelaw21_Call × (S_api_Pricer × (S_pricer_Outcome × Unit))))))) =>
             brn (@inB .i64 x13.1.2.2.2.1 (@lenL S_api_Poster x13.2.2.2.2.1.2.2.2.2.2.1))
              (brn (@inB .i64 x13.1.2.2.2.1 (@lenL S_api_Poster x13.2.2.1.2.2.2.2.2.1))
               (optF (.done (none)) (uint256_SaturatingAdd (((@rdL S_api_Poster Z_S_api_Poster x13.2.2.1.2.2.2.2.2.1 (@I.nat .i64 x13.1.2.2.2.1)).2.2.1, (x13.2.2.2.1.2.2.2.2.1.2.2.1, ())), ())) fun y14 =>
               brn (bnot (Ty.eqb u256 (@rdL S_api_Poster Z_S_api_Poster x13.2.2.2.2.1.2.2.2.2.2.1 (@I.nat .i64 x13.1.2.2.2.1)).2.2.1 y14.1.1))
                (.done (some ((false, ()), ())))
                (brn (@inB .i64 x13.1.2.2.2.1 (@lenL S_api_Poster x13.2.2.2.2.1.2.2.2.2.2.1))
                 (brn (@inB .i64 x13.1.2.2.2.1 (@lenL S_api_Poster x13.2.2.1.2.2.2.2.2.1))
                  (optF (.done (none)) (uint256_SaturatingAdd (((@rdL S_api_Poster Z_S_api_Poster x13.2.2.1.2.2.2.2.2.1 (@I.nat .i64 x13.1.2.2.2.1)).2.2.2.1, (x13.2.2.2.2.2.1.2.1, ())), ())) fun y15 =>
                  brn (bnot (Ty.eqb u256 (@rdL S_api_Poster Z_S_api_Poster x13.2.2.2.2.1.2.2.2.2.2.1 (@I.nat .i64 x13.1.2.2.2.1)).2.2.2.1 y15.1.1))
                   (.done (some ((false, ()), ())))
                   (.again ((x13.1.1, (x13.1.2.1, ((@I.add .i64 x13.1.2.2.1 (I.of .i64 1)), ()))), (x13.2.1, (x13.2.2.2.2.1, ())))))
                  (.done (none)))
                 (.done (none))))
               (.done (none)))
              (.done (none))) fun j13 =>
           optF (.done (none)) (uint256_SaturatingAdd ((y9.1.1, (y8.1.1, ())), ())) fun y14 =>
           brn (bnot (Ty.eqb u256 y14.1.1 y11.1.1))
            (.done (some ((false, ()), ())))
            (optF (.done (none)) (uint256_SaturatingMul ((x3.2.1.2.2.2.2.2.2.2.1, ((y7.1.2.1.1, ((I.of .u64 0), ((I.of .u64 0), ((I.of .u64 0), ())))), ())), ())) fun y15 =>
            brn (bnot (Ty.eqb u256 y7.1.2.1.2.1 y15.1.1))
             (.done (some ((false, ()), ())))
             (brn (@I.ltb .i64 y12.1.1 (I.of .i64 0))
              (.done (some ((false, ()), ())))
              (brn (@I.neb .u64 y7.1.1.2.1 (@I.sub .u64 y5.1.1.2.1 y7.1.2.1.1))
               (.done (some ((false, ()), ())))
               (brn (@I.neb .u64 y7.1.1.2.2.1 y4.1.1.2.2.2.2.1.2.1)
                (.done (some ((false, ()), ())))
                (brn (@I.neb .u64 y7.1.1.2.2.2.1 (@I.add .u64 y5.1.1.2.2.2.1 (I.of .u64 1)))
                 (.done (some ((false, ()), ())))
                 (j13 ((x3.1.1, ((@I.add .u64 x3.1.2.1 (@I.rem .u64 (@rdL S_pontagelaw21_Call Z_S_pontagelaw21_Call x3.1.1 (@I.nat .i64 x3.1.2.2.1)).2.2.2.2.2.1 (I.of .u64 50))), (x3.1.2.2.1, (y12.1.1, (y7.1.2.1.2.1, (x3.2.1.2.2.2.2.2.2.2.1, (y7.1.2.1.1, ((y7.1.2.1.1, ((I.of .u64 0), ((I.of .u64 0), ((I.of .u64 0), ())))), (y15.1.1, ((bnot (Ty.eqb u256 y7.1.2.1.2.1 y15.1.1)), (y12.1.1, ((@I.ltb .i64 y12.1.1 (I.of .i64 0)), (y7.1.1.2.1, (y5.1.1.2.1, (y7.1.2.1.1, ((@I.sub .u64 y5.1.1.2.1 y7.1.2.1.1), ((@I.neb .u64 y7.1.1.2.1 (@I.sub .u64 y5.1.1.2.1 y7.1.2.1.1)), (y7.1.1.2.2.1, (y4.1.1.2.2.2.2.1.2.1, ((@I.neb .u64 y7.1.1.2.2.1 y4.1.1.2.2.2.2.1.2.1), (y7.1.1.2.2.2.1, (y5.1.1.2.2.2.1, ((@I.add .u64 y5.1.1.2.2.2.1 (I.of .u64 1)), ((@I.neb .u64 y7.1.1.2.2.2.1 (@I.add .u64 y5.1.1.2.2.2.1 (I.of .u64 1))), ())))))))))))))))))))))))), (x3.2.1, (y5.1.1, ((y4.1.1.1, (y4.1.1.2.1, (y4.1.1.2.2.1, ((y4.1.1.2.2.2.1.1, ((@I.rem .u64 y4.1.1.2.2.2.1.2.1 (I.of .u64 68719476736)), ((I.of .u64 0), ((I.of .u64 0), ())))), ((y4.1.1.2.2.2.2.1.1, (y4.1.1.2.2.2.2.1.2.1, ((y4.1.1.2.2.2.2.1.2.2.1.1, ((@I.rem .u64 y4.1.1.2.2.2.2.1.2.2.1.2.1 (I.of .u64 68719476736)), (y4.1.1.2.2.2.2.1.2.2.1.2.2.1, (y4.1.1.2.2.2.2.1.2.2.1.2.2.2.1, ())))), y4.1.1.2.2.2.2.1.2.2.2))), y4.1.1.2.2.2.2.2))))), (y7.1.1, (y7.1.2.1, ()))))))))))))))
          (.done (none)))
         (.done (none)))
        (.done (optF (none) (pontagelaw21_awake ((), ())) fun y4 =>
        some ((y4.1.1, ()), ()))))
     K0 ((x2.1.1, ((I.of .u64 0), ((I.of .i64 0), ()))), (x2.2.1, (x2.2.2.1, ()))))))
  K0 ((a, ((I.of .u64 1), ())), (y0.1.1, (y1.1.1, ()))))
end Sym

/- slices.Insert at a slice of posters, as the machine runs it. -/
namespace Sym
open Go Go.Proofs Go.RowKit Go.Lib
section
variable {P : Program}
theorem run_copy_rowN (w : World) (dT sT ty elem : TypeId) (g o dLen dCap : Nat) (a : Addr) (sLen sCap : Nat) (cur : Array Value) (t : TypeId) (cs : List Value) (sz : Nat)
    (hu : P.underlying dT = some (.slice elem)) (hs : (P.info? elem).map (·.size) = some sz)
    (hg : w.heap[g]? = some (.cells cur t (0, 0))) (hn : cs.length = Nat.min sLen dLen * sz)
    (hsrc : ∀ j v, cs[j]? = some v → w.cell? (a.add j) = some v) (hfit : o + cs.length ≤ cur.size) (h1 : ∀ v ∈ cs, v.oneCell' = true) :
    (Builtin.copy_ #[dT, sT] ty #[.slice (some ⟨g, o, none⟩) dLen dCap, .slice (some a) sLen sCap]).run P w =
      .ok (goInt (Nat.min sLen dLen)) (w.setRow g (cur.toList.take o ++ cs ++ cur.toList.drop (o + cs.length)).toArray) := by
  have hl := run_loadCells_list (P := P) w a cs hsrc
  have hst := run_storeCells_at P g o t cs 0 cur w hg (by simpa using hfit) h1
  cases hq : P.info? elem with
  | none => simp [hq] at hs
  | some i =>
    have hi : i.size = sz := by simpa [hq] using hs
    simp [Builtin.copy_, run_underlying hu, Builtin.lenOf, Builtin.firstCells, Go.sizeOf, typeInfo, hq, hi, ← hn, hl, hst]
end
theorem und33 : Try.prog.underlying 33 = some (.slice 63) := by kernel_rfl
set_option maxHeartbeats 1000000 in
set_option maxRecDepth 100000 in
theorem insert_end (n m : Nat) (hd hv : Value) (w w' : World) (hd' : Value) (hm : 0 < m) (hn : n ≤ 1073741824)
    (hdl : hd = .slice none 0 0 ∧ n = 0 ∨ ∃ g cap, hd = .slice (some ⟨g, 0, none⟩) n cap ∧ n ≤ cap ∧ cap ≤ maxLen) (hvl : ∃ a c, hv = .slice a m c)
    (hrun : (Builtin.append_ #[33, 33] 33 #[hd, hv]).run Try.prog w = .ok hd' w') :
    Calls Try.prog 42 #[hd, .int .i64 n, hv] w fun e w2 => e = .returned hd' ∧ w2 = w' := by
  obtain ⟨a, c, rfl⟩ := hvl
  have hz1 : ¬ ((m : Int) = 0) := by omega
  go_enter Try.func42, Try.ntmps42
  rcases hdl with ⟨rfl, rfl⟩ | ⟨g, cap, rfl, h1, h2⟩
  · go_wp2_with (at_builtin; refine Lib.wpList_append_run _ rfl _ _ _ _ rfl _ _ rfl rfl _ _ hrun ?_)
    go_ret
    exact ⟨rfl, rfl⟩
  · go_wp2_with (at_builtin; refine Lib.wpList_append_run _ rfl _ _ _ _ rfl _ _ rfl rfl _ _ hrun ?_)
    all_goals (go_ret; exact ⟨rfl, rfl⟩)
theorem size63 : (Try.prog.info? 63).map (·.size) = some 18 := by kernel_rfl
theorem sizeOf63 (w : World) : (Go.sizeOf 63).run Try.prog w = .ok 18 w := by
  have h := size63
  cases hq : Try.prog.info? 63 with
  | none => rw [hq] at h; cases h
  | some i =>
    have hi : i.size = 18 := by rw [hq] at h; simpa using h
    simp [Go.sizeOf, typeInfo, hq, hi]
set_option maxHeartbeats 1000000 in
set_option maxRecDepth 100000 in
theorem insert_room (n m i cap vc g vb : Nat) (cur curv cur1 cur2 : Array Value) (cs vs : List Value) (e ev : TypeId) (w : World) (hm : 0 < m) (hi : i < n) (hroom : n + m ≤ cap) (hc63 : cap ≤ maxLen) (hvb : vb ≠ g)
    (hg : w.heap[g]? = some (.cells cur e (0, 0))) (hv : w.heap[vb]? = some (.cells curv ev (0, 0))) (hcs : cur.size = cap * 18) (hvs : m * 18 ≤ curv.size)
    (h1 : ∀ v ∈ cs, v.oneCell' = true) (h1v : ∀ v ∈ vs, v.oneCell' = true)
    (hcs0 : cs = (cur.toList.drop (i * 18)).take ((n - i) * 18)) (hvs0 : vs = curv.toList.take (m * 18))
    (hc1 : cur1 = (cur.toList.take ((i + m) * 18) ++ cs ++ cur.toList.drop ((i + m) * 18 + cs.length)).toArray)
    (hc2 : cur2 = (cur1.toList.take (i * 18) ++ vs ++ cur1.toList.drop (i * 18 + vs.length)).toArray) :
    Calls Try.prog 42 #[.slice (some ⟨g, 0, none⟩) n cap, .int .i64 i, .slice (some ⟨vb, 0, none⟩) m vc] w fun e w2 => e = .returned (.slice (some ⟨g, 0, none⟩) (n + m) cap) ∧ w2 = (w.drew.setRow g cur1).setRow g cur2 := by
  have mixed : Try.prog.follows Departure.mixedOrders = true := by kernel_rfl
  have hz1 : ¬ ((m : Int) = 0) := by omega
  have hz2 : ¬ ((i : Int) = (n : Int)) := by omega
  have hov : ∀ lb cb, (callFunc 56 #[.slice (some ⟨vb, 0, none⟩) m vc, .slice (some ⟨g, (i + m) * 18, none⟩) lb cb]).run Try.prog w = .ok (.value (.bool false)) w := fun lb cb => by
    rw [run_callFunc_extern Try.func56 (by kernel_rfl) (by kernel_rfl) (by kernel_rfl) (e := Extern.SlicesOverlaps.overlaps #[33, 33] #[4]) (by kernel_rfl),
      Lib.run_overlaps_apart w 33 4 63 und33 18 sizeOf63 ⟨vb, 0, none⟩ ⟨g, (i + m) * 18, none⟩ m vc lb cb hvb ev e curv.size cur.size (by simp [World.shape?, hv]) (by simp [World.shape?, hg]) (by omega) (by simp [World.frozen?, hv]) (by simp [World.frozen?, hv])]
    rfl
  have hw1 : IntKind.i64.wrap ((i : Int) + (m : Int)) = (i : Int) + (m : Int) := by rw [IntKind.wrap_i64]; unfold maxLen at hc63; omega
  have hw2 : IntKind.i64.wrap ((n : Int) + (m : Int)) = (n : Int) + (m : Int) := by rw [IntKind.wrap_i64]; unfold maxLen at hc63; omega
  have hb1 : (0 : Int) ≤ (i : Int) + (m : Int) := by omega
  have hin : i ≤ n := by omega
  have htn : ((i : Int) + (m : Int)).toNat = i + m := by omega
  have hb2 : ¬ (cap = i + m) := by omega
  have hb3 : (i : Int) ≤ (n : Int) + (m : Int) := by omega
  have hb4 : ¬ (cap = i) := by omega
  have e1 : (i + m) * 18 + (n - i) * 18 = (n + m) * 18 := by omega
  have e2 : (n + m) * 18 ≤ cap * 18 := Nat.mul_le_mul_right _ hroom
  have hcl : cs.length = (n - i) * 18 := by rw [hcs0, List.length_take, List.length_drop, Array.length_toList, hcs]; omega
  have hvl : vs.length = m * 18 := by rw [hvs0, List.length_take, Array.length_toList]; omega
  have hc1s : cur1.size = cap * 18 := by rw [hc1]; simp [hcl, hcs]; omega
  have hcp1 : ∀ ty dc sc, (Builtin.copy_ #[33, 33] ty #[.slice (some ⟨g, (i + m) * 18, none⟩) (n + m - (i + m)) dc, .slice (some ⟨g, i * 18, none⟩) (n + m - i) sc]).run Try.prog w.drew = .ok (goInt (Nat.min (n + m - i) (n + m - (i + m)))) (w.drew.setRow g cur1) := fun ty dc sc => by
    have hmin : Nat.min (n + m - i) (n + m - (i + m)) = n - i := by simp only [Nat.min_def]; split <;> omega
    rw [hc1]
    exact run_copy_rowN w.drew 33 33 ty 63 g ((i + m) * 18) _ dc ⟨g, i * 18, none⟩ _ sc cur e cs 18 und33 size63 hg (by rw [hmin]; exact hcl)
      (fun j v hj => by
        rw [Addr.add_lit]
        have : (cur.toList.drop (i * 18))[j]? = some v := by rw [hcs0, List.getElem?_take] at hj; split at hj; exact hj; cases hj
        rw [List.getElem?_drop] at this
        have h2 : w.drew.heap[g]? = some (.cells cur e (0, 0)) := hg
        simp only [World.cell?, h2]
        simpa using this) (by omega) h1
  have hcp2 : ∀ (W : World), W.heap = (w.drew.setRow g cur1).heap → ∀ ty dc, (Builtin.copy_ #[33, 33] ty #[.slice (some ⟨g, i * 18, none⟩) (n + m - i) dc, .slice (some ⟨vb, 0, none⟩) m vc]).run Try.prog W = .ok (goInt (Nat.min m (n + m - i))) (W.setRow g cur2) := fun W hW ty dc => by
    rw [hc2]
    have hmin : Nat.min m (n + m - i) = m := by simp only [Nat.min_def]; split <;> omega
    exact run_copy_rowN W 33 33 ty 63 g (i * 18) _ dc ⟨vb, 0, none⟩ _ vc cur1 e vs 18 und33 size63 (by rw [hW]; exact setRow_heap w.drew g cur cur1 e _ hg) (by rw [hmin]; exact hvl)
      (fun j v hj => by
        rw [Addr.add_lit]
        have : curv.toList[j]? = some v := by rw [hvs0, List.getElem?_take] at hj; split at hj; exact hj; cases hj
        have h2 : W.heap[vb]? = some (.cells curv ev (0, 0)) := by rw [hW, setRow_other w.drew g vb cur1 hvb]; exact hv
        simp only [World.cell?, h2]
        simpa using this) (by omega) h1v
  clear hc1 hc2 hcs0 hvs0 hcl hvl hc1s e1 e2
  go_enter Try.func42, Try.ntmps42
  go_wp2_with (simp only [hov])
  go_region_law_o (refine step_copy_runI rfl _ _ 33 33 rfl _ _ (by simp [Act.eval, Act.put]) (by simp [Act.eval, Act.put]) (hcp1 _ _ _) ?_)
  go_wp2_with (at_builtin; refine wpList_copy_runI _ rfl _ _ 33 33 rfl _ _ rfl rfl (hcp2 _ rfl _ _) ?_)
  go_ret
  exact ⟨rfl, rfl⟩
theorem und3 : Try.prog.underlying 3 = some (.int .i64) := by kernel_rfl
set_option maxHeartbeats 2000000 in
set_option maxRecDepth 100000 in
theorem insert_grow (n m i cap vc g vb : Nat) (cur curv ROW ROW1 ROW2 : Array Value) (cs vs olds : List Value) (e ev : TypeId) (w : World) (i0 : TypeInfo) (z : Value) (hi0 : Try.prog.info? 63 = some i0) (hz0 : i0.zero = some z) (hzs : i0.size = 18) (hzc : z.cells.size = 18) (hby : i0.bytes ≤ 131072)
    (hm : 0 < m) (hi : i < n) (hnc : n ≤ cap) (hroom : cap < n + m) (hlim : n + m ≤ 1073741824) (hvb : vb ≠ g)
    (hg : w.heap[g]? = some (.cells cur e (0, 0))) (hv : w.heap[vb]? = some (.cells curv ev (0, 0))) (hcs : cur.size = cap * 18) (hvs : m * 18 ≤ curv.size)
    (h1 : ∀ v ∈ cs, v.oneCell' = true) (h1v : ∀ v ∈ vs, v.oneCell' = true)
    (hol : olds = cur.toList.take (i * 18)) (hcs0 : cs = (cur.toList.drop (i * 18)).take ((n - i) * 18)) (hvs0 : vs = curv.toList.take (m * 18))
    (hROW : ROW = olds.toArray ++ Builtin.zeroCells z.cells (n + m - i) ++ Builtin.zeroCells z.cells (grownCap w (n + m) cap 63 - (n + m)))
    (hc1 : ROW1 = (ROW.toList.take (i * 18) ++ vs ++ ROW.toList.drop (i * 18 + vs.length)).toArray)
    (hc2 : ROW2 = (ROW1.toList.take ((i + m) * 18) ++ cs ++ ROW1.toList.drop ((i + m) * 18 + cs.length)).toArray) :
    Calls Try.prog 42 #[.slice (some ⟨g, 0, none⟩) n cap, .int .i64 i, .slice (some ⟨vb, 0, none⟩) m vc] w fun e w2 => e = .returned (.slice (some ⟨w.heap.size, 0, none⟩) (n + m) (grownCap w (n + m) cap 63)) ∧
      w2 = (((w.drew.alloc (.cells ROW 63)).setRow w.heap.size ROW1).drew).setRow w.heap.size ROW2 := by
  have mixed : Try.prog.follows Departure.mixedOrders = true := by kernel_rfl
  have hz1 : ¬ ((m : Int) = 0) := by omega
  have hz2 : ¬ ((i : Int) = (n : Int)) := by omega
  have hz3 : (cap : Int) < (n : Int) + (m : Int) := by omega
  have hgw : g < w.heap.size := by
    have := hg
    rcases Nat.lt_or_ge g w.heap.size with h | h
    · exact h
    · rw [Array.getElem?_eq_none h] at this; cases this
  have hvw : vb < w.heap.size := by
    have := hv
    rcases Nat.lt_or_ge vb w.heap.size with h | h
    · exact h
    · rw [Array.getElem?_eq_none h] at this; cases this
  have hkk : (n : Int) + (m : Int) - (i : Int) = ((n + m - i : Nat) : Int) := by omega
  have hik : i + (n + m - i) = n + m := by omega
  have hbytes : (n + m) * i0.bytes ≤ 140737488355328 := Nat.le_trans (Nat.mul_le_mul hlim hby) (by decide)
  have e0 : i * 18 ≤ cap * 18 := Nat.mul_le_mul_right _ (by omega)
  have holl : olds.length = i * 18 := by rw [hol, List.length_take, Array.length_toList, hcs]; omega
  have hold : (Builtin.firstCells i0.size i (.slice (some ⟨g, 0, none⟩) i cap)).run Try.prog w.drew = .ok olds.toArray w.drew := by
    rw [hzs]
    exact run_firstCells_some w.drew 18 i ⟨g, 0, none⟩ i cap olds holl (fun j v hj => by
      rw [Addr.add_lit]
      have : cur.toList[j]? = some v := by rw [hol, List.getElem?_take] at hj; split at hj; exact hj; cases hj
      have h2 : w.drew.heap[g]? = some (.cells cur e (0, 0)) := hg
      simp only [World.cell?, h2]
      simpa using this)
  have hrz : ∀ ty, (Builtin.append_ #[33, 3] ty #[.slice (some ⟨g, 0, none⟩) i cap, .int .i64 ((n : Int) + (m : Int) - (i : Int))]).run Try.prog w =
      .ok (.slice (some ⟨w.heap.size, 0, none⟩) (n + m) (grownCap w (n + m) cap 63)) (w.drew.alloc (.cells ROW 63)) := fun ty => by
    have h := Lib.run_append_grow_zeros w 33 3 ty 63 i0 z .i64 .i64 und33 und3 hi0 hz0 (some ⟨g, 0, none⟩) i cap olds hold (n + m - i) (by omega) (by omega) (by omega) (by omega) (by
      have : (n + m - i) * i0.bytes ≤ (n + m) * i0.bytes := Nat.mul_le_mul_right _ (by omega)
      omega) (by rw [hik]; exact growslice_fits hroom hbytes)
    rw [hik] at h
    rw [hkk, hROW]
    exact h
  obtain ⟨G, hG⟩ : ∃ G, G = grownCap w (n + m) cap 63 := ⟨_, rfl⟩
  have hGn : n + m ≤ G := by rw [hG]; exact grownCap_ge w _ _ _
  have hG63 : G ≤ 9223372036854775807 := by
    have := grownCap_le_maxLen w (n + m) cap 63 (by unfold maxLen; omega)
    rw [← hG] at this
    unfold maxLen at this
    omega
  rw [← hG] at hrz ⊢
  have zl : ∀ k, (Builtin.zeroCells z.cells k).size = k * 18 := fun k => by rw [size_zeroCells, hzc]
  have hRl : ROW.size = G * 18 := by
    rw [hROW, ← hG]
    simp only [Array.size_append, zl, List.size_toArray, holl]
    omega
  have e1 : (i + m) * 18 + (n - i) * 18 = (n + m) * 18 := by omega
  have e2 : (n + m) * 18 ≤ G * 18 := Nat.mul_le_mul_right _ hGn
  have e3 : n * 18 ≤ cap * 18 := Nat.mul_le_mul_right _ hnc
  have hcl : cs.length = (n - i) * 18 := by rw [hcs0, List.length_take, List.length_drop, Array.length_toList, hcs]; omega
  have hvl : vs.length = m * 18 := by rw [hvs0, List.length_take, Array.length_toList]; omega
  have hR1l : ROW1.size = G * 18 := by rw [hc1]; simp [hvl, hRl]; omega
  obtain ⟨W1, hW1⟩ : ∃ W1, W1 = w.drew.alloc (.cells ROW 63) := ⟨_, rfl⟩
  rw [← hW1] at hrz ⊢
  have hN : W1.heap[w.heap.size]? = some (.cells ROW 63 (0, 0)) := by rw [hW1]; exact heap_new w.drew _
  have hOg : W1.heap[g]? = some (.cells cur e (0, 0)) := by rw [hW1, heap_old w.drew _ hgw]; exact hg
  have hOv : W1.heap[vb]? = some (.cells curv ev (0, 0)) := by rw [hW1, heap_old w.drew _ hvw]; exact hv
  have hcpA : ∀ (W : World), W.heap = W1.heap → ∀ ty dc, (Builtin.copy_ #[33, 33] ty #[.slice (some ⟨w.heap.size, i * 18, none⟩) (n + m - i) dc, .slice (some ⟨vb, 0, none⟩) m vc]).run Try.prog W = .ok (goInt (Nat.min m (n + m - i))) (W.setRow w.heap.size ROW1) := fun W hW ty dc => by
    have hmin : Nat.min m (n + m - i) = m := by simp only [Nat.min_def]; split <;> omega
    rw [hc1]
    exact run_copy_rowN W 33 33 ty 63 w.heap.size (i * 18) _ dc ⟨vb, 0, none⟩ _ vc ROW 63 vs 18 und33 size63 (by rw [hW]; exact hN) (by rw [hmin]; exact hvl)
      (fun j v hj => by
        rw [Addr.add_lit]
        have : curv.toList[j]? = some v := by rw [hvs0, List.getElem?_take] at hj; split at hj; exact hj; cases hj
        have h2 : W.heap[vb]? = some (.cells curv ev (0, 0)) := by rw [hW]; exact hOv
        simp only [World.cell?, h2]
        simpa using this) (by omega) h1v
  have hcpB : ∀ (W : World), W.heap = (W1.setRow w.heap.size ROW1).heap → ∀ ty dc sc, (Builtin.copy_ #[33, 33] ty #[.slice (some ⟨w.heap.size, (i + m) * 18, none⟩) (n + m - (i + m)) dc, .slice (some ⟨g, i * 18, none⟩) (n - i) sc]).run Try.prog W = .ok (goInt (Nat.min (n - i) (n + m - (i + m)))) (W.setRow w.heap.size ROW2) := fun W hW ty dc sc => by
    have hmin : Nat.min (n - i) (n + m - (i + m)) = n - i := by simp only [Nat.min_def]; split <;> omega
    rw [hc2]
    exact run_copy_rowN W 33 33 ty 63 w.heap.size ((i + m) * 18) _ dc ⟨g, i * 18, none⟩ _ sc ROW1 63 cs 18 und33 size63 (by rw [hW]; exact setRow_heap W1 _ ROW ROW1 63 _ hN) (by rw [hmin]; exact hcl)
      (fun j v hj => by
        rw [Addr.add_lit]
        have : (cur.toList.drop (i * 18))[j]? = some v := by rw [hcs0, List.getElem?_take] at hj; split at hj; exact hj; cases hj
        rw [List.getElem?_drop] at this
        have h2 : W.heap[g]? = some (.cells cur e (0, 0)) := by rw [hW, setRow_other W1 _ g ROW1 (by omega)]; exact hOg
        simp only [World.cell?, h2]
        simpa using this) (by omega) h1
  have hGi : ¬ (G = i) := by omega
  have hGim : ¬ (G = i + m) := by omega
  have hci : ¬ (cap = i) := by omega
  have hw1 : IntKind.i64.wrap ((i : Int) + (m : Int)) = (i : Int) + (m : Int) := by rw [IntKind.wrap_i64]; omega
  have hw2 : IntKind.i64.wrap ((n : Int) + (m : Int)) = (n : Int) + (m : Int) := by rw [IntKind.wrap_i64]; omega
  have hb1 : (0 : Int) ≤ (i : Int) + (m : Int) := by omega
  have hin : i ≤ n := by omega
  have htn : ((i : Int) + (m : Int)).toNat = i + m := by omega
  have hb3 : (i : Int) ≤ (n : Int) := by omega
  clear hc1 hc2 hROW hcs0 hvs0 hol hcl hvl hRl hR1l e0 e1 e2 e3 hold holl hkk hik hG hN hOg hOv hW1
  go_enter Try.func42, Try.ntmps42
  go_wp2_with (first
    | (at_builtin; refine Lib.wpList_append_run _ rfl _ _ _ _ rfl _ _ rfl rfl _ _ (hrz _) ?_)
    | (at_builtin; refine wpList_copy_runI _ rfl _ _ 33 33 rfl _ _ rfl rfl (hcpA _ rfl _ _) ?_)
    | (at_builtin; refine wpList_copy_runI _ rfl _ _ 33 33 rfl _ _ rfl rfl (hcpB _ rfl _ _ _) ?_))
  go_region_law_o (refine step_copy_runI rfl _ _ 33 33 rfl (.slice (some ⟨w.heap.size, (i + m) * 18, none⟩) (n + m - (i + m)) (G - (i + m))) (.slice (some ⟨g, i * 18, none⟩) (n - i) (cap - i)) (by simp [Act.eval, Act.put]) (by simp [Act.eval, Act.put]) (hcpB (W1.setRow w.heap.size ROW1).drew rfl 3 (G - (i + m)) (cap - i)) ?_)
  go_wp2
  go_ret
  exact ⟨rfl, rfl⟩
end Sym

/- slices.Insert at a slice of posters: what it does to rows. -/
namespace Sym
open Go Go.Proofs
theorem EncL_cut {X : Type} {E : X → List Value → Prop} {s : Nat} (hl : ∀ x cs, E x cs → cs.length = s) : ∀ (l : List X) (xs : List Value) (i : Nat), EncL E l xs → EncL E (l.take i) (xs.take (i * s)) ∧ EncL E (l.drop i) (xs.drop (i * s))
  | l, xs, 0, h => by simp only [Nat.zero_mul, List.take_zero, List.drop_zero]; exact ⟨rfl, h⟩
  | [], xs, i + 1, h => by
    have h : xs = [] := h
    subst h
    simp only [List.take_nil, List.drop_nil]
    exact ⟨rfl, rfl⟩
  | x :: l, xs, i + 1, h => by
    obtain ⟨c1, c2, rfl, h1, h2⟩ := h
    have hc := hl x c1 h1
    have ⟨g1, g2⟩ := EncL_cut hl l c2 i h2
    have e : (i + 1) * s = c1.length + i * s := by rw [hc, Nat.succ_mul]; omega
    refine ⟨⟨c1, c2.take (i * s), ?_, h1, g1⟩, ?_⟩
    · rw [e, List.take_append, List.take_of_length_le (by omega), Nat.add_sub_cancel_left]
    · rw [e]
      simpa using g2
theorem ins_list {α : Type} {L X V C : List α} {a b c : Nat} (h1 : L.take a = X) (ha : X.length = a) (hv : V.length = b) (hc : C.length = c) (hl : a + b + c ≤ L.length) :
    (((L.take (a + b) ++ C ++ L.drop (a + b + C.length)).take a ++ V ++ (L.take (a + b) ++ C ++ L.drop (a + b + C.length)).drop (a + V.length))).length = L.length ∧
    (((L.take (a + b) ++ C ++ L.drop (a + b + C.length)).take a ++ V ++ (L.take (a + b) ++ C ++ L.drop (a + b + C.length)).drop (a + V.length))).take (a + b + c) = X ++ V ++ C := by
  have e1 : (L.take (a + b) ++ C ++ L.drop (a + b + C.length)).take a = X := by
    rw [List.append_assoc, List.take_append, List.length_take, Nat.sub_eq_zero_of_le (by omega), List.take_zero, List.append_nil, List.take_take, Nat.min_eq_left (by omega)]
    exact h1
  have e2 : (L.take (a + b) ++ C ++ L.drop (a + b + C.length)).drop (a + V.length) = C ++ L.drop (a + b + C.length) := by
    rw [List.append_assoc, hv, List.drop_append, List.drop_of_length_le (by rw [List.length_take]; omega), List.length_take, Nat.sub_eq_zero_of_le (by omega)]
    rfl
  rw [e1, e2]
  refine ⟨by simp only [List.length_append, List.length_drop]; omega, ?_⟩
  rw [← List.append_assoc, List.take_append, List.take_of_length_le (by simp only [List.length_append]; omega), Nat.sub_eq_zero_of_le (by simp only [List.length_append]; omega), List.take_zero, List.append_nil]
theorem ins_list2 {α : Type} {L X V C : List α} {a b c : Nat} (h1 : L.take a = X) (ha : X.length = a) (hv : V.length = b) (hc : C.length = c) (hl : a + b + c ≤ L.length) :
    (((L.take a ++ V ++ L.drop (a + V.length)).take (a + b) ++ C ++ (L.take a ++ V ++ L.drop (a + V.length)).drop (a + b + C.length))).length = L.length ∧
    (((L.take a ++ V ++ L.drop (a + V.length)).take (a + b) ++ C ++ (L.take a ++ V ++ L.drop (a + V.length)).drop (a + b + C.length))).take (a + b + c) = X ++ V ++ C := by
  have e1 : (L.take a ++ V ++ L.drop (a + V.length)).take (a + b) = X ++ V := by
    rw [h1, List.take_append, List.take_of_length_le (by simp only [List.length_append]; omega), Nat.sub_eq_zero_of_le (by simp only [List.length_append]; omega), List.take_zero, List.append_nil]
  have e2 : (L.take a ++ V ++ L.drop (a + V.length)).length = L.length := by rw [h1]; simp only [List.length_append, List.length_drop]; omega
  rw [e1]
  refine ⟨by simp only [List.length_append, List.length_drop] at e2 ⊢; omega, ?_⟩
  rw [List.take_append, List.take_of_length_le (by simp only [List.length_append]; omega), Nat.sub_eq_zero_of_le (by simp only [List.length_append]; omega), List.take_zero, List.append_nil]
set_option maxRecDepth 100000 in
theorem insert_any (n m i : Nat) (hd hv : Value) (xs vs : List Value) (e ev : TypeId) (w : World) (hm : 0 < m) (hi : i ≤ n) (hlim : n + m ≤ 1073741824)
    (ho : w.ownsRow 0 e 18 hd n xs) (hov : w.ownsRow 0 ev 18 hv m vs) (hne : ∀ r, blkOf hd = some r → blkOf hv ≠ some r)
    (h1 : ∀ v ∈ xs, v.oneCell' = true) (h1v : ∀ v ∈ vs, v.oneCell' = true) :
    Calls Try.prog 42 #[hd, .int .i64 i, hv] w fun en w2 => ∃ hd' e'', en = .returned hd' ∧ w2.ownsRow 0 e'' 18 hd' (n + m) (xs.take (i * 18) ++ vs ++ xs.drop (i * 18)) ∧ w.grownBy w2 (blkOf hd) ∧ (∀ r, blkOf hd' = some r → w.heap.size ≤ r ∨ blkOf hd = some r) := by
  have ht : TI Try.prog 63 pT18 := ti_ok (by kernel_rfl)
  obtain ⟨i0, hi0, hby, hz0⟩ := ht.info
  have hz0 := hz0.resolve_right (by intro h; cases h)
  have hzs : i0.size = 18 := by have := ht.ok.size; simp [Program.cellsOf, hi0] at this; exact this
  have hcz : (mkZ pT18).cells = (zCells pT18).toArray := cells_mkV (zCells_len pT18) (zCells_one pT18)
  have hzc : (mkZ pT18).cells.size = 18 := by rw [hcz, List.size_toArray, zCells_len]; rfl
  have e1 : i * 18 ≤ n * 18 := Nat.mul_le_mul_right _ hi
  rcases own_cells hov with ⟨_, h0, _⟩ | ⟨vb, vc, curv, f1, f2, f3, f4, f5, f6, f7⟩
  · omega
  have hvsl : m * 18 ≤ curv.size := by rw [f5]; exact Nat.mul_le_mul_right _ f3
  rcases Nat.lt_or_ge i n with hin | hin
  · rcases own_cells ho with ⟨_, h0, _⟩ | ⟨g, cap, cur, g1, g2, g3, g4, g5, g6, g7⟩
    · omega
    have hvb : vb ≠ g := fun e => hne g (by rw [g1]; rfl) (by rw [f1, e]; rfl)
    subst g1 f1
    have hol : cur.toList.take (i * 18) = xs.take (i * 18) := by rw [← g6, List.take_take, Nat.min_eq_left e1]
    have hcs : (cur.toList.drop (i * 18)).take ((n - i) * 18) = xs.drop (i * 18) := by
      rw [← g6, List.drop_take, Nat.sub_mul]
    have hxl : xs.length = n * 18 := ho.1
    have hdl : (xs.drop (i * 18)).length = (n - i) * 18 := by rw [List.length_drop, hxl, Nat.sub_mul]
    have hvl : vs.length = m * 18 := hov.1
    have htl : (xs.take (i * 18)).length = i * 18 := by rw [List.length_take, hxl]; exact Nat.min_eq_left e1
    have e3 : i * 18 + m * 18 = (i + m) * 18 := by rw [Nat.add_mul]
    have e4 : (i + m) * 18 + (n - i) * 18 = (n + m) * 18 := by omega
    have hall : (xs.take (i * 18) ++ vs ++ xs.drop (i * 18)).length = (n + m) * 18 := by simp only [List.length_append, htl, hvl, hdl]; omega
    rcases Nat.lt_or_ge cap (n + m) with hroom | hroom
    · have hw := insert_grow n m i cap vc g vb cur curv _ _ _ (xs.drop (i * 18)) vs (xs.take (i * 18)) e ev w i0 _ hi0 hz0 hzs hzc hby hm hin g3 hroom hlim hvb g2 f2 g5 hvsl (fun v hv => h1 v (List.mem_of_mem_drop hv)) h1v hol.symm hcs.symm f6.symm rfl rfl rfl
      obtain ⟨G, hG⟩ : ∃ G, G = grownCap w (n + m) cap 63 := ⟨_, rfl⟩
      have hGn : n + m ≤ G := by rw [hG]; exact grownCap_ge w _ _ _
      have hGm : G ≤ maxLen := by rw [hG]; exact grownCap_le_maxLen w (n + m) cap 63 (by unfold maxLen; omega)
      obtain ⟨ROW, hR⟩ : ∃ ROW : Array Value, ROW = (xs.take (i * 18)).toArray ++ Builtin.zeroCells (mkZ pT18).cells (n + m - i) ++ Builtin.zeroCells (mkZ pT18).cells (G - (n + m)) := ⟨_, rfl⟩
      rw [← hG] at hw
      rw [← hR] at hw
      have zl : ∀ k, (Builtin.zeroCells (mkZ pT18).cells k).size = k * 18 := fun k => by rw [size_zeroCells, hzc]
      have hRl : ROW.size = G * 18 := by
        rw [hR]
        simp only [Array.size_append, zl, List.size_toArray, htl]
        omega
      have hRt : ROW.toList.take (i * 18) = xs.take (i * 18) := by
        rw [hR]
        simp only [Array.toList_append, List.append_assoc]
        rw [List.take_append, htl, Nat.sub_self, List.take_zero, List.append_nil, List.take_of_length_le (by rw [htl]; exact Nat.le_refl _)]
      have ⟨q1, q2⟩ := ins_list2 (L := ROW.toList) hRt htl hvl hdl (by rw [Array.length_toList, hRl]; omega)
      refine Calls.mono hw ?_
      rintro en w2 ⟨rfl, rfl⟩
      have hN : ((w.drew.alloc (.cells ROW 63)).setRow w.heap.size (ROW.toList.take (i * 18) ++ vs ++ ROW.toList.drop (i * 18 + vs.length)).toArray).heap[w.heap.size]? = some (.cells (ROW.toList.take (i * 18) ++ vs ++ ROW.toList.drop (i * 18 + vs.length)).toArray 63 (0, 0)) := setRow_heap _ _ ROW _ 63 _ (heap_new w.drew _)
      refine ⟨_, 63, rfl, ⟨hall, .inr ⟨w.heap.size, G, _, rfl, Nat.zero_le _, setRow_heap _ _ _ _ 63 _ hN, hGn, hGm, ?_, ?_⟩⟩, ⟨rfl, rfl, rfl, by simp, fun k hk _ => ?_⟩, fun r hr => by simp only [blkOf, Option.some.injEq] at hr; left; omega⟩
      · rw [List.size_toArray, ← hRl, ← Array.length_toList, ← e3]
        exact q1
      · rw [← e4, ← e3]
        exact q2
      · rw [setRow_other _ _ k _ (by omega)]
        show ((w.drew.alloc _).setRow w.heap.size _).heap[k]? = _
        rw [setRow_other _ _ k _ (by omega)]
        exact heap_old w.drew _ hk
    · have hw := insert_room n m i cap vc g vb cur curv _ _ (xs.drop (i * 18)) vs e ev w hm hin hroom g4 hvb g2 f2 g5 hvsl (fun v hv => h1 v (List.mem_of_mem_drop hv)) h1v hcs.symm f6.symm rfl rfl
      have ⟨q1, q2⟩ := ins_list (L := cur.toList) hol htl hvl hdl (by rw [Array.length_toList, g5]; omega)
      refine Calls.mono hw ?_
      rintro en w2 ⟨rfl, rfl⟩
      refine ⟨_, e, rfl, ⟨hall, .inr ⟨g, cap, _, rfl, Nat.zero_le _, setRow_heap _ _ _ _ e _ (setRow_heap w.drew g cur _ e _ g2), hroom, g4, ?_, ?_⟩⟩, ⟨rfl, rfl, rfl, by simp, fun k _ hk => ?_⟩, fun r hr => .inr hr⟩
      · rw [List.size_toArray, ← g5, ← Array.length_toList, ← e3]
        exact q1
      · rw [← e4, ← e3]
        exact q2
      · have hkg : k ≠ g := fun e => hk (by rw [e]; rfl)
        rw [setRow_other _ g k _ hkg, setRow_other _ g k _ hkg]
        rfl
  · have : i = n := by omega
    subst this
    subst f1
    have ht2 : TI Try.prog 33 (.sl pT18) := ti_ok (by kernel_rfl)
    obtain ⟨e63, hu, he, j0, hj0, hjb, hjz⟩ := ht2.elem pT18 rfl
    have hjz := hjz.resolve_right (by intro h; cases h)
    obtain ⟨hd', w', e'', hrun, hown, hgb, hnew⟩ := run_append_any (P := Try.prog) w 33 hu he hj0 hjb hjz (by decide) hd i xs (e' := e) ho (.slice (some ⟨vb, 0, none⟩) m vc) m rfl vs hov.1
      (fun w' hw' => by
        have hh : w'.heap = w.heap := by rcases hw' with rfl | rfl <;> rfl
        exact run_firstCells_some (P := Try.prog) w' 18 m ⟨vb, 0, none⟩ m vc vs hov.1 fun j v hj => by
          rw [add_lit]
          have h2 : w'.heap[vb]? = some (.cells curv ev (0, 0)) := by rw [hh]; exact f2
          have := f7 j v hj
          simp only [World.cell?, h2]
          simpa using this) h1v hlim
    have hxl : xs.length = i * 18 := ho.1
    have hdl : hd = .slice none 0 0 ∧ i = 0 ∨ ∃ g cap, hd = .slice (some ⟨g, 0, none⟩) i cap ∧ i ≤ cap ∧ cap ≤ maxLen := by
      rcases own_cells ho with ⟨a1, a2, _⟩ | ⟨g, cap, cur, g1, g2, g3, g4, _⟩
      · exact .inl ⟨a1, a2⟩
      · exact .inr ⟨g, cap, g1, g3, g4⟩
    refine Calls.mono (insert_end i m hd _ w w' hd' hm (by omega) hdl ⟨_, _, rfl⟩ hrun) ?_
    rintro en w2 ⟨rfl, rfl⟩
    refine ⟨hd', e'', rfl, ?_, hgb, hnew⟩
    rw [← hxl, List.take_length, List.drop_length, List.append_nil]
    exact hown
end Sym

/- slices.Insert at a slice of posters: its contract. -/
namespace Sym
open Go Go.Proofs
theorem insert_ok (hodd : noOdd Try.prog) : ConOk Try.prog 42 insertC := by
  intro x y hxy c vals hS hH hargs
  obtain ⟨i, l, ys, rfl⟩ : ∃ (i : I .i64) (l ys : List pT18.D), x = ((i, ()), (l, (ys, ()))) := ⟨x.1.1, x.2.1, x.2.2.1, rfl⟩
  have hF : insertF ((i, ()), (l, (ys, ()))) = some y := hxy
  unfold insertF at hF
  simp only [lenL] at hF
  have c1 : inB' i l.length = true := by cases h : inB' i l.length with | true => rfl | false => rw [h] at hF; cases hF
  rw [c1] at hF
  have c2 : Nat.ble 1 ys.length = true := by cases h : Nat.ble 1 ys.length with | true => rfl | false => rw [h] at hF; cases hF
  rw [c2] at hF
  have c3 : fitsLen (l.length + ys.length) = true := by cases h : fitsLen (l.length + ys.length) with | true => rfl | false => rw [h] at hF; cases hF
  rw [c3] at hF
  have hy : ((), (subL l 0 (I.nat i) ++ ys ++ subL l (I.nat i) (l.length - I.nat i), ())) = y := Option.some.inj hF
  clear hF hxy
  subst hy
  have hH : c.H = [.row pT18 l, .row pT18 ys] := hH
  simp only [inB', Bool.and_eq_true, decide_eq_true_eq] at c1
  have hm := Nat.le_of_ble_eq_true c2
  simp only [fitsLen, decide_eq_true_eq] at c3
  obtain ⟨k, hk⟩ : ∃ k, k = I.nat i := ⟨_, rfl⟩
  have hki : i.val = (k : Int) := by rw [hk]; unfold I.nat; omega
  have hkl : k ≤ l.length := by omega
  have b0 : blkAt c.H 0 = .row pT18 l := by rw [hH]; rfl
  have b1 : blkAt c.H 1 = .row pT18 ys := by rw [hH]; rfl
  match vals, hargs with
  | [v0, v1, v2], hargs =>
    obtain ⟨h0, h1, h2, _⟩ := hargs
    have whole : ∀ b t (l : List t.D) v, blkAt c.H b = .row t l → VOk c (.whole b) v → v = c.ρ b := by
      intro b t l v hb hv
      obtain ⟨cs, ⟨u, rfl, _, hw⟩, hxv⟩ := hv
      unfold WholeOk at hw
      simp only [hb] at hw
      rw [← hw]
      exact hxv
    have e0 := whole 0 pT18 l v0 b0 h0
    have e2 := whole 1 pT18 ys v2 b1 h2
    have e1 := v_int h1
    subst e0 e1 e2
    have hM := hS.mem
    have B0 := hS.blk 0
    have B1 := hS.blk 1
    unfold BlkOk at B0 B1
    simp only [b0] at B0
    simp only [b1] at B1
    obtain ⟨hl0, ee0, xs, ho0, hx0⟩ := B0
    obtain ⟨hl1, ee1, vs, ho1, hx1⟩ := B1
    have hne : ∀ r, blkOf (c.ρ 0) = some r → blkOf (c.ρ 1) ≠ some r := fun r q1 q2 => by
      have := hS.inj 0 1 r (by rw [b0]; rfl) (by rw [b1]; rfl) q1 q2
      cases this
    have hc := insert_any l.length ys.length k (c.ρ 0) (c.ρ 1) xs vs ee0 ee1 c.w hm hkl c3 ho0 ho1 hne (EncL_one l xs hx0) (EncL_one ys vs hx1)
    have hfn : Try.prog.funcs[42]? = some Try.f42 := Try.func42
    obtain ⟨body, hbd⟩ : ∃ b, Try.f42.body = some b := ⟨_, rfl⟩
    right
    rw [hki]
    refine ⟨run_callFunc hfn hbd (hodd 42 _ hfn), Calls.mono hc ?_⟩
    rintro en w2 ⟨hd', e'', rfl, ho2, hg, hnew⟩
    refine ⟨hd', rfl, ?_⟩
    have ⟨t1, t2⟩ := EncL_cut (fun x cs => Enc_len pT18 x cs) l xs k hx0
    have hlen : (l.take k ++ ys ++ l.drop k).length = l.length + ys.length := by
      simp only [List.length_append, List.length_take, List.length_drop]; omega
    obtain ⟨c', k1, k2, k3, k4, k5⟩ := mem_row hM (nb := 2) (by rw [hH]; rfl) (t := pT18) (l := l.take k ++ ys ++ l.drop k) (blkOf (c.ρ 0)) hg (by rw [hlen]; exact ho2) (EncL_app _ _ _ _ (EncL_app _ _ _ _ t1 hx1) t2) (by rw [hlen]; simp only [LIM]; omega) (some 0)
      (fun i h => by cases h; exact ⟨by rw [b0]; rfl, by decide⟩) (fun r h _ => ⟨0, rfl, h⟩) (fun r h => (hnew r h).imp _root_.id fun h => ⟨0, rfl, h⟩)
    have hsub : subL l 0 (I.nat i) ++ ys ++ subL l (I.nat i) (l.length - I.nat i) = l.take k ++ ys ++ l.drop k := by
      rw [← hk]
      simp only [subL, List.drop_zero]
      rw [List.take_of_length_le (l := l.drop k) (by rw [List.length_drop]; exact Nat.le_refl _)]
    have hH' : c'.H = [.dead, .row pT18 ys, .row pT18 (l.take k ++ ys ++ l.drop k)] := by rw [k2, hH]; rfl
    obtain ⟨m, hz⟩ : ∃ m, insertC.Out.ext [.whole 2] c'.H = some (((), (l.take k ++ ys ++ l.drop k, ())), m) := by
      rw [hH']
      exact ⟨_, rfl⟩
    obtain ⟨c2, w2', hh2, hM2, hargs2⟩ := part_mem k4 hz
    obtain ⟨us', q1, q2, q3⟩ := hargs2 [hd'] ⟨k5, trivial⟩
    have hus : us' = [hd'] := by
      match us', q2 with
      | [u], _ =>
        have h3 : u = hd' := by simpa using congrArg List.head? q1.symm
        rw [h3]
    subst hus
    refine ⟨c2, w2'.trans k1, ?_, ?_, hM2, fun i hi => ?_⟩
    · rw [hh2, ← hsub]
    · exact q3.1
    · exact absurd hi (Nat.not_lt_zero i)
end Sym

/- The contracts of the given functions. -/
namespace Sym
open Go Go.Proofs
set_option maxRecDepth 100000
def tys : List (Nat × Ty) := [(2, (.int .i64)), (3, (.int .i64)), (4, .bool), (5, (.int .u8)), (6, (.int .u8)), (7, Y_runtime_boundsError), (8, Y_runtime_boundsError), (9, .str), (10, .str), (11, .str), (22, (.sl Y_pontagelaw21_Call)), (23, (.int .u64)), (24, (.arr 8 (.int .u64))), (27, u256), (29, Y_api_Params), (32, Y_api_Int256), (33, (.sl Y_api_Poster)), (35, Y_api_Pricer), (37, (.int .u64)), (38, (.int .i64)), (42, Y_api_Report), (44, Y_pontagelaw21_Call), (46, (.sl Y_api_Payment)), (48, Y_pricer_Outcome), (63, Y_api_Poster), (65, Y_api_Payment), (91, (.int .u64)), (96, .opq), (104, (.arr 5 (.int .u64))), (112, (.sl Y_debtqueue_item)), (114, Y_debtqueue_Queue), (116, .opq), (118, Y_debtqueue_item), (120, (.sl u256)), (143, .opq), (145, .opq), (146, .opq), (148, (.sl (.int .u64)))]
def eqs : List (Nat × Ty) := [(2, (.int .i64)), (3, (.int .i64)), (4, .bool), (5, (.int .u8)), (6, (.int .u8)), (7, Y_runtime_boundsError), (8, Y_runtime_boundsError), (23, (.int .u64)), (24, (.arr 8 (.int .u64))), (27, u256), (29, Y_api_Params), (32, Y_api_Int256), (37, (.int .u64)), (38, (.int .i64)), (42, Y_api_Report), (44, Y_pontagelaw21_Call), (63, Y_api_Poster), (65, Y_api_Payment), (91, (.int .u64)), (96, .opq), (104, (.arr 5 (.int .u64))), (116, .opq), (118, Y_debtqueue_item), (143, .opq), (145, .opq), (146, .opq)]
theorem tysOk : tys.all (fun x => tiB Try.prog x.1 x.2) = true := by kernel_rfl
theorem eqsOk : eqs.all (fun x => eqiB Try.prog x.1 x.2) = true := by kernel_rfl
theorem follows : Try.prog.follows .mixedOrders = true := by kernel_rfl
theorem noOddP : noOdd Try.prog := noOdd_of (by kernel_rfl)
def owns : List Nat := [112, 114]
def meths : List (Nat × String × FuncId × Option Nat) := [(116, "Len", 104, some 112), (116, "Less", 105, some 112), (116, "Pop", 107, none), (116, "Push", 108, none), (116, "Swap", 106, some 112)]
theorem methsOk : meths.all (fun x => methB Try.prog x.1 x.2.1 x.2.2.1 x.2.2.2) = true := by kernel_rfl
noncomputable def uint256_FromUint64C : Con := ⟨⟨[.pl (.int .u64)], []⟩, ⟨[.pl u256], []⟩, uint256_FromUint64⟩
noncomputable def env22 : Env := mkEnv Try.prog tys eqs [] owns meths
def ann22 : Anns := fun _ _ => none
theorem ev22 : ∀ x, evalFn env22 ann22 22 ⟨[.pl (.int .u64)], []⟩ ⟨[.pl u256], []⟩ 60 K0 x = uint256_FromUint64 x := by intro x; kernel_rfl
theorem ok22 : ConOk Try.prog 22 uint256_FromUint64C := con_of_ev (E := env22) (envOk tysOk eqsOk (show HowsOk Try.prog [] from trivial) follows methsOk) noOddP fun x _ h => ⟨ann22, 60, K0, (ev22 x).trans h⟩
noncomputable def pricer_GenesisC : Con := ⟨⟨[], []⟩, ⟨[.pl Y_api_Pricer], []⟩, pricer_Genesis⟩
noncomputable def env9 : Env := mkEnv Try.prog tys eqs [(22, .con uint256_FromUint64C)] owns meths
def ann9 : Anns := fun _ _ => none
theorem ev9 : ∀ x, evalFn env9 ann9 9 ⟨[], []⟩ ⟨[.pl Y_api_Pricer], []⟩ 60 K0 x = pricer_Genesis x := by intro x; kernel_rfl
theorem ok9 : ConOk Try.prog 9 pricer_GenesisC := con_of_ev (E := env9) (envOk tysOk eqsOk (show HowsOk Try.prog [(22, .con uint256_FromUint64C)] from (And.intro ok22 trivial)) follows methsOk) noOddP fun x _ h => ⟨ann9, 60, K0, (ev9 x).trans h⟩
noncomputable def poster_isZeroC : Con := ⟨⟨[.pl u256], []⟩, ⟨[.pl .bool], []⟩, poster_isZero⟩
noncomputable def env46 : Env := mkEnv Try.prog tys eqs [] owns meths
def ann46 : Anns := fun _ _ => none
theorem ev46 : ∀ x, evalFn env46 ann46 46 ⟨[.pl u256], []⟩ ⟨[.pl .bool], []⟩ 60 K0 x = poster_isZero x := by intro x; kernel_rfl
theorem ok46 : ConOk Try.prog 46 poster_isZeroC := con_of_ev (E := env46) (envOk tysOk eqsOk (show HowsOk Try.prog [] from trivial) follows methsOk) noOddP fun x _ h => ⟨ann46, 60, K0, (ev46 x).trans h⟩
theorem ok35 : ConOk Try.prog 35 add64C := add64_ok (fn := Try.f35) (by kernel_rfl) (by kernel_rfl) (by kernel_rfl) (by kernel_rfl) (by kernel_rfl)
noncomputable def poster_sumC : Con := ⟨⟨[.pl u256, .pl u256], []⟩, ⟨[.pl (.arr 5 (.int .u64))], []⟩, poster_sum⟩
noncomputable def env54 : Env := mkEnv Try.prog tys eqs [(35, .con add64C)] owns meths
def ann54 : Anns := fun p c => match p, c with | [54], 0 => some (.tmpl ⟨[.dead, .dead, .ptr 0 [], .ptr 1 [], .ptr 2 [], .ptr 3 [], .pl (.int .u64), .dead, .pl (.int .i64), .dead, .dead, .dead, .dead, .dead, .dead, .dead, .dead, .dead, .dead, .dead, .dead, .dead, .dead, .dead, .dead, .dead, .dead, .dead], [.box u256 (.pl u256), .box u256 (.pl u256), .box (.arr 5 (.int .u64)) (.pl (.arr 5 (.int .u64))), .box (.arr 5 (.int .u64)) (.pl (.arr 5 (.int .u64)))]⟩) | _, _ => none
theorem ev54 : ∀ x, evalFn env54 ann54 54 ⟨[.pl u256, .pl u256], []⟩ ⟨[.pl (.arr 5 (.int .u64))], []⟩ 60 K0 x = poster_sum x := by intro x; kernel_rfl
theorem ok54 : ConOk Try.prog 54 poster_sumC := con_of_ev (E := env54) (envOk tysOk eqsOk (show HowsOk Try.prog [(35, .con add64C)] from (And.intro ok35 trivial)) follows methsOk) noOddP fun x _ h => ⟨ann54, 60, K0, (ev54 x).trans h⟩
noncomputable def poster_ValidC : Con := ⟨⟨[.pl (.sl Y_api_Poster)], []⟩, ⟨[.pl .bool], []⟩, poster_Valid⟩
noncomputable def env33 : Env := mkEnv Try.prog tys eqs [(46, .con poster_isZeroC), (54, .con poster_sumC)] owns meths
def ann33 : Anns := fun p c => match p, c with | [1000000, 33], 7 => some (.join ⟨[.pl (.sl Y_api_Poster), .dead, .dead, .dead, .ptr 0 [], .pl (.sl Y_api_Poster), .pl (.int .i64), .pl (.int .i64), .dead, .dead, .dead, .dead, .dead, .dead, .dead, .dead, .pl (.int .i64), .pl .bool, .pl .bool, .dead, .dead, .dead, .dead, .dead, .dead, .dead, .dead, .dead, .pl .bool, .dead, .dead, .dead, .dead, .dead, .dead, .dead, .dead, .dead, .dead, .dead, .dead, .dead, .dead, .dead, .dead, .dead, .dead, .dead, .dead, .dead, .dead, .dead, .dead, .dead], [.box Y_api_Poster (.pl Y_api_Poster)]⟩) | [33], 0 => some (.tmpl ⟨[.pl (.sl Y_api_Poster), .dead, .dead, .dead, .dead, .pl (.sl Y_api_Poster), .pl (.int .i64), .pl (.int .i64), .dead, .dead, .dead, .dead, .dead, .dead, .dead, .dead, .dead, .dead, .dead, .dead, .dead, .dead, .dead, .dead, .dead, .dead, .dead, .dead, .dead, .dead, .dead, .dead, .dead, .dead, .dead, .dead, .dead, .dead, .dead, .dead, .dead, .dead, .dead, .dead, .dead, .dead, .dead, .dead, .dead, .dead, .dead, .dead, .dead, .dead], []⟩) | _, _ => none
theorem ev33 : ∀ x, evalFn env33 ann33 33 ⟨[.pl (.sl Y_api_Poster)], []⟩ ⟨[.pl .bool], []⟩ 60 K0 x = poster_Valid x := by intro x; kernel_rfl
theorem ok33 : ConOk Try.prog 33 poster_ValidC := con_of_ev (E := env33) (envOk tysOk eqsOk (show HowsOk Try.prog [(46, .con poster_isZeroC), (54, .con poster_sumC)] from (And.intro ok46 (And.intro ok54 trivial))) follows methsOk) noOddP fun x _ h => ⟨ann33, 60, K0, (ev33 x).trans h⟩
noncomputable def int256_ValidC : Con := ⟨⟨[.pl Y_api_Int256], []⟩, ⟨[.pl .bool], []⟩, int256_Valid⟩
noncomputable def env41 : Env := mkEnv Try.prog tys eqs [] owns meths
def ann41 : Anns := fun _ _ => none
theorem ev41 : ∀ x, evalFn env41 ann41 41 ⟨[.pl Y_api_Int256], []⟩ ⟨[.pl .bool], []⟩ 60 K0 x = int256_Valid x := by intro x; kernel_rfl
theorem ok41 : ConOk Try.prog 41 int256_ValidC := con_of_ev (E := env41) (envOk tysOk eqsOk (show HowsOk Try.prog [] from trivial) follows methsOk) noOddP fun x _ h => ⟨ann41, 60, K0, (ev41 x).trans h⟩
noncomputable def pricer_ValidC : Con := ⟨⟨[.pl Y_api_Pricer], []⟩, ⟨[.pl .bool], []⟩, pricer_Valid⟩
noncomputable def env23 : Env := mkEnv Try.prog tys eqs [(33, .con poster_ValidC), (41, .con int256_ValidC)] owns meths
def ann23 : Anns := fun p c => match p, c with | [23], 0 => some (.tmpl ⟨[.dead, .ptr 0 [], .dead, .dead, .dead, .dead, .pl (.sl Y_api_Poster), .pl (.int .i64), .pl (.int .i64), .dead, .dead, .dead, .dead, .dead, .dead, .dead, .dead, .dead, .dead, .dead, .dead, .dead, .dead, .dead, .dead, .dead], [.box Y_api_Pricer (.pl Y_api_Pricer)]⟩) | _, _ => none
theorem ev23 : ∀ x, evalFn env23 ann23 23 ⟨[.pl Y_api_Pricer], []⟩ ⟨[.pl .bool], []⟩ 60 K0 x = pricer_Valid x := by intro x; kernel_rfl
theorem ok23 : ConOk Try.prog 23 pricer_ValidC := con_of_ev (E := env23) (envOk tysOk eqsOk (show HowsOk Try.prog [(33, .con poster_ValidC), (41, .con int256_ValidC)] from (And.intro ok33 (And.intro ok41 trivial))) follows methsOk) noOddP fun x _ h => ⟨ann23, 60, K0, (ev23 x).trans h⟩
noncomputable def poster_FindC : Con := ⟨⟨[.pl (.sl Y_api_Poster), .pl (.int .u64)], []⟩, ⟨[.pl (.int .i64)], []⟩, poster_Find⟩
noncomputable def env20 : Env := mkEnv Try.prog tys eqs [(38, .inl), (39, .inl)] owns meths
def ann20 : Anns := fun p c => match p, c with | [38, 1, 2, 20], 0 => some (.tmpl ⟨[.pl (.sl Y_api_Poster), (.clo 39 ((.pair (.ptr 0 []) (.pl .nil)))), .dead, .dead, .dead, .dead, .dead, .pl (.int .i64), .pl (.int .i64), .dead, .dead, .dead, .dead, .dead, .dead, .dead, .dead, .dead, .dead, .dead, .dead, .dead, .dead, .dead, .dead, .dead, .dead], [.box (.int .u64) (.pl (.int .u64))]⟩) | _, _ => none
theorem ev20 : ∀ x, evalFn env20 ann20 20 ⟨[.pl (.sl Y_api_Poster), .pl (.int .u64)], []⟩ ⟨[.pl (.int .i64)], []⟩ 90 K0 x = poster_Find x := by intro x; kernel_rfl
theorem ok20 : ConOk Try.prog 20 poster_FindC := con_of_ev (E := env20) (envOk tysOk eqsOk (show HowsOk Try.prog [(38, .inl), (39, .inl)] from trivial) follows methsOk) noOddP fun x _ h => ⟨ann20, 90, K0, (ev20 x).trans h⟩
theorem ok42 : ConOk Try.prog 42 insertC := insert_ok noOddP
noncomputable def slices_Clone___api_Poster_api_Poster_C : Con := ⟨⟨[.pl (.sl Y_api_Poster)], []⟩, ⟨[.whole 0], [.row Y_api_Poster]⟩, slices_Clone___api_Poster_api_Poster_⟩
noncomputable def env43 : Env := mkEnv Try.prog tys eqs [] owns meths
def ann43 : Anns := fun _ _ => none
theorem ev43 : ∀ x, evalFn env43 ann43 43 ⟨[.pl (.sl Y_api_Poster)], []⟩ ⟨[.whole 0], [.row Y_api_Poster]⟩ 60 K0 x = slices_Clone___api_Poster_api_Poster_ x := by intro x; kernel_rfl
theorem ok43 : ConOk Try.prog 43 slices_Clone___api_Poster_api_Poster_C := con_of_ev (E := env43) (envOk tysOk eqsOk (show HowsOk Try.prog [] from trivial) follows methsOk) noOddP fun x _ h => ⟨ann43, 60, K0, (ev43 x).trans h⟩
noncomputable def poster_AddC : Con := ⟨⟨[.pl (.sl Y_api_Poster), .pl (.int .u64)], []⟩, ⟨[.pl (.sl Y_api_Poster), .pl (.int .i64)], []⟩, poster_Add⟩
noncomputable def env24 : Env := mkEnv Try.prog tys eqs [(20, .con poster_FindC), (33, .con poster_ValidC), (42, .con insertC), (43, .con slices_Clone___api_Poster_api_Poster_C)] owns meths
def ann24 : Anns := fun p c => match p, c with | [1000000, 24], 11 => some (.join ⟨[.pl (.sl Y_api_Poster), .pl (.int .u64), .dead, .dead, .dead, .dead, .pl (.int .i64), .dead, .dead, .dead, .dead, .dead, .dead, .dead, .dead, .dead, .dead, .dead, .dead, .dead, .dead, .dead, .dead, .dead, .dead, .dead, .dead, .dead, .dead, .dead, .dead, .dead, .dead, .dead, .dead, .dead, .dead, .dead, .dead, .dead, .dead, .dead, .dead, .dead, .dead, .dead], []⟩) | [1000000, 24], 3 => some (.join ⟨[.pl (.sl Y_api_Poster), .pl (.int .u64), .dead, .dead, .dead, .dead, .dead, .pl .bool, .dead, .dead, .dead, .dead, .dead, .dead, .dead, .dead, .dead, .dead, .dead, .dead, .dead, .dead, .dead, .dead, .dead, .dead, .dead, .dead, .dead, .dead, .dead, .dead, .dead, .dead, .dead, .dead, .dead, .dead, .dead, .dead, .dead, .dead, .dead, .dead, .dead, .dead], []⟩) | [1000000, 24], 8 => some (.join ⟨[.pl (.sl Y_api_Poster), .pl (.int .u64), .dead, .dead, .dead, .dead, .dead, .dead, .dead, .dead, .dead, .dead, .dead, .dead, .dead, .dead, .dead, .dead, .dead, .dead, .dead, .dead, .dead, .dead, .dead, .dead, .dead, .dead, .dead, .dead, .dead, .dead, .dead, .dead, .dead, .dead, .dead, .dead, .dead, .dead, .dead, .dead, .dead, .dead, .dead, .dead], []⟩) | [24], 1 => some (.tmpl ⟨[.pl (.sl Y_api_Poster), .pl (.int .u64), .dead, .dead, .dead, .dead, .pl (.int .i64), .dead, .dead, .dead, .dead, .dead, .dead, .dead, .dead, .dead, .dead, .dead, .dead, .dead, .dead, .dead, .dead, .dead, .dead, .dead, .dead, .dead, .dead, .dead, .dead, .dead, .dead, .dead, .dead, .dead, .dead, .dead, .dead, .dead, .dead, .dead, .dead, .dead, .dead, .dead], []⟩) | _, _ => none
theorem ev24 : ∀ x, evalFn env24 ann24 24 ⟨[.pl (.sl Y_api_Poster), .pl (.int .u64)], []⟩ ⟨[.pl (.sl Y_api_Poster), .pl (.int .i64)], []⟩ 60 K0 x = poster_Add x := by intro x; kernel_rfl
theorem ok24 : ConOk Try.prog 24 poster_AddC := con_of_ev (E := env24) (envOk tysOk eqsOk (show HowsOk Try.prog [(20, .con poster_FindC), (33, .con poster_ValidC), (42, .con insertC), (43, .con slices_Clone___api_Poster_api_Poster_C)] from (And.intro ok20 (And.intro ok33 (And.intro ok42 (And.intro ok43 trivial))))) follows methsOk) noOddP fun x _ h => ⟨ann24, 60, K0, (ev24 x).trans h⟩
noncomputable def pricer_AddPosterC : Con := ⟨⟨[.pl Y_api_Pricer, .pl (.int .u64)], []⟩, ⟨[.pl Y_api_Pricer, .pl (.int .i64)], []⟩, pricer_AddPoster⟩
noncomputable def env10 : Env := mkEnv Try.prog tys eqs [(23, .con pricer_ValidC), (24, .con poster_AddC)] owns meths
def ann10 : Anns := fun _ _ => none
theorem ev10 : ∀ x, evalFn env10 ann10 10 ⟨[.pl Y_api_Pricer, .pl (.int .u64)], []⟩ ⟨[.pl Y_api_Pricer, .pl (.int .i64)], []⟩ 60 K0 x = pricer_AddPoster x := by intro x; kernel_rfl
theorem ok10 : ConOk Try.prog 10 pricer_AddPosterC := con_of_ev (E := env10) (envOk tysOk eqsOk (show HowsOk Try.prog [(23, .con pricer_ValidC), (24, .con poster_AddC)] from (And.intro ok23 (And.intro ok24 trivial))) follows methsOk) noOddP fun x _ h => ⟨ann10, 60, K0, (ev10 x).trans h⟩
noncomputable def math_bits_Len64C : Con := ⟨⟨[.pl (.int .u64)], []⟩, ⟨[.pl (.int .i64)], []⟩, math_bits_Len64⟩
noncomputable def env34 : Env := mkEnv Try.prog tys eqs [] owns meths
def ann34 : Anns := fun p c => match p, c with | [1000000, 34], 5 => some (.join ⟨[.pl (.int .u64), .dead, .pl (.int .i64), .dead, .dead, .dead, .dead, .dead, .dead, .dead, .dead, .dead, .dead, .dead, .dead, .dead, .dead, .dead, .dead, .dead, .dead, .dead, .dead, .dead, .dead], []⟩) | [1000000, 34], 8 => some (.join ⟨[.pl (.int .u64), .dead, .pl (.int .i64), .dead, .dead, .dead, .dead, .dead, .dead, .dead, .dead, .dead, .dead, .dead, .dead, .dead, .dead, .dead, .dead, .dead, .dead, .dead, .dead, .dead, .dead], []⟩) | _, _ => none
theorem ev34 : ∀ x, evalFn env34 ann34 34 ⟨[.pl (.int .u64)], []⟩ ⟨[.pl (.int .i64)], []⟩ 60 K0 x = math_bits_Len64 x := by intro x; kernel_rfl
theorem ok34 : ConOk Try.prog 34 math_bits_Len64C := con_of_ev (E := env34) (envOk tysOk eqsOk (show HowsOk Try.prog [] from trivial) follows methsOk) noOddP fun x _ h => ⟨ann34, 60, K0, (ev34 x).trans h⟩
noncomputable def uint256_BitLenC : Con := ⟨⟨[.pl u256], []⟩, ⟨[.pl (.int .i64)], []⟩, uint256_BitLen⟩
noncomputable def env17 : Env := mkEnv Try.prog tys eqs [(34, .con math_bits_Len64C)] owns meths
def ann17 : Anns := fun p c => match p, c with | [17], 0 => some (.tmpl ⟨[.dead, .ptr 0 [], .dead, .pl (.int .i64), .dead, .dead, .dead, .dead, .dead, .dead, .dead, .dead, .dead, .dead, .dead, .dead, .dead, .dead, .dead], [.box u256 (.pl u256)]⟩) | _, _ => none
theorem ev17 : ∀ x, evalFn env17 ann17 17 ⟨[.pl u256], []⟩ ⟨[.pl (.int .i64)], []⟩ 60 K0 x = uint256_BitLen x := by intro x; kernel_rfl
theorem ok17 : ConOk Try.prog 17 uint256_BitLenC := con_of_ev (E := env17) (envOk tysOk eqsOk (show HowsOk Try.prog [(34, .con math_bits_Len64C)] from (And.intro ok34 trivial)) follows methsOk) noOddP fun x _ h => ⟨ann17, 60, K0, (ev17 x).trans h⟩
noncomputable def uint256_CmpC : Con := ⟨⟨[.pl u256, .pl u256], []⟩, ⟨[.pl (.int .i64)], []⟩, uint256_Cmp⟩
noncomputable def env15 : Env := mkEnv Try.prog tys eqs [] owns meths
def ann15 : Anns := fun p _ => match p with | 1000000 :: _ => none | _ => some (.unroll 6)
theorem ev15 : ∀ x, evalFn env15 ann15 15 ⟨[.pl u256, .pl u256], []⟩ ⟨[.pl (.int .i64)], []⟩ 60 K0 x = uint256_Cmp x := by intro x; kernel_rfl
theorem ok15 : ConOk Try.prog 15 uint256_CmpC := con_of_ev (E := env15) (envOk tysOk eqsOk (show HowsOk Try.prog [] from trivial) follows methsOk) noOddP fun x _ h => ⟨ann15, 60, K0, (ev15 x).trans h⟩
noncomputable def params_GetC : Con := ⟨⟨[.pl Y_api_Params, .pl (.int .i64)], []⟩, ⟨[.pl u256, .pl (.int .i64)], []⟩, params_Get⟩
noncomputable def env68 : Env := mkEnv Try.prog tys eqs [(22, .con uint256_FromUint64C), (82, .inl), (83, .inl)] owns meths
def ann68 : Anns := fun _ _ => none
theorem ev68 : ∀ x, evalFn env68 ann68 68 ⟨[.pl Y_api_Params, .pl (.int .i64)], []⟩ ⟨[.pl u256, .pl (.int .i64)], []⟩ 90 K0 x = params_Get x := by intro x; kernel_rfl
theorem ok68 : ConOk Try.prog 68 params_GetC := con_of_ev (E := env68) (envOk tysOk eqsOk (show HowsOk Try.prog [(22, .con uint256_FromUint64C), (82, .inl), (83, .inl)] from (And.intro ok22 trivial)) follows methsOk) noOddP fun x _ h => ⟨ann68, 90, K0, (ev68 x).trans h⟩
noncomputable def params_boundsC : Con := ⟨⟨[.pl Y_api_Params, .pl (.int .i64)], []⟩, ⟨[.pl (.int .u64), .pl (.int .u64)], []⟩, params_bounds⟩
noncomputable def env69 : Env := mkEnv Try.prog tys eqs [] owns meths
def ann69 : Anns := fun p c => match p, c with | [1000000, 69], 12 => some (.join ⟨[.dead, .dead, .ptr 0 [], .dead, .dead, .dead, .pl (.int .i64), .dead, .dead, .dead, .dead, .dead, .dead, .dead, .pl .bool, .dead, .dead, .dead, .dead, .dead, .dead, .dead, .dead, .dead, .dead], [.box Y_api_Params (.pl Y_api_Params)]⟩) | [1000000, 69], 6 => some (.join ⟨[.dead, .dead, .ptr 0 [], .dead, .dead, .dead, .pl (.int .i64), .pl .bool, .dead, .dead, .dead, .dead, .dead, .dead, .dead, .dead, .dead, .dead, .dead, .dead, .dead, .dead, .dead, .dead, .dead], [.box Y_api_Params (.pl Y_api_Params)]⟩) | [1000000, 69], 9 => some (.join ⟨[.dead, .dead, .ptr 0 [], .dead, .dead, .dead, .pl (.int .i64), .dead, .dead, .dead, .dead, .pl .bool, .dead, .dead, .dead, .dead, .dead, .dead, .dead, .dead, .dead, .dead, .dead, .dead, .dead], [.box Y_api_Params (.pl Y_api_Params)]⟩) | _, _ => none
theorem ev69 : ∀ x, evalFn env69 ann69 69 ⟨[.pl Y_api_Params, .pl (.int .i64)], []⟩ ⟨[.pl (.int .u64), .pl (.int .u64)], []⟩ 60 K0 x = params_bounds x := by intro x; kernel_rfl
theorem ok69 : ConOk Try.prog 69 params_boundsC := con_of_ev (E := env69) (envOk tysOk eqsOk (show HowsOk Try.prog [] from trivial) follows methsOk) noOddP fun x _ h => ⟨ann69, 60, K0, (ev69 x).trans h⟩
noncomputable def params_FirstInvalidC : Con := ⟨⟨[.pl Y_api_Params], []⟩, ⟨[.pl (.int .i64)], []⟩, params_FirstInvalid⟩
noncomputable def env58 : Env := mkEnv Try.prog tys eqs [(15, .con uint256_CmpC), (22, .con uint256_FromUint64C), (68, .con params_GetC), (69, .con params_boundsC)] owns meths
def ann58 : Anns := fun p c => match p, c with | [58], 0 => some (.tmpl ⟨[.dead, .ptr 0 [], .dead, .pl (.int .i64), .dead, .dead, .dead, .dead, .dead, .dead, .dead, .dead, .dead, .dead, .dead, .dead, .dead, .dead, .dead, .dead, .dead, .dead, .dead, .dead, .dead, .dead, .dead, .dead, .dead, .dead, .dead, .dead, .dead, .dead, .dead, .dead, .dead], [.box Y_api_Params (.pl Y_api_Params)]⟩) | _, _ => none
theorem ev58 : ∀ x, evalFn env58 ann58 58 ⟨[.pl Y_api_Params], []⟩ ⟨[.pl (.int .i64)], []⟩ 60 K0 x = params_FirstInvalid x := by intro x; kernel_rfl
theorem ok58 : ConOk Try.prog 58 params_FirstInvalidC := con_of_ev (E := env58) (envOk tysOk eqsOk (show HowsOk Try.prog [(15, .con uint256_CmpC), (22, .con uint256_FromUint64C), (68, .con params_GetC), (69, .con params_boundsC)] from (And.intro ok15 (And.intro ok22 (And.intro ok68 (And.intro ok69 trivial))))) follows methsOk) noOddP fun x _ h => ⟨ann58, 60, K0, (ev58 x).trans h⟩
noncomputable def params_ValidC : Con := ⟨⟨[.pl Y_api_Params], []⟩, ⟨[.pl .bool], []⟩, params_Valid⟩
noncomputable def env44 : Env := mkEnv Try.prog tys eqs [(58, .con params_FirstInvalidC)] owns meths
def ann44 : Anns := fun _ _ => none
theorem ev44 : ∀ x, evalFn env44 ann44 44 ⟨[.pl Y_api_Params], []⟩ ⟨[.pl .bool], []⟩ 60 K0 x = params_Valid x := by intro x; kernel_rfl
theorem ok44 : ConOk Try.prog 44 params_ValidC := con_of_ev (E := env44) (envOk tysOk eqsOk (show HowsOk Try.prog [(58, .con params_FirstInvalidC)] from (And.intro ok58 trivial)) follows methsOk) noOddP fun x _ h => ⟨ann44, 60, K0, (ev44 x).trans h⟩
noncomputable def pricer_checkReportC : Con := ⟨⟨[.pl Y_api_Pricer, .pl Y_api_Params, .pl Y_api_Report, .pl (.int .u64)], []⟩, ⟨[.pl (.int .i64)], []⟩, pricer_checkReport⟩
noncomputable def env26 : Env := mkEnv Try.prog tys eqs [(17, .con uint256_BitLenC), (20, .con poster_FindC), (23, .con pricer_ValidC), (44, .con params_ValidC)] owns meths
def ann26 : Anns := fun p c => match p, c with | [1000000, 26], 9 => some (.join ⟨[.dead, .dead, .dead, .dead, .ptr 0 [], .dead, .ptr 1 [], .dead, .dead, .dead, .dead, .dead, .dead, .dead, .dead, .dead, .dead, .dead, .dead, .dead, .dead, .dead, .dead, .dead, .pl .bool, .dead, .dead, .dead, .dead, .dead, .dead, .dead, .dead, .dead, .dead, .dead, .dead, .dead, .dead, .dead, .dead, .dead, .dead, .dead, .dead], [.box Y_api_Pricer (.pl Y_api_Pricer), .box Y_api_Report (.pl Y_api_Report)]⟩) | _, _ => none
theorem ev26 : ∀ x, evalFn env26 ann26 26 ⟨[.pl Y_api_Pricer, .pl Y_api_Params, .pl Y_api_Report, .pl (.int .u64)], []⟩ ⟨[.pl (.int .i64)], []⟩ 60 K0 x = pricer_checkReport x := by intro x; kernel_rfl
theorem ok26 : ConOk Try.prog 26 pricer_checkReportC := con_of_ev (E := env26) (envOk tysOk eqsOk (show HowsOk Try.prog [(17, .con uint256_BitLenC), (20, .con poster_FindC), (23, .con pricer_ValidC), (44, .con params_ValidC)] from (And.intro ok17 (And.intro ok20 (And.intro ok23 (And.intro ok44 trivial))))) follows methsOk) noOddP fun x _ h => ⟨ann26, 60, K0, (ev26 x).trans h⟩
noncomputable def math_bits_Mul64C : Con := ⟨⟨[.pl (.int .u64), .pl (.int .u64)], []⟩, ⟨[.pl (.int .u64), .pl (.int .u64)], []⟩, math_bits_Mul64⟩
noncomputable def env55 : Env := mkEnv Try.prog tys eqs [] owns meths
def ann55 : Anns := fun _ _ => none
theorem ev55 : ∀ x, evalFn env55 ann55 55 ⟨[.pl (.int .u64), .pl (.int .u64)], []⟩ ⟨[.pl (.int .u64), .pl (.int .u64)], []⟩ 60 K0 x = math_bits_Mul64 x := by intro x; kernel_rfl
theorem ok55 : ConOk Try.prog 55 math_bits_Mul64C := con_of_ev (E := env55) (envOk tysOk eqsOk (show HowsOk Try.prog [] from trivial) follows methsOk) noOddP fun x _ h => ⟨ann55, 60, K0, (ev55 x).trans h⟩
noncomputable def uint256_MulC : Con := ⟨⟨[.pl u256, .pl u256], []⟩, ⟨[.pl u256, .pl (.int .i64)], []⟩, uint256_Mul⟩
noncomputable def env40 : Env := mkEnv Try.prog tys eqs [(35, .con add64C), (55, .con math_bits_Mul64C)] owns meths
def ann40 : Anns := fun p c => match p, c with | [40], 0 => some (.tmpl ⟨[.dead, .dead, .ptr 0 [], .ptr 1 [], .ptr 2 [], .dead, .ptr 3 [], .dead, .dead, .dead, .dead, .dead, .dead, .pl (.int .i64), .dead, .dead, .dead, .dead, .dead, .dead, .dead, .dead, .dead, .dead, .dead, .dead, .dead, .dead, .dead, .dead, .dead, .dead, .dead, .dead, .dead, .dead, .dead, .dead, .dead, .dead, .dead, .dead, .dead, .dead, .dead, .dead, .dead, .dead, .dead, .dead, .dead, .dead, .dead, .dead, .dead, .dead, .dead, .dead, .dead, .dead, .dead, .dead, .dead, .dead, .dead, .dead, .dead, .dead, .dead, .dead], [.box u256 (.pl u256), .box u256 (.pl u256), .box u256 (.pl u256), .box u256 (.pl u256)]⟩) | [40], 2 => some (.tmpl ⟨[.dead, .dead, .ptr 0 [], .ptr 1 [], .ptr 2 [], .dead, .ptr 3 [], .pl (.int .i64), .pl (.int .u64), .dead, .dead, .dead, .dead, .pl (.int .i64), .dead, .dead, .pl (.int .i64), .dead, .dead, .dead, .dead, .dead, .dead, .dead, .dead, .dead, .dead, .dead, .dead, .dead, .dead, .dead, .dead, .dead, .dead, .dead, .dead, .dead, .dead, .dead, .dead, .dead, .dead, .dead, .dead, .dead, .dead, .dead, .dead, .dead, .dead, .dead, .dead, .dead, .dead, .dead, .dead, .dead, .dead, .dead, .dead, .dead, .dead, .dead, .dead, .dead, .dead, .dead, .dead, .dead], [.box u256 (.pl u256), .box u256 (.pl u256), .box u256 (.pl u256), .box u256 (.pl u256)]⟩) | _, _ => none
theorem ev40 : ∀ x, evalFn env40 ann40 40 ⟨[.pl u256, .pl u256], []⟩ ⟨[.pl u256, .pl (.int .i64)], []⟩ 60 K0 x = uint256_Mul x := by intro x; kernel_rfl
theorem ok40 : ConOk Try.prog 40 uint256_MulC := con_of_ev (E := env40) (envOk tysOk eqsOk (show HowsOk Try.prog [(35, .con add64C), (55, .con math_bits_Mul64C)] from (And.intro ok35 (And.intro ok55 trivial))) follows methsOk) noOddP fun x _ h => ⟨ann40, 60, K0, (ev40 x).trans h⟩
noncomputable def muldiv_MulC : Con := ⟨⟨[.pl u256, .pl u256], []⟩, ⟨[.pl u256, .pl u256], []⟩, muldiv_Mul⟩
noncomputable def env70 : Env := mkEnv Try.prog tys eqs [(35, .con add64C), (55, .con math_bits_Mul64C)] owns meths
def ann70 : Anns := fun p c => match p, c with | [70], 0 => some (.tmpl ⟨[.dead, .dead, .ptr 0 [], .ptr 1 [], .ptr 2 [], .ptr 3 [], .ptr 4 [], .dead, .dead, .dead, .dead, .dead, .dead, .pl (.int .i64), .dead, .dead, .dead, .dead, .dead, .dead, .dead, .dead, .dead, .dead, .dead, .dead, .dead, .dead, .dead, .dead, .dead, .dead, .dead, .dead, .dead, .dead, .dead, .dead, .dead, .dead, .dead, .dead, .dead, .dead, .dead, .dead, .dead, .dead, .dead, .dead, .dead, .dead, .dead, .dead, .dead, .dead, .dead, .dead, .dead, .dead, .dead, .dead, .dead, .dead, .dead, .dead, .dead, .dead, .dead], [.box u256 (.pl u256), .box u256 (.pl u256), .box u256 (.pl u256), .box u256 (.pl u256), .box (.arr 8 (.int .u64)) (.pl (.arr 8 (.int .u64)))]⟩) | [70], 2 => some (.tmpl ⟨[.dead, .dead, .ptr 0 [], .ptr 1 [], .ptr 2 [], .ptr 3 [], .ptr 4 [], .pl (.int .i64), .pl (.int .u64), .dead, .dead, .dead, .dead, .pl (.int .i64), .dead, .dead, .pl (.int .i64), .dead, .dead, .dead, .dead, .dead, .dead, .dead, .dead, .dead, .dead, .dead, .dead, .dead, .dead, .dead, .dead, .dead, .dead, .dead, .dead, .dead, .dead, .dead, .dead, .dead, .dead, .dead, .dead, .dead, .dead, .dead, .dead, .dead, .dead, .dead, .dead, .dead, .dead, .dead, .dead, .dead, .dead, .dead, .dead, .dead, .dead, .dead, .dead, .dead, .dead, .dead, .dead], [.box u256 (.pl u256), .box u256 (.pl u256), .box u256 (.pl u256), .box u256 (.pl u256), .box (.arr 8 (.int .u64)) (.pl (.arr 8 (.int .u64)))]⟩) | _, _ => none
theorem ev70 : ∀ x, evalFn env70 ann70 70 ⟨[.pl u256, .pl u256], []⟩ ⟨[.pl u256, .pl u256], []⟩ 60 K0 x = muldiv_Mul x := by intro x; kernel_rfl
theorem ok70 : ConOk Try.prog 70 muldiv_MulC := con_of_ev (E := env70) (envOk tysOk eqsOk (show HowsOk Try.prog [(35, .con add64C), (55, .con math_bits_Mul64C)] from (And.intro ok35 (And.intro ok55 trivial))) follows methsOk) noOddP fun x _ h => ⟨ann70, 60, K0, (ev70 x).trans h⟩
noncomputable def muldiv_shiftLeftC : Con := ⟨⟨[.pl u256, .pl (.int .u64)], []⟩, ⟨[.pl u256, .pl (.int .u64)], []⟩, muldiv_shiftLeft⟩
noncomputable def env84 : Env := mkEnv Try.prog tys eqs [] owns meths
def ann84 : Anns := fun p c => match p, c with | [84], 0 => some (.tmpl ⟨[.dead, .pl (.int .u64), .ptr 0 [], .dead, .ptr 1 [], .dead, .pl (.int .u64), .pl (.int .i64), .dead, .dead, .dead, .dead, .dead, .dead, .dead, .dead, .dead, .dead, .dead, .dead, .dead, .dead, .dead, .dead, .dead, .dead, .dead, .dead, .dead, .dead, .dead, .dead, .dead, .dead, .dead], [.box u256 (.pl u256), .box u256 (.pl u256)]⟩) | _, _ => none
theorem ev84 : ∀ x, evalFn env84 ann84 84 ⟨[.pl u256, .pl (.int .u64)], []⟩ ⟨[.pl u256, .pl (.int .u64)], []⟩ 60 K0 x = muldiv_shiftLeft x := by intro x; kernel_rfl
theorem ok84 : ConOk Try.prog 84 muldiv_shiftLeftC := con_of_ev (E := env84) (envOk tysOk eqsOk (show HowsOk Try.prog [] from trivial) follows methsOk) noOddP fun x _ h => ⟨ann84, 60, K0, (ev84 x).trans h⟩
theorem ok75 : ConOk Try.prog 75 sub64C := sub64_ok (fn := Try.f75) (by kernel_rfl) (by kernel_rfl) (by kernel_rfl) (by kernel_rfl) (by kernel_rfl)
noncomputable def muldiv_subWrapC : Con := ⟨⟨[.pl u256, .pl u256], []⟩, ⟨[.pl u256], []⟩, muldiv_subWrap⟩
noncomputable def env85 : Env := mkEnv Try.prog tys eqs [(75, .con sub64C)] owns meths
def ann85 : Anns := fun p c => match p, c with | [85], 0 => some (.tmpl ⟨[.dead, .dead, .ptr 0 [], .ptr 1 [], .ptr 2 [], .pl (.int .u64), .dead, .pl (.int .i64), .dead, .dead, .dead, .dead, .dead, .dead, .dead, .dead, .dead, .dead, .dead, .dead, .dead, .dead, .dead, .dead, .dead], [.box u256 (.pl u256), .box u256 (.pl u256), .box u256 (.pl u256)]⟩) | _, _ => none
theorem ev85 : ∀ x, evalFn env85 ann85 85 ⟨[.pl u256, .pl u256], []⟩ ⟨[.pl u256], []⟩ 60 K0 x = muldiv_subWrap x := by intro x; kernel_rfl
theorem ok85 : ConOk Try.prog 85 muldiv_subWrapC := con_of_ev (E := env85) (envOk tysOk eqsOk (show HowsOk Try.prog [(75, .con sub64C)] from (And.intro ok75 trivial)) follows methsOk) noOddP fun x _ h => ⟨ann85, 60, K0, (ev85 x).trans h⟩
noncomputable def muldiv_Div512C : Con := ⟨⟨[.pl u256, .pl u256, .pl u256], []⟩, ⟨[.pl u256, .pl u256, .pl (.int .i64)], []⟩, muldiv_Div512⟩
noncomputable def env71 : Env := mkEnv Try.prog tys eqs [(15, .con uint256_CmpC), (84, .con muldiv_shiftLeftC), (85, .con muldiv_subWrapC)] owns meths
def ann71 : Anns := fun p c => match p, c with | [1000000, 71], 13 => some (.join ⟨[.dead, .dead, .dead, .ptr 0 [], .dead, .ptr 1 [], .ptr 2 [], .ptr 3 [], .dead, .pl (.int .i64), .dead, .dead, .dead, .dead, .dead, .dead, .dead, .dead, .dead, .dead, .dead, .dead, .dead, .dead, .dead, .dead, .dead, .dead, .dead, .dead, .dead, .dead, .dead, .dead, .dead, .dead, .dead, .dead, .dead, .dead, .dead, .dead, .dead, .dead, .dead, .dead, .dead, .pl .bool, .dead, .dead, .dead, .dead, .dead, .dead, .dead, .dead, .dead, .dead, .dead, .dead, .dead, .dead], [.box u256 (.pl u256), .box u256 (.pl u256), .box u256 (.pl u256), .box u256 (.pl u256)]⟩) | [71], 0 => some (.tmpl ⟨[.dead, .dead, .dead, .ptr 0 [], .dead, .ptr 1 [], .ptr 2 [], .ptr 3 [], .dead, .pl (.int .i64), .dead, .dead, .dead, .dead, .dead, .dead, .dead, .dead, .dead, .dead, .dead, .dead, .dead, .dead, .dead, .dead, .dead, .dead, .dead, .dead, .dead, .dead, .dead, .dead, .dead, .dead, .dead, .dead, .dead, .dead, .dead, .dead, .dead, .dead, .dead, .dead, .dead, .dead, .dead, .dead, .dead, .dead, .dead, .dead, .dead, .dead, .dead, .dead, .dead, .dead, .dead, .dead], [.box u256 (.pl u256), .box u256 (.pl u256), .box u256 (.pl u256), .box u256 (.pl u256)]⟩) | _, _ => none
theorem ev71 : ∀ x, evalFn env71 ann71 71 ⟨[.pl u256, .pl u256, .pl u256], []⟩ ⟨[.pl u256, .pl u256, .pl (.int .i64)], []⟩ 60 K0 x = muldiv_Div512 x := by intro x; kernel_rfl
theorem ok71 : ConOk Try.prog 71 muldiv_Div512C := con_of_ev (E := env71) (envOk tysOk eqsOk (show HowsOk Try.prog [(15, .con uint256_CmpC), (84, .con muldiv_shiftLeftC), (85, .con muldiv_subWrapC)] from (And.intro ok15 (And.intro ok84 (And.intro ok85 trivial)))) follows methsOk) noOddP fun x _ h => ⟨ann71, 60, K0, (ev71 x).trans h⟩
noncomputable def muldiv_MulDivFloorC : Con := ⟨⟨[.pl u256, .pl u256, .pl u256], []⟩, ⟨[.pl u256, .pl (.int .i64)], []⟩, muldiv_MulDivFloor⟩
noncomputable def env59 : Env := mkEnv Try.prog tys eqs [(70, .con muldiv_MulC), (71, .con muldiv_Div512C)] owns meths
def ann59 : Anns := fun _ _ => none
theorem ev59 : ∀ x, evalFn env59 ann59 59 ⟨[.pl u256, .pl u256, .pl u256], []⟩ ⟨[.pl u256, .pl (.int .i64)], []⟩ 60 K0 x = muldiv_MulDivFloor x := by intro x; kernel_rfl
theorem ok59 : ConOk Try.prog 59 muldiv_MulDivFloorC := con_of_ev (E := env59) (envOk tysOk eqsOk (show HowsOk Try.prog [(70, .con muldiv_MulC), (71, .con muldiv_Div512C)] from (And.intro ok70 (And.intro ok71 trivial))) follows methsOk) noOddP fun x _ h => ⟨ann59, 60, K0, (ev59 x).trans h⟩
noncomputable def alloc_AllocateC : Con := ⟨⟨[.pl (.int .u64), .pl (.int .u64), .pl (.int .u64), .pl (.int .u64)], []⟩, ⟨[.pl (.int .u64), .pl (.int .i64)], []⟩, alloc_Allocate⟩
noncomputable def env45 : Env := mkEnv Try.prog tys eqs [(22, .con uint256_FromUint64C), (59, .con muldiv_MulDivFloorC)] owns meths
def ann45 : Anns := fun p c => match p, c with | [1000000, 45], 3 => some (.join ⟨[.pl (.int .u64), .pl (.int .u64), .pl (.int .u64), .pl (.int .u64), .dead, .dead, .dead, .dead, .dead, .dead, .dead, .dead, .pl .bool, .dead, .dead, .dead, .dead, .dead, .dead, .dead, .dead, .dead, .dead, .dead, .dead, .dead, .dead, .dead, .dead, .dead, .dead, .dead, .dead, .dead, .dead, .dead, .dead, .dead, .dead, .dead, .dead, .dead, .dead], []⟩) | [1000000, 45], 6 => some (.join ⟨[.pl (.int .u64), .pl (.int .u64), .pl (.int .u64), .pl (.int .u64), .dead, .dead, .dead, .dead, .dead, .dead, .dead, .dead, .dead, .dead, .dead, .dead, .dead, .dead, .dead, .dead, .dead, .dead, .dead, .dead, .dead, .dead, .dead, .dead, .dead, .dead, .dead, .dead, .dead, .dead, .dead, .dead, .dead, .dead, .dead, .dead, .dead, .dead, .dead], []⟩) | _, _ => none
theorem ev45 : ∀ x, evalFn env45 ann45 45 ⟨[.pl (.int .u64), .pl (.int .u64), .pl (.int .u64), .pl (.int .u64)], []⟩ ⟨[.pl (.int .u64), .pl (.int .i64)], []⟩ 60 K0 x = alloc_Allocate x := by intro x; kernel_rfl
theorem ok45 : ConOk Try.prog 45 alloc_AllocateC := con_of_ev (E := env45) (envOk tysOk eqsOk (show HowsOk Try.prog [(22, .con uint256_FromUint64C), (59, .con muldiv_MulDivFloorC)] from (And.intro ok22 (And.intro ok59 trivial))) follows methsOk) noOddP fun x _ h => ⟨ann45, 60, K0, (ev45 x).trans h⟩
noncomputable def pricer_allocateC : Con := ⟨⟨[.pl Y_api_Pricer, .pl Y_api_Params, .pl Y_api_Report, .pl (.int .u64)], []⟩, ⟨[.pl Y_pricer_Outcome, .pl (.int .i64)], []⟩, pricer_allocate⟩
noncomputable def env27 : Env := mkEnv Try.prog tys eqs [(22, .con uint256_FromUint64C), (40, .con uint256_MulC), (45, .con alloc_AllocateC)] owns meths
def ann27 : Anns := fun _ _ => none
theorem ev27 : ∀ x, evalFn env27 ann27 27 ⟨[.pl Y_api_Pricer, .pl Y_api_Params, .pl Y_api_Report, .pl (.int .u64)], []⟩ ⟨[.pl Y_pricer_Outcome, .pl (.int .i64)], []⟩ 60 K0 x = pricer_allocate x := by intro x; kernel_rfl
theorem ok27 : ConOk Try.prog 27 pricer_allocateC := con_of_ev (E := env27) (envOk tysOk eqsOk (show HowsOk Try.prog [(22, .con uint256_FromUint64C), (40, .con uint256_MulC), (45, .con alloc_AllocateC)] from (And.intro ok22 (And.intro ok40 (And.intro ok45 trivial)))) follows methsOk) noOddP fun x _ h => ⟨ann27, 60, K0, (ev27 x).trans h⟩
noncomputable def uint256_AddC : Con := ⟨⟨[.pl u256, .pl u256], []⟩, ⟨[.pl u256, .pl (.int .i64)], []⟩, uint256_Add⟩
noncomputable def env32 : Env := mkEnv Try.prog tys eqs [(35, .con add64C)] owns meths
def ann32 : Anns := fun p _ => match p with | 1000000 :: _ => none | _ => some (.unroll 6)
theorem ev32 : ∀ x, evalFn env32 ann32 32 ⟨[.pl u256, .pl u256], []⟩ ⟨[.pl u256, .pl (.int .i64)], []⟩ 60 K0 x = uint256_Add x := by intro x; kernel_rfl
theorem ok32 : ConOk Try.prog 32 uint256_AddC := con_of_ev (E := env32) (envOk tysOk eqsOk (show HowsOk Try.prog [(35, .con add64C)] from (And.intro ok35 trivial)) follows methsOk) noOddP fun x _ h => ⟨ann32, 60, K0, (ev32 x).trans h⟩
noncomputable def poster_AccrueC : Con := ⟨⟨[.pl (.sl Y_api_Poster), .pl (.int .u64), .pl u256, .pl u256, .pl (.int .u64)], []⟩, ⟨[.pl (.sl Y_api_Poster), .pl (.int .i64)], []⟩, poster_Accrue⟩
noncomputable def env28 : Env := mkEnv Try.prog tys eqs [(20, .con poster_FindC), (32, .con uint256_AddC), (33, .con poster_ValidC), (43, .con slices_Clone___api_Poster_api_Poster_C), (46, .con poster_isZeroC)] owns meths
def ann28 : Anns := fun p c => match p, c with | [1000000, 28], 14 => some (.join ⟨[.pl (.sl Y_api_Poster), .dead, .dead, .dead, .pl (.int .u64), .dead, .dead, .dead, .dead, .dead, .dead, .dead, .pl (.int .i64), .ptr 0 [], .dead, .dead, .ptr 1 [], .dead, .ptr 2 [], .dead, .ptr 3 [], .dead, .dead, .dead, .dead, .dead, .dead, .dead, .dead, .dead, .dead, .dead, .dead, .dead, .dead, .dead, .dead, .dead, .dead, .dead, .dead, .dead, .dead, .dead, .dead, .dead, .dead, .dead, .dead, .dead, .dead, .dead, .dead, .dead, .dead, .dead, .dead, .dead, .dead, .dead, .dead, .dead, .dead, .dead, .dead, .dead, .dead, .dead, .dead, .dead, .dead, .dead, .dead, .dead, .dead, .dead, .dead, .dead, .dead, .dead, .dead, .dead, .dead, .dead, .dead, .dead, .dead, .dead, .dead, .dead, .dead, .dead, .dead, .dead, .dead, .dead, .dead, .dead, .dead, .dead, .dead, .dead, .dead, .dead, .dead], [.box Y_api_Poster (.pl Y_api_Poster), .box u256 (.pl u256), .box u256 (.pl u256), .box u256 (.pl u256)]⟩) | [1000000, 28], 16 => some (.join ⟨[.pl (.sl Y_api_Poster), .dead, .dead, .dead, .dead, .dead, .dead, .dead, .dead, .dead, .dead, .dead, .pl (.int .i64), .ptr 0 [], .dead, .dead, .ptr 1 [], .dead, .ptr 2 [], .dead, .ptr 3 [], .dead, .dead, .dead, .dead, .dead, .dead, .dead, .dead, .dead, .dead, .dead, .dead, .dead, .dead, .dead, .dead, .dead, .dead, .dead, .dead, .dead, .dead, .dead, .dead, .dead, .dead, .dead, .dead, .dead, .dead, .dead, .dead, .dead, .dead, .dead, .dead, .dead, .dead, .dead, .dead, .dead, .dead, .dead, .dead, .dead, .dead, .dead, .dead, .dead, .dead, .dead, .dead, .dead, .dead, .dead, .dead, .dead, .dead, .dead, .dead, .dead, .dead, .dead, .dead, .dead, .dead, .dead, .dead, .dead, .dead, .dead, .dead, .dead, .dead, .dead, .dead, .dead, .dead, .dead, .dead, .dead, .dead, .dead, .dead], [.box Y_api_Poster (.pl Y_api_Poster), .box u256 (.pl u256), .box u256 (.pl u256), .box u256 (.pl u256)]⟩) | [1000000, 28], 4 => some (.join ⟨[.pl (.sl Y_api_Poster), .dead, .dead, .dead, .pl (.int .u64), .dead, .dead, .ptr 0 [], .ptr 1 [], .dead, .dead, .dead, .pl (.int .i64), .dead, .dead, .dead, .dead, .dead, .dead, .dead, .dead, .dead, .dead, .dead, .dead, .dead, .pl .bool, .dead, .dead, .dead, .dead, .dead, .dead, .dead, .dead, .dead, .dead, .dead, .dead, .dead, .dead, .dead, .dead, .dead, .dead, .dead, .dead, .dead, .dead, .dead, .dead, .dead, .dead, .dead, .dead, .dead, .dead, .dead, .dead, .dead, .dead, .dead, .dead, .dead, .dead, .dead, .dead, .dead, .dead, .dead, .dead, .dead, .dead, .dead, .dead, .dead, .dead, .dead, .dead, .dead, .dead, .dead, .dead, .dead, .dead, .dead, .dead, .dead, .dead, .dead, .dead, .dead, .dead, .dead, .dead, .dead, .dead, .dead, .dead, .dead, .dead, .dead, .dead, .dead, .dead], [.box u256 (.pl u256), .box u256 (.pl u256)]⟩) | [1000000, 28], 7 => some (.join ⟨[.pl (.sl Y_api_Poster), .dead, .dead, .dead, .pl (.int .u64), .dead, .dead, .ptr 0 [], .ptr 1 [], .dead, .dead, .dead, .pl (.int .i64), .dead, .dead, .dead, .dead, .dead, .dead, .dead, .dead, .dead, .dead, .dead, .dead, .dead, .dead, .dead, .dead, .dead, .dead, .dead, .dead, .dead, .dead, .dead, .dead, .dead, .dead, .dead, .dead, .dead, .dead, .dead, .dead, .dead, .dead, .dead, .dead, .dead, .dead, .dead, .dead, .dead, .dead, .dead, .dead, .dead, .dead, .dead, .dead, .dead, .dead, .dead, .dead, .dead, .dead, .dead, .dead, .dead, .dead, .dead, .dead, .dead, .dead, .dead, .dead, .dead, .dead, .dead, .dead, .dead, .dead, .dead, .dead, .dead, .dead, .dead, .dead, .dead, .dead, .dead, .dead, .dead, .dead, .dead, .dead, .dead, .dead, .dead, .dead, .dead, .dead, .dead, .dead], [.box u256 (.pl u256), .box u256 (.pl u256)]⟩) | _, _ => none
theorem ev28 : ∀ x, evalFn env28 ann28 28 ⟨[.pl (.sl Y_api_Poster), .pl (.int .u64), .pl u256, .pl u256, .pl (.int .u64)], []⟩ ⟨[.pl (.sl Y_api_Poster), .pl (.int .i64)], []⟩ 60 K0 x = poster_Accrue x := by intro x; kernel_rfl
theorem ok28 : ConOk Try.prog 28 poster_AccrueC := con_of_ev (E := env28) (envOk tysOk eqsOk (show HowsOk Try.prog [(20, .con poster_FindC), (32, .con uint256_AddC), (33, .con poster_ValidC), (43, .con slices_Clone___api_Poster_api_Poster_C), (46, .con poster_isZeroC)] from (And.intro ok20 (And.intro ok32 (And.intro ok33 (And.intro ok43 (And.intro ok46 trivial)))))) follows methsOk) noOddP fun x _ h => ⟨ann28, 60, K0, (ev28 x).trans h⟩
noncomputable def debtqueue_items_LenC : Con := ⟨⟨[.pl (.sl Y_debtqueue_item)], []⟩, ⟨[.pl (.int .i64)], []⟩, debtqueue_items_Len⟩
noncomputable def env104 : Env := mkEnv Try.prog tys eqs [] owns meths
def ann104 : Anns := fun _ _ => none
theorem ev104 : ∀ x, evalFn env104 ann104 104 ⟨[.pl (.sl Y_debtqueue_item)], []⟩ ⟨[.pl (.int .i64)], []⟩ 60 K0 x = debtqueue_items_Len x := by intro x; kernel_rfl
theorem ok104 : ConOk Try.prog 104 debtqueue_items_LenC := con_of_ev (E := env104) (envOk tysOk eqsOk (show HowsOk Try.prog [] from trivial) follows methsOk) noOddP fun x _ h => ⟨ann104, 60, K0, (ev104 x).trans h⟩
noncomputable def debtqueue_items_LessC : Con := ⟨⟨[.pl (.sl Y_debtqueue_item), .pl (.int .i64), .pl (.int .i64)], []⟩, ⟨[.pl .bool], []⟩, debtqueue_items_Less⟩
noncomputable def env105 : Env := mkEnv Try.prog tys eqs [] owns meths
def ann105 : Anns := fun _ _ => none
theorem ev105 : ∀ x, evalFn env105 ann105 105 ⟨[.pl (.sl Y_debtqueue_item), .pl (.int .i64), .pl (.int .i64)], []⟩ ⟨[.pl .bool], []⟩ 60 K0 x = debtqueue_items_Less x := by intro x; kernel_rfl
theorem ok105 : ConOk Try.prog 105 debtqueue_items_LessC := con_of_ev (E := env105) (envOk tysOk eqsOk (show HowsOk Try.prog [] from trivial) follows methsOk) noOddP fun x _ h => ⟨ann105, 60, K0, (ev105 x).trans h⟩
noncomputable def container_heap_PushC : Con := ⟨⟨[.iface 116 (.ptr 0 [.fld 0]), .iface 118 (.pl Y_debtqueue_item)], [.box Y_debtqueue_Queue (.pair (.whole 1) (.pl .nil)), .row Y_debtqueue_item]⟩, ⟨[], [.box Y_debtqueue_Queue (.pair (.whole 1) (.pl .nil)), .row Y_debtqueue_item]⟩, container_heap_Push⟩
noncomputable def env60 : Env := mkEnv Try.prog tys eqs [(72, .inl), (104, .con debtqueue_items_LenC), (105, .con debtqueue_items_LessC), (106, .inl), (108, .inl)] owns meths
def ann60 : Anns := fun p c => match p, c with | [72, 1, 4, 60], 0 => some (.tmpl ⟨[(.iface 116 (.ptr 0 [.fld 0])), .pl (.int .i64), .dead, .dead, .dead, .dead, .dead, .dead, .dead, .dead, .dead, .dead, .dead, .dead, .dead, .dead, .dead, .dead, .dead, .dead, .dead, .dead, .dead, .dead, .dead, .dead, .dead, .dead, .dead, .dead, .dead, .dead, .dead, .dead, .dead, .ptr 0 []], [.box Y_debtqueue_Queue ((.pair (.whole 1) (.pl .nil))), .row Y_debtqueue_item]⟩) | _, _ => none
theorem ev60 : ∀ x, evalFn env60 ann60 60 ⟨[.iface 116 (.ptr 0 [.fld 0]), .iface 118 (.pl Y_debtqueue_item)], [.box Y_debtqueue_Queue (.pair (.whole 1) (.pl .nil)), .row Y_debtqueue_item]⟩ ⟨[], [.box Y_debtqueue_Queue (.pair (.whole 1) (.pl .nil)), .row Y_debtqueue_item]⟩ 140 K0 x = container_heap_Push x := by intro x; kernel_rfl
theorem ok60 : ConOk Try.prog 60 container_heap_PushC := con_of_ev (E := env60) (envOk tysOk eqsOk (show HowsOk Try.prog [(72, .inl), (104, .con debtqueue_items_LenC), (105, .con debtqueue_items_LessC), (106, .inl), (108, .inl)] from (And.intro ok104 (And.intro ok105 trivial))) follows methsOk) noOddP fun x _ h => ⟨ann60, 140, K0, (ev60 x).trans h⟩
noncomputable def debtqueue_NewC : Con := ⟨⟨[.pl (.sl Y_api_Poster)], []⟩, ⟨[.ptr 0 []], [.box Y_debtqueue_Queue (.pair (.whole 1) (.pl .nil)), .row Y_debtqueue_item]⟩, debtqueue_New⟩
noncomputable def env47 : Env := mkEnv Try.prog tys eqs [(60, .con container_heap_PushC)] owns meths
def ann47 : Anns := fun p c => match p, c with | [47], 0 => some (.tmpl ⟨[.dead, .dead, .dead, .ptr 0 [], .dead, .dead, .dead, .dead, .pl (.sl Y_api_Poster), .pl (.int .i64), .pl (.int .i64), .dead, .dead, .dead, .dead, .dead, .dead, .dead, .dead, .dead, .dead, .dead, .dead, .dead, .dead, .dead, .dead, .dead, .dead, .dead], [.box Y_debtqueue_Queue ((.pair (.whole 1) (.pl .nil))), .row Y_debtqueue_item]⟩) | _, _ => none
theorem ev47 : ∀ x, evalFn env47 ann47 47 ⟨[.pl (.sl Y_api_Poster)], []⟩ ⟨[.ptr 0 []], [.box Y_debtqueue_Queue (.pair (.whole 1) (.pl .nil)), .row Y_debtqueue_item]⟩ 140 K0 x = debtqueue_New x := by intro x; kernel_rfl
theorem ok47 : ConOk Try.prog 47 debtqueue_NewC := con_of_ev (E := env47) (envOk tysOk eqsOk (show HowsOk Try.prog [(60, .con container_heap_PushC)] from (And.intro ok60 trivial)) follows methsOk) noOddP fun x _ h => ⟨ann47, 140, K0, (ev47 x).trans h⟩
noncomputable def debtqueue_Queue_LenC : Con := ⟨⟨[.ptr 0 []], [.box Y_debtqueue_Queue (.pair (.whole 1) (.pl .nil)), .row Y_debtqueue_item]⟩, ⟨[.pl (.int .i64)], [.box Y_debtqueue_Queue (.pair (.whole 1) (.pl .nil)), .row Y_debtqueue_item]⟩, debtqueue_Queue_Len⟩
noncomputable def env73 : Env := mkEnv Try.prog tys eqs [] owns meths
def ann73 : Anns := fun _ _ => none
theorem ev73 : ∀ x, evalFn env73 ann73 73 ⟨[.ptr 0 []], [.box Y_debtqueue_Queue (.pair (.whole 1) (.pl .nil)), .row Y_debtqueue_item]⟩ ⟨[.pl (.int .i64)], [.box Y_debtqueue_Queue (.pair (.whole 1) (.pl .nil)), .row Y_debtqueue_item]⟩ 60 K0 x = debtqueue_Queue_Len x := by intro x; kernel_rfl
theorem ok73 : ConOk Try.prog 73 debtqueue_Queue_LenC := con_of_ev (E := env73) (envOk tysOk eqsOk (show HowsOk Try.prog [] from trivial) follows methsOk) noOddP fun x _ h => ⟨ann73, 60, K0, (ev73 x).trans h⟩
noncomputable def debtqueue_Queue_PeekC : Con := ⟨⟨[.ptr 0 []], [.box Y_debtqueue_Queue (.pair (.whole 1) (.pl .nil)), .row Y_debtqueue_item]⟩, ⟨[.pl Y_api_Poster, .pl .bool], [.box Y_debtqueue_Queue (.pair (.whole 1) (.pl .nil)), .row Y_debtqueue_item]⟩, debtqueue_Queue_Peek⟩
noncomputable def env61 : Env := mkEnv Try.prog tys eqs [(73, .con debtqueue_Queue_LenC)] owns meths
def ann61 : Anns := fun _ _ => none
theorem ev61 : ∀ x, evalFn env61 ann61 61 ⟨[.ptr 0 []], [.box Y_debtqueue_Queue (.pair (.whole 1) (.pl .nil)), .row Y_debtqueue_item]⟩ ⟨[.pl Y_api_Poster, .pl .bool], [.box Y_debtqueue_Queue (.pair (.whole 1) (.pl .nil)), .row Y_debtqueue_item]⟩ 60 K0 x = debtqueue_Queue_Peek x := by intro x; kernel_rfl
theorem ok61 : ConOk Try.prog 61 debtqueue_Queue_PeekC := con_of_ev (E := env61) (envOk tysOk eqsOk (show HowsOk Try.prog [(73, .con debtqueue_Queue_LenC)] from (And.intro ok73 trivial)) follows methsOk) noOddP fun x _ h => ⟨ann61, 60, K0, (ev61 x).trans h⟩
noncomputable def debtqueue_Queue_PopC : Con := ⟨⟨[.ptr 0 []], [.box Y_debtqueue_Queue (.pair (.whole 1) (.pl .nil)), .row Y_debtqueue_item]⟩, ⟨[.pl Y_api_Poster, .pl .bool], [.box Y_debtqueue_Queue (.pair (.whole 1) (.pl .nil)), .row Y_debtqueue_item]⟩, debtqueue_Queue_Pop⟩
noncomputable def env48 : Env := mkEnv Try.prog tys eqs [(61, .con debtqueue_Queue_PeekC), (62, .inl), (74, .inl), (104, .con debtqueue_items_LenC), (105, .con debtqueue_items_LessC), (106, .inl), (107, .inl)] owns meths
def ann48 : Anns := fun p c => match p, c with | [74, 3, 2, 62, 3, 4, 48], 0 => some (.tmpl ⟨[(.iface 116 (.ptr 0 [.fld 0])), .pl (.int .i64), .pl (.int .i64), .dead, .dead, .dead, .dead, .pl (.int .i64), .dead, .dead, .dead, .dead, .dead, .dead, .dead, .dead, .dead, .dead, .dead, .dead, .dead, .dead, .dead, .dead, .dead, .dead, .dead, .dead, .dead, .dead, .dead, .dead, .dead, .dead, .dead, .dead, .dead, .dead, .dead, .dead, .dead, .dead, .dead, .dead, .dead, .dead, .dead, .dead, (.iface 116 (.ptr 0 [.fld 0])), .dead, .dead, .dead, .dead, .dead, .dead, .dead, .dead, .dead, .dead, .dead, .dead, .dead, .dead, .dead, .dead, .ptr 2 [], .dead, .ptr 3 [], .pl .bool, .dead, .dead, .dead, .dead, .dead, .dead, .dead, .dead, .dead, .dead, .dead, .dead, .dead, .ptr 0 []], [.box Y_debtqueue_Queue ((.pair (.whole 1) (.pl .nil))), .row Y_debtqueue_item, .box Y_api_Poster (.pl Y_api_Poster), .box Y_api_Poster (.pl Y_api_Poster)]⟩) | _, _ => none
theorem ev48 : ∀ x, evalFn env48 ann48 48 ⟨[.ptr 0 []], [.box Y_debtqueue_Queue (.pair (.whole 1) (.pl .nil)), .row Y_debtqueue_item]⟩ ⟨[.pl Y_api_Poster, .pl .bool], [.box Y_debtqueue_Queue (.pair (.whole 1) (.pl .nil)), .row Y_debtqueue_item]⟩ 140 K0 x = debtqueue_Queue_Pop x := by intro x; kernel_rfl
theorem ok48 : ConOk Try.prog 48 debtqueue_Queue_PopC := con_of_ev (E := env48) (envOk tysOk eqsOk (show HowsOk Try.prog [(61, .con debtqueue_Queue_PeekC), (62, .inl), (74, .inl), (104, .con debtqueue_items_LenC), (105, .con debtqueue_items_LessC), (106, .inl), (107, .inl)] from (And.intro ok61 (And.intro ok104 (And.intro ok105 trivial)))) follows methsOk) noOddP fun x _ h => ⟨ann48, 140, K0, (ev48 x).trans h⟩
noncomputable def uint256_MinC : Con := ⟨⟨[.pl u256, .pl (.sl u256)], []⟩, ⟨[.pl u256], []⟩, uint256_Min⟩
noncomputable def env49 : Env := mkEnv Try.prog tys eqs [(15, .con uint256_CmpC)] owns meths
def ann49 : Anns := fun p c => match p, c with | [49], 0 => some (.tmpl ⟨[.dead, .dead, .ptr 0 [], .dead, .ptr 1 [], .dead, .dead, .pl (.sl u256), .pl (.int .i64), .pl (.int .i64), .dead, .dead, .dead, .dead, .dead, .dead, .dead, .dead, .dead, .dead], [.box u256 (.pl u256), .box u256 (.pl u256)]⟩) | _, _ => none
theorem ev49 : ∀ x, evalFn env49 ann49 49 ⟨[.pl u256, .pl (.sl u256)], []⟩ ⟨[.pl u256], []⟩ 60 K0 x = uint256_Min x := by intro x; kernel_rfl
theorem ok49 : ConOk Try.prog 49 uint256_MinC := con_of_ev (E := env49) (envOk tysOk eqsOk (show HowsOk Try.prog [(15, .con uint256_CmpC)] from (And.intro ok15 trivial)) follows methsOk) noOddP fun x _ h => ⟨ann49, 60, K0, (ev49 x).trans h⟩
noncomputable def uint256_SubC : Con := ⟨⟨[.pl u256, .pl u256], []⟩, ⟨[.pl u256, .pl (.int .i64)], []⟩, uint256_Sub⟩
noncomputable def env63 : Env := mkEnv Try.prog tys eqs [(75, .con sub64C)] owns meths
def ann63 : Anns := fun p _ => match p with | 1000000 :: _ => none | _ => some (.unroll 6)
theorem ev63 : ∀ x, evalFn env63 ann63 63 ⟨[.pl u256, .pl u256], []⟩ ⟨[.pl u256, .pl (.int .i64)], []⟩ 60 K0 x = uint256_Sub x := by intro x; kernel_rfl
theorem ok63 : ConOk Try.prog 63 uint256_SubC := con_of_ev (E := env63) (envOk tysOk eqsOk (show HowsOk Try.prog [(75, .con sub64C)] from (And.intro ok75 trivial)) follows methsOk) noOddP fun x _ h => ⟨ann63, 60, K0, (ev63 x).trans h⟩
noncomputable def uint256_SaturatingSubC : Con := ⟨⟨[.pl u256, .pl u256], []⟩, ⟨[.pl u256], []⟩, uint256_SaturatingSub⟩
noncomputable def env50 : Env := mkEnv Try.prog tys eqs [(63, .con uint256_SubC)] owns meths
def ann50 : Anns := fun _ _ => none
theorem ev50 : ∀ x, evalFn env50 ann50 50 ⟨[.pl u256, .pl u256], []⟩ ⟨[.pl u256], []⟩ 60 K0 x = uint256_SaturatingSub x := by intro x; kernel_rfl
theorem ok50 : ConOk Try.prog 50 uint256_SaturatingSubC := con_of_ev (E := env50) (envOk tysOk eqsOk (show HowsOk Try.prog [(63, .con uint256_SubC)] from (And.intro ok63 trivial)) follows methsOk) noOddP fun x _ h => ⟨ann50, 60, K0, (ev50 x).trans h⟩
noncomputable def payout_PlanC : Con := ⟨⟨[.pl (.sl Y_api_Poster), .pl u256], []⟩, ⟨[.pl (.sl Y_api_Payment), .pl (.int .i64)], []⟩, payout_Plan⟩
noncomputable def env29 : Env := mkEnv Try.prog tys eqs [(33, .con poster_ValidC), (47, .con debtqueue_NewC), (48, .con debtqueue_Queue_PopC), (49, .con uint256_MinC), (50, .con uint256_SaturatingSubC)] owns meths
def ann29 : Anns := fun p c => match p, c with | [1000000, 29], 9 => some (.join ⟨[.dead, .dead, .dead, .ptr 0 [], .dead, .dead, .whole 1, .ptr 2 [], .ptr 4 [], .dead, .dead, .dead, .dead, .dead, .dead, .dead, .dead, .dead, .dead, .dead, .dead, .dead, .dead, .pl u256, .pl u256, .pl .bool, .dead, .dead, .dead, .dead, .dead, .dead, .dead, .dead, .dead, .dead, .dead, .dead, .dead, .dead, .dead, .dead, .dead, .dead, .dead, .dead, .dead, .dead, .dead], [.box u256 (.pl u256), .row Y_api_Payment, .box Y_debtqueue_Queue ((.pair (.whole 3) (.pl .nil))), .row Y_debtqueue_item, .box Y_api_Poster (.pl Y_api_Poster)]⟩) | [29], 0 => some (.tmpl ⟨[.dead, .dead, .dead, .ptr 0 [], .dead, .dead, .whole 1, .ptr 2 [], .ptr 4 [], .pl .bool, .dead, .dead, .dead, .dead, .dead, .dead, .dead, .dead, .dead, .dead, .dead, .dead, .dead, .dead, .dead, .dead, .dead, .dead, .dead, .dead, .dead, .dead, .dead, .dead, .dead, .dead, .dead, .dead, .dead, .dead, .dead, .dead, .dead, .dead, .dead, .dead, .dead, .dead, .dead], [.box u256 (.pl u256), .row Y_api_Payment, .box Y_debtqueue_Queue ((.pair (.whole 3) (.pl .nil))), .row Y_debtqueue_item, .box Y_api_Poster (.pl Y_api_Poster)]⟩) | _, _ => none
theorem ev29 : ∀ x, evalFn env29 ann29 29 ⟨[.pl (.sl Y_api_Poster), .pl u256], []⟩ ⟨[.pl (.sl Y_api_Payment), .pl (.int .i64)], []⟩ 60 K0 x = payout_Plan x := by intro x; kernel_rfl
theorem ok29 : ConOk Try.prog 29 payout_PlanC := con_of_ev (E := env29) (envOk tysOk eqsOk (show HowsOk Try.prog [(33, .con poster_ValidC), (47, .con debtqueue_NewC), (48, .con debtqueue_Queue_PopC), (49, .con uint256_MinC), (50, .con uint256_SaturatingSubC)] from (And.intro ok33 (And.intro ok47 (And.intro ok48 (And.intro ok49 (And.intro ok50 trivial)))))) follows methsOk) noOddP fun x _ h => ⟨ann29, 60, K0, (ev29 x).trans h⟩
noncomputable def poster_SettleC : Con := ⟨⟨[.pl (.sl Y_api_Poster), .pl (.int .u64), .pl u256], []⟩, ⟨[.pl (.sl Y_api_Poster), .pl (.int .i64)], []⟩, poster_Settle⟩
noncomputable def env51 : Env := mkEnv Try.prog tys eqs [(20, .con poster_FindC), (32, .con uint256_AddC), (33, .con poster_ValidC), (43, .con slices_Clone___api_Poster_api_Poster_C), (46, .con poster_isZeroC), (63, .con uint256_SubC)] owns meths
def ann51 : Anns := fun p c => match p, c with | [1000000, 51], 17 => some (.join ⟨[.pl (.sl Y_api_Poster), .dead, .dead, .dead, .dead, .dead, .dead, .dead, .pl (.int .i64), .ptr 0 [], .dead, .dead, .dead, .dead, .dead, .dead, .dead, .dead, .dead, .dead, .dead, .dead, .dead, .dead, .dead, .dead, .dead, .dead, .dead, .dead, .dead, .dead, .dead, .dead, .dead, .dead, .dead, .dead, .dead, .dead, .dead, .dead, .dead, .dead, .dead, .dead, .dead, .dead, .dead, .dead, .dead, .dead, .dead, .dead, .dead, .dead, .dead, .dead, .dead, .dead, .dead], [.box Y_api_Poster (.pl Y_api_Poster)]⟩) | _, _ => none
theorem ev51 : ∀ x, evalFn env51 ann51 51 ⟨[.pl (.sl Y_api_Poster), .pl (.int .u64), .pl u256], []⟩ ⟨[.pl (.sl Y_api_Poster), .pl (.int .i64)], []⟩ 60 K0 x = poster_Settle x := by intro x; kernel_rfl
theorem ok51 : ConOk Try.prog 51 poster_SettleC := con_of_ev (E := env51) (envOk tysOk eqsOk (show HowsOk Try.prog [(20, .con poster_FindC), (32, .con uint256_AddC), (33, .con poster_ValidC), (43, .con slices_Clone___api_Poster_api_Poster_C), (46, .con poster_isZeroC), (63, .con uint256_SubC)] from (And.intro ok20 (And.intro ok32 (And.intro ok33 (And.intro ok43 (And.intro ok46 (And.intro ok63 trivial))))))) follows methsOk) noOddP fun x _ h => ⟨ann51, 60, K0, (ev51 x).trans h⟩
noncomputable def payout_ApplyC : Con := ⟨⟨[.pl (.sl Y_api_Poster), .pl (.sl Y_api_Payment)], []⟩, ⟨[.pl (.sl Y_api_Poster), .pl (.int .i64)], []⟩, payout_Apply⟩
noncomputable def env30 : Env := mkEnv Try.prog tys eqs [(43, .con slices_Clone___api_Poster_api_Poster_C), (51, .con poster_SettleC)] owns meths
def ann30 : Anns := fun p c => match p, c with | [30], 0 => some (.tmpl ⟨[.dead, .dead, .dead, .dead, .dead, .dead, .pl (.sl Y_api_Poster), .dead, .dead, .dead, .dead, .dead, .pl (.sl Y_api_Payment), .pl (.int .i64), .pl (.int .i64), .dead, .dead, .dead, .dead, .dead, .dead, .dead, .dead, .dead, .dead, .dead, .dead, .dead, .dead, .dead, .dead, .dead], []⟩) | _, _ => none
theorem ev30 : ∀ x, evalFn env30 ann30 30 ⟨[.pl (.sl Y_api_Poster), .pl (.sl Y_api_Payment)], []⟩ ⟨[.pl (.sl Y_api_Poster), .pl (.int .i64)], []⟩ 60 K0 x = payout_Apply x := by intro x; kernel_rfl
theorem ok30 : ConOk Try.prog 30 payout_ApplyC := con_of_ev (E := env30) (envOk tysOk eqsOk (show HowsOk Try.prog [(43, .con slices_Clone___api_Poster_api_Poster_C), (51, .con poster_SettleC)] from (And.intro ok43 (And.intro ok51 trivial))) follows methsOk) noOddP fun x _ h => ⟨ann30, 60, K0, (ev30 x).trans h⟩
noncomputable def payout_SumC : Con := ⟨⟨[.pl (.sl Y_api_Payment)], []⟩, ⟨[.pl u256, .pl (.int .i64)], []⟩, payout_Sum⟩
noncomputable def env13 : Env := mkEnv Try.prog tys eqs [(32, .con uint256_AddC)] owns meths
def ann13 : Anns := fun p c => match p, c with | [13], 0 => some (.tmpl ⟨[.dead, .dead, .ptr 0 [], .dead, .ptr 1 [], .dead, .dead, .dead, .dead, .pl (.sl Y_api_Payment), .pl (.int .i64), .pl (.int .i64), .dead, .dead, .dead, .dead, .dead, .dead, .dead, .dead, .dead, .dead, .dead, .dead, .dead, .dead, .dead, .dead], [.box u256 (.pl u256), .box u256 (.pl u256)]⟩) | _, _ => none
theorem ev13 : ∀ x, evalFn env13 ann13 13 ⟨[.pl (.sl Y_api_Payment)], []⟩ ⟨[.pl u256, .pl (.int .i64)], []⟩ 60 K0 x = payout_Sum x := by intro x; kernel_rfl
theorem ok13 : ConOk Try.prog 13 payout_SumC := con_of_ev (E := env13) (envOk tysOk eqsOk (show HowsOk Try.prog [(32, .con uint256_AddC)] from (And.intro ok32 trivial)) follows methsOk) noOddP fun x _ h => ⟨ann13, 60, K0, (ev13 x).trans h⟩
noncomputable def poster_TotalDueC : Con := ⟨⟨[.pl (.sl Y_api_Poster)], []⟩, ⟨[.pl u256, .pl (.int .i64)], []⟩, poster_TotalDue⟩
noncomputable def env14 : Env := mkEnv Try.prog tys eqs [(32, .con uint256_AddC), (33, .con poster_ValidC)] owns meths
def ann14 : Anns := fun p c => match p, c with | [14], 0 => some (.tmpl ⟨[.dead, .dead, .ptr 0 [], .dead, .ptr 1 [], .dead, .dead, .dead, .dead, .dead, .dead, .dead, .dead, .pl (.sl Y_api_Poster), .pl (.int .i64), .pl (.int .i64), .dead, .dead, .dead, .dead, .dead, .dead, .dead, .dead, .dead, .dead, .dead, .dead, .dead, .dead, .dead, .dead], [.box u256 (.pl u256), .box u256 (.pl u256)]⟩) | _, _ => none
theorem ev14 : ∀ x, evalFn env14 ann14 14 ⟨[.pl (.sl Y_api_Poster)], []⟩ ⟨[.pl u256, .pl (.int .i64)], []⟩ 60 K0 x = poster_TotalDue x := by intro x; kernel_rfl
theorem ok14 : ConOk Try.prog 14 poster_TotalDueC := con_of_ev (E := env14) (envOk tysOk eqsOk (show HowsOk Try.prog [(32, .con uint256_AddC), (33, .con poster_ValidC)] from (And.intro ok32 (And.intro ok33 trivial))) follows methsOk) noOddP fun x _ h => ⟨ann14, 60, K0, (ev14 x).trans h⟩
noncomputable def int256_NewC : Con := ⟨⟨[.pl .bool, .pl u256], []⟩, ⟨[.pl Y_api_Int256], []⟩, int256_New⟩
noncomputable def env76 : Env := mkEnv Try.prog tys eqs [] owns meths
def ann76 : Anns := fun _ _ => none
theorem ev76 : ∀ x, evalFn env76 ann76 76 ⟨[.pl .bool, .pl u256], []⟩ ⟨[.pl Y_api_Int256], []⟩ 60 K0 x = int256_New x := by intro x; kernel_rfl
theorem ok76 : ConOk Try.prog 76 int256_NewC := con_of_ev (E := env76) (envOk tysOk eqsOk (show HowsOk Try.prog [] from trivial) follows methsOk) noOddP fun x _ h => ⟨ann76, 60, K0, (ev76 x).trans h⟩
noncomputable def int256_DiffC : Con := ⟨⟨[.pl u256, .pl u256], []⟩, ⟨[.pl Y_api_Int256], []⟩, int256_Diff⟩
noncomputable def env64 : Env := mkEnv Try.prog tys eqs [(15, .con uint256_CmpC), (50, .con uint256_SaturatingSubC), (76, .con int256_NewC)] owns meths
def ann64 : Anns := fun _ _ => none
theorem ev64 : ∀ x, evalFn env64 ann64 64 ⟨[.pl u256, .pl u256], []⟩ ⟨[.pl Y_api_Int256], []⟩ 60 K0 x = int256_Diff x := by intro x; kernel_rfl
theorem ok64 : ConOk Try.prog 64 int256_DiffC := con_of_ev (E := env64) (envOk tysOk eqsOk (show HowsOk Try.prog [(15, .con uint256_CmpC), (50, .con uint256_SaturatingSubC), (76, .con int256_NewC)] from (And.intro ok15 (And.intro ok50 (And.intro ok76 trivial)))) follows methsOk) noOddP fun x _ h => ⟨ann64, 60, K0, (ev64 x).trans h⟩
noncomputable def l1price_SurplusC : Con := ⟨⟨[.pl u256, .pl u256], []⟩, ⟨[.pl Y_api_Int256], []⟩, l1price_Surplus⟩
noncomputable def env52 : Env := mkEnv Try.prog tys eqs [(64, .con int256_DiffC)] owns meths
def ann52 : Anns := fun _ _ => none
theorem ev52 : ∀ x, evalFn env52 ann52 52 ⟨[.pl u256, .pl u256], []⟩ ⟨[.pl Y_api_Int256], []⟩ 60 K0 x = l1price_Surplus x := by intro x; kernel_rfl
theorem ok52 : ConOk Try.prog 52 l1price_SurplusC := con_of_ev (E := env52) (envOk tysOk eqsOk (show HowsOk Try.prog [(64, .con int256_DiffC)] from (And.intro ok64 trivial)) follows methsOk) noOddP fun x _ h => ⟨ann52, 60, K0, (ev52 x).trans h⟩
noncomputable def uint256_maxValueC : Con := ⟨⟨[], []⟩, ⟨[.pl u256], []⟩, uint256_maxValue⟩
noncomputable def env37 : Env := mkEnv Try.prog tys eqs [] owns meths
def ann37 : Anns := fun _ _ => none
theorem ev37 : ∀ x, evalFn env37 ann37 37 ⟨[], []⟩ ⟨[.pl u256], []⟩ 60 K0 x = uint256_maxValue x := by intro x; kernel_rfl
theorem ok37 : ConOk Try.prog 37 uint256_maxValueC := con_of_ev (E := env37) (envOk tysOk eqsOk (show HowsOk Try.prog [] from trivial) follows methsOk) noOddP fun x _ h => ⟨ann37, 60, K0, (ev37 x).trans h⟩
noncomputable def uint256_SaturatingAddC : Con := ⟨⟨[.pl u256, .pl u256], []⟩, ⟨[.pl u256], []⟩, uint256_SaturatingAdd⟩
noncomputable def env19 : Env := mkEnv Try.prog tys eqs [(32, .con uint256_AddC), (37, .con uint256_maxValueC)] owns meths
def ann19 : Anns := fun _ _ => none
theorem ev19 : ∀ x, evalFn env19 ann19 19 ⟨[.pl u256, .pl u256], []⟩ ⟨[.pl u256], []⟩ 60 K0 x = uint256_SaturatingAdd x := by intro x; kernel_rfl
theorem ok19 : ConOk Try.prog 19 uint256_SaturatingAddC := con_of_ev (E := env19) (envOk tysOk eqsOk (show HowsOk Try.prog [(32, .con uint256_AddC), (37, .con uint256_maxValueC)] from (And.intro ok32 (And.intro ok37 trivial))) follows methsOk) noOddP fun x _ h => ⟨ann19, 60, K0, (ev19 x).trans h⟩
noncomputable def int256_NegC : Con := ⟨⟨[.pl Y_api_Int256], []⟩, ⟨[.pl Y_api_Int256, .pl (.int .i64)], []⟩, int256_Neg⟩
noncomputable def env77 : Env := mkEnv Try.prog tys eqs [(41, .con int256_ValidC), (76, .con int256_NewC)] owns meths
def ann77 : Anns := fun _ _ => none
theorem ev77 : ∀ x, evalFn env77 ann77 77 ⟨[.pl Y_api_Int256], []⟩ ⟨[.pl Y_api_Int256, .pl (.int .i64)], []⟩ 60 K0 x = int256_Neg x := by intro x; kernel_rfl
theorem ok77 : ConOk Try.prog 77 int256_NegC := con_of_ev (E := env77) (envOk tysOk eqsOk (show HowsOk Try.prog [(41, .con int256_ValidC), (76, .con int256_NewC)] from (And.intro ok41 (And.intro ok76 trivial))) follows methsOk) noOddP fun x _ h => ⟨ann77, 60, K0, (ev77 x).trans h⟩
noncomputable def muldiv_DivModC : Con := ⟨⟨[.pl u256, .pl u256], []⟩, ⟨[.pl u256, .pl u256, .pl (.int .i64)], []⟩, muldiv_DivMod⟩
noncomputable def env86 : Env := mkEnv Try.prog tys eqs [(71, .con muldiv_Div512C)] owns meths
def ann86 : Anns := fun _ _ => none
theorem ev86 : ∀ x, evalFn env86 ann86 86 ⟨[.pl u256, .pl u256], []⟩ ⟨[.pl u256, .pl u256, .pl (.int .i64)], []⟩ 60 K0 x = muldiv_DivMod x := by intro x; kernel_rfl
theorem ok86 : ConOk Try.prog 86 muldiv_DivModC := con_of_ev (E := env86) (envOk tysOk eqsOk (show HowsOk Try.prog [(71, .con muldiv_Div512C)] from (And.intro ok71 trivial)) follows methsOk) noOddP fun x _ h => ⟨ann86, 60, K0, (ev86 x).trans h⟩
noncomputable def int256_DivFloorC : Con := ⟨⟨[.pl Y_api_Int256, .pl u256], []⟩, ⟨[.pl Y_api_Int256, .pl (.int .i64)], []⟩, int256_DivFloor⟩
noncomputable def env78 : Env := mkEnv Try.prog tys eqs [(22, .con uint256_FromUint64C), (32, .con uint256_AddC), (41, .con int256_ValidC), (76, .con int256_NewC), (86, .con muldiv_DivModC)] owns meths
def ann78 : Anns := fun p c => match p, c with | [1000000, 78], 8 => some (.join ⟨[.dead, .dead, .ptr 0 [], .dead, .ptr 1 [], .dead, .ptr 2 [], .dead, .dead, .dead, .dead, .dead, .dead, .dead, .dead, .dead, .dead, .dead, .dead, .dead, .dead, .dead, .dead, .dead, .dead, .dead, .dead, .dead, .dead, .dead, .dead, .pl .bool, .dead, .dead, .dead, .dead, .dead, .dead, .dead, .dead, .dead, .dead], [.box Y_api_Int256 (.pl Y_api_Int256), .box Y_api_Int256 (.pl Y_api_Int256), .box u256 (.pl u256)]⟩) | _, _ => none
theorem ev78 : ∀ x, evalFn env78 ann78 78 ⟨[.pl Y_api_Int256, .pl u256], []⟩ ⟨[.pl Y_api_Int256, .pl (.int .i64)], []⟩ 60 K0 x = int256_DivFloor x := by intro x; kernel_rfl
theorem ok78 : ConOk Try.prog 78 int256_DivFloorC := con_of_ev (E := env78) (envOk tysOk eqsOk (show HowsOk Try.prog [(22, .con uint256_FromUint64C), (32, .con uint256_AddC), (41, .con int256_ValidC), (76, .con int256_NewC), (86, .con muldiv_DivModC)] from (And.intro ok22 (And.intro ok32 (And.intro ok41 (And.intro ok76 (And.intro ok86 trivial)))))) follows methsOk) noOddP fun x _ h => ⟨ann78, 60, K0, (ev78 x).trans h⟩
noncomputable def int256_AddC : Con := ⟨⟨[.pl Y_api_Int256, .pl Y_api_Int256], []⟩, ⟨[.pl Y_api_Int256, .pl (.int .i64)], []⟩, int256_Add⟩
noncomputable def env87 : Env := mkEnv Try.prog tys eqs [(32, .con uint256_AddC), (41, .con int256_ValidC), (64, .con int256_DiffC), (76, .con int256_NewC)] owns meths
def ann87 : Anns := fun p c => match p, c with | [1000000, 87], 4 => some (.join ⟨[.dead, .dead, .ptr 0 [], .ptr 1 [], .ptr 2 [], .dead, .dead, .dead, .dead, .dead, .dead, .dead, .dead, .dead, .dead, .dead, .dead, .dead, .dead, .dead, .dead, .dead, .dead, .dead, .dead, .dead, .dead, .dead, .dead, .dead, .dead, .dead, .dead, .dead, .dead, .dead, .dead, .dead, .dead, .dead, .dead, .dead, .dead, .dead, .dead, .dead, .dead, .dead, .dead, .dead], [.box Y_api_Int256 (.pl Y_api_Int256), .box Y_api_Int256 (.pl Y_api_Int256), .box Y_api_Int256 (.pl Y_api_Int256)]⟩) | _, _ => none
theorem ev87 : ∀ x, evalFn env87 ann87 87 ⟨[.pl Y_api_Int256, .pl Y_api_Int256], []⟩ ⟨[.pl Y_api_Int256, .pl (.int .i64)], []⟩ 60 K0 x = int256_Add x := by intro x; kernel_rfl
theorem ok87 : ConOk Try.prog 87 int256_AddC := con_of_ev (E := env87) (envOk tysOk eqsOk (show HowsOk Try.prog [(32, .con uint256_AddC), (41, .con int256_ValidC), (64, .con int256_DiffC), (76, .con int256_NewC)] from (And.intro ok32 (And.intro ok41 (And.intro ok64 (And.intro ok76 trivial))))) follows methsOk) noOddP fun x _ h => ⟨ann87, 60, K0, (ev87 x).trans h⟩
noncomputable def int256_SubC : Con := ⟨⟨[.pl Y_api_Int256, .pl Y_api_Int256], []⟩, ⟨[.pl Y_api_Int256, .pl (.int .i64)], []⟩, int256_Sub⟩
noncomputable def env79 : Env := mkEnv Try.prog tys eqs [(41, .con int256_ValidC), (77, .con int256_NegC), (87, .con int256_AddC)] owns meths
def ann79 : Anns := fun p c => match p, c with | [1000000, 79], 5 => some (.join ⟨[.dead, .dead, .ptr 0 [], .dead, .ptr 1 [], .dead, .ptr 2 [], .dead, .dead, .dead, .dead, .dead, .dead, .dead, .dead, .dead, .dead, .dead, .dead, .dead, .dead, .dead, .dead, .dead, .dead, .dead], [.box Y_api_Int256 (.pl Y_api_Int256), .box Y_api_Int256 (.pl Y_api_Int256), .box Y_api_Int256 (.pl Y_api_Int256)]⟩) | _, _ => none
theorem ev79 : ∀ x, evalFn env79 ann79 79 ⟨[.pl Y_api_Int256, .pl Y_api_Int256], []⟩ ⟨[.pl Y_api_Int256, .pl (.int .i64)], []⟩ 60 K0 x = int256_Sub x := by intro x; kernel_rfl
theorem ok79 : ConOk Try.prog 79 int256_SubC := con_of_ev (E := env79) (envOk tysOk eqsOk (show HowsOk Try.prog [(41, .con int256_ValidC), (77, .con int256_NegC), (87, .con int256_AddC)] from (And.intro ok41 (And.intro ok77 (And.intro ok87 trivial)))) follows methsOk) noOddP fun x _ h => ⟨ann79, 60, K0, (ev79 x).trans h⟩
noncomputable def int256_MulC : Con := ⟨⟨[.pl Y_api_Int256, .pl Y_api_Int256], []⟩, ⟨[.pl Y_api_Int256, .pl (.int .i64)], []⟩, int256_Mul⟩
noncomputable def env80 : Env := mkEnv Try.prog tys eqs [(40, .con uint256_MulC), (41, .con int256_ValidC), (76, .con int256_NewC)] owns meths
def ann80 : Anns := fun p c => match p, c with | [1000000, 80], 4 => some (.join ⟨[.dead, .dead, .ptr 0 [], .ptr 1 [], .ptr 2 [], .dead, .dead, .dead, .dead, .dead, .dead, .dead, .dead, .dead, .dead, .dead, .dead, .dead, .dead, .dead, .dead, .dead, .dead, .dead, .dead, .dead, .dead, .dead, .dead, .dead, .dead, .dead, .dead, .dead, .dead, .dead], [.box Y_api_Int256 (.pl Y_api_Int256), .box Y_api_Int256 (.pl Y_api_Int256), .box Y_api_Int256 (.pl Y_api_Int256)]⟩) | _, _ => none
theorem ev80 : ∀ x, evalFn env80 ann80 80 ⟨[.pl Y_api_Int256, .pl Y_api_Int256], []⟩ ⟨[.pl Y_api_Int256, .pl (.int .i64)], []⟩ 60 K0 x = int256_Mul x := by intro x; kernel_rfl
theorem ok80 : ConOk Try.prog 80 int256_MulC := con_of_ev (E := env80) (envOk tysOk eqsOk (show HowsOk Try.prog [(40, .con uint256_MulC), (41, .con int256_ValidC), (76, .con int256_NewC)] from (And.intro ok40 (And.intro ok41 (And.intro ok76 trivial)))) follows methsOk) noOddP fun x _ h => ⟨ann80, 60, K0, (ev80 x).trans h⟩
noncomputable def l1price_DeltaC : Con := ⟨⟨[.pl Y_api_Int256, .pl Y_api_Int256, .pl (.int .u64), .pl Y_api_Params], []⟩, ⟨[.pl Y_api_Int256, .pl (.int .i64)], []⟩, l1price_Delta⟩
noncomputable def env65 : Env := mkEnv Try.prog tys eqs [(19, .con uint256_SaturatingAddC), (22, .con uint256_FromUint64C), (41, .con int256_ValidC), (44, .con params_ValidC), (77, .con int256_NegC), (78, .con int256_DivFloorC), (79, .con int256_SubC), (80, .con int256_MulC)] owns meths
def ann65 : Anns := fun p c => match p, c with | [1000000, 65], 6 => some (.join ⟨[.dead, .dead, .pl (.int .u64), .dead, .ptr 0 [], .ptr 1 [], .dead, .ptr 2 [], .ptr 3 [], .dead, .dead, .dead, .dead, .dead, .dead, .dead, .dead, .dead, .dead, .dead, .dead, .dead, .dead, .dead, .dead, .dead, .dead, .dead, .dead, .dead, .dead, .dead, .dead, .dead, .dead, .dead, .dead, .dead, .dead, .dead, .dead, .dead, .dead, .dead, .dead, .dead, .dead, .dead, .dead, .dead, .dead, .dead, .dead, .dead, .dead, .dead, .dead, .dead, .dead, .dead, .dead, .dead, .dead, .dead, .dead, .dead, .dead, .dead, .dead, .dead, .dead, .dead, .dead, .dead, .dead, .dead, .dead, .dead, .dead, .dead, .dead, .dead, .dead, .dead, .dead, .dead, .dead, .dead, .dead, .dead, .dead, .dead, .dead, .dead, .dead, .dead, .dead, .dead, .dead, .dead, .dead, .dead, .dead, .dead, .dead], [.box Y_api_Int256 (.pl Y_api_Int256), .box Y_api_Int256 (.pl Y_api_Int256), .box Y_api_Params (.pl Y_api_Params), .box Y_api_Int256 (.pl Y_api_Int256)]⟩) | _, _ => none
theorem ev65 : ∀ x, evalFn env65 ann65 65 ⟨[.pl Y_api_Int256, .pl Y_api_Int256, .pl (.int .u64), .pl Y_api_Params], []⟩ ⟨[.pl Y_api_Int256, .pl (.int .i64)], []⟩ 60 K0 x = l1price_Delta x := by intro x; kernel_rfl
theorem ok65 : ConOk Try.prog 65 l1price_DeltaC := con_of_ev (E := env65) (envOk tysOk eqsOk (show HowsOk Try.prog [(19, .con uint256_SaturatingAddC), (22, .con uint256_FromUint64C), (41, .con int256_ValidC), (44, .con params_ValidC), (77, .con int256_NegC), (78, .con int256_DivFloorC), (79, .con int256_SubC), (80, .con int256_MulC)] from (And.intro ok19 (And.intro ok22 (And.intro ok41 (And.intro ok44 (And.intro ok77 (And.intro ok78 (And.intro ok79 (And.intro ok80 trivial))))))))) follows methsOk) noOddP fun x _ h => ⟨ann65, 60, K0, (ev65 x).trans h⟩
noncomputable def int256_AddClampedC : Con := ⟨⟨[.pl u256, .pl Y_api_Int256], []⟩, ⟨[.pl u256, .pl (.int .i64)], []⟩, int256_AddClamped⟩
noncomputable def env66 : Env := mkEnv Try.prog tys eqs [(32, .con uint256_AddC), (41, .con int256_ValidC), (50, .con uint256_SaturatingSubC)] owns meths
def ann66 : Anns := fun _ _ => none
theorem ev66 : ∀ x, evalFn env66 ann66 66 ⟨[.pl u256, .pl Y_api_Int256], []⟩ ⟨[.pl u256, .pl (.int .i64)], []⟩ 60 K0 x = int256_AddClamped x := by intro x; kernel_rfl
theorem ok66 : ConOk Try.prog 66 int256_AddClampedC := con_of_ev (E := env66) (envOk tysOk eqsOk (show HowsOk Try.prog [(32, .con uint256_AddC), (41, .con int256_ValidC), (50, .con uint256_SaturatingSubC)] from (And.intro ok32 (And.intro ok41 (And.intro ok50 trivial)))) follows methsOk) noOddP fun x _ h => ⟨ann66, 60, K0, (ev66 x).trans h⟩
noncomputable def l1price_NextC : Con := ⟨⟨[.pl u256, .pl Y_api_Int256, .pl Y_api_Int256, .pl (.int .u64), .pl Y_api_Params], []⟩, ⟨[.pl u256, .pl (.int .i64)], []⟩, l1price_Next⟩
noncomputable def env53 : Env := mkEnv Try.prog tys eqs [(41, .con int256_ValidC), (44, .con params_ValidC), (65, .con l1price_DeltaC), (66, .con int256_AddClampedC)] owns meths
def ann53 : Anns := fun p c => match p, c with | [1000000, 53], 5 => some (.join ⟨[.dead, .dead, .dead, .pl (.int .u64), .dead, .ptr 0 [], .ptr 1 [], .ptr 2 [], .dead, .ptr 3 [], .ptr 4 [], .dead, .dead, .dead, .dead, .dead, .dead, .dead, .dead, .pl .bool, .dead, .dead, .dead, .dead, .dead, .dead, .dead, .dead, .dead, .dead, .dead, .dead, .dead, .dead, .dead, .dead, .dead, .dead, .dead, .dead, .dead, .dead, .dead, .dead, .dead, .dead, .dead, .dead, .dead, .dead], [.box u256 (.pl u256), .box Y_api_Int256 (.pl Y_api_Int256), .box Y_api_Int256 (.pl Y_api_Int256), .box Y_api_Params (.pl Y_api_Params), .box u256 (.pl u256)]⟩) | [1000000, 53], 8 => some (.join ⟨[.dead, .dead, .dead, .pl (.int .u64), .dead, .ptr 0 [], .ptr 1 [], .ptr 2 [], .dead, .ptr 3 [], .ptr 4 [], .dead, .dead, .dead, .dead, .dead, .dead, .dead, .dead, .dead, .dead, .dead, .dead, .dead, .dead, .dead, .dead, .dead, .dead, .dead, .dead, .dead, .dead, .dead, .dead, .dead, .dead, .dead, .dead, .dead, .dead, .dead, .dead, .dead, .dead, .dead, .dead, .dead, .dead, .dead], [.box u256 (.pl u256), .box Y_api_Int256 (.pl Y_api_Int256), .box Y_api_Int256 (.pl Y_api_Int256), .box Y_api_Params (.pl Y_api_Params), .box u256 (.pl u256)]⟩) | _, _ => none
theorem ev53 : ∀ x, evalFn env53 ann53 53 ⟨[.pl u256, .pl Y_api_Int256, .pl Y_api_Int256, .pl (.int .u64), .pl Y_api_Params], []⟩ ⟨[.pl u256, .pl (.int .i64)], []⟩ 60 K0 x = l1price_Next x := by intro x; kernel_rfl
theorem ok53 : ConOk Try.prog 53 l1price_NextC := con_of_ev (E := env53) (envOk tysOk eqsOk (show HowsOk Try.prog [(41, .con int256_ValidC), (44, .con params_ValidC), (65, .con l1price_DeltaC), (66, .con int256_AddClampedC)] from (And.intro ok41 (And.intro ok44 (And.intro ok65 (And.intro ok66 trivial))))) follows methsOk) noOddP fun x _ h => ⟨ann53, 60, K0, (ev53 x).trans h⟩
noncomputable def pricer_adjustC : Con := ⟨⟨[.pl Y_api_Pricer, .pl Y_api_Params, .pl u256, .pl Y_pricer_Outcome], []⟩, ⟨[.pl Y_api_Pricer, .pl (.int .i64)], []⟩, pricer_adjust⟩
noncomputable def env31 : Env := mkEnv Try.prog tys eqs [(13, .con payout_SumC), (14, .con poster_TotalDueC), (50, .con uint256_SaturatingSubC), (52, .con l1price_SurplusC), (53, .con l1price_NextC)] owns meths
def ann31 : Anns := fun _ _ => none
theorem ev31 : ∀ x, evalFn env31 ann31 31 ⟨[.pl Y_api_Pricer, .pl Y_api_Params, .pl u256, .pl Y_pricer_Outcome], []⟩ ⟨[.pl Y_api_Pricer, .pl (.int .i64)], []⟩ 60 K0 x = pricer_adjust x := by intro x; kernel_rfl
theorem ok31 : ConOk Try.prog 31 pricer_adjustC := con_of_ev (E := env31) (envOk tysOk eqsOk (show HowsOk Try.prog [(13, .con payout_SumC), (14, .con poster_TotalDueC), (50, .con uint256_SaturatingSubC), (52, .con l1price_SurplusC), (53, .con l1price_NextC)] from (And.intro ok13 (And.intro ok14 (And.intro ok50 (And.intro ok52 (And.intro ok53 trivial)))))) follows methsOk) noOddP fun x _ h => ⟨ann31, 60, K0, (ev31 x).trans h⟩
noncomputable def pricer_ReportC : Con := ⟨⟨[.pl Y_api_Pricer, .pl Y_api_Params, .pl u256, .pl Y_api_Report, .pl (.int .u64)], []⟩, ⟨[.pl Y_api_Pricer, .pl Y_pricer_Outcome, .pl (.int .i64)], []⟩, pricer_Report⟩
noncomputable def env12 : Env := mkEnv Try.prog tys eqs [(26, .con pricer_checkReportC), (27, .con pricer_allocateC), (28, .con poster_AccrueC), (29, .con payout_PlanC), (30, .con payout_ApplyC), (31, .con pricer_adjustC)] owns meths
def ann12 : Anns := fun p c => match p, c with | [1000000, 12], 11 => some (.join ⟨[.dead, .dead, .dead, .dead, .dead, .ptr 0 [], .ptr 1 [], .ptr 2 [], .ptr 3 [], .dead, .ptr 4 [], .ptr 5 [], .dead, .dead, .ptr 6 [], .pl (.int .i64), .dead, .dead, .dead, .dead, .dead, .dead, .dead, .dead, .dead, .dead, .dead, .dead, .dead, .dead, .dead, .dead, .dead, .dead, .dead, .dead, .dead, .dead, .dead, .dead, .dead, .dead, .dead, .dead, .dead, .dead, .dead, .dead, .dead, .dead, .dead, .dead, .dead, .dead, .dead, .dead, .dead, .dead, .dead, .dead, .dead, .dead, .dead, .dead, .dead, .dead, .dead, .dead, .dead, .dead, .dead, .dead, .dead, .dead, .dead, .dead, .dead, .dead, .dead, .dead, .dead, .dead, .dead, .dead, .dead, .dead, .dead, .dead, .dead, .dead, .dead, .dead, .dead, .dead, .dead, .dead, .dead, .dead, .dead, .dead, .dead, .dead], [.box Y_api_Pricer (.pl Y_api_Pricer), .box Y_api_Params (.pl Y_api_Params), .box u256 (.pl u256), .box Y_api_Report (.pl Y_api_Report), .box Y_api_Pricer (.pl Y_api_Pricer), .box Y_pricer_Outcome (.pl Y_pricer_Outcome), .box Y_pricer_Outcome (.pl Y_pricer_Outcome)]⟩) | [1000000, 12], 13 => some (.join ⟨[.dead, .dead, .dead, .dead, .dead, .ptr 0 [], .ptr 1 [], .ptr 2 [], .ptr 3 [], .dead, .ptr 4 [], .ptr 5 [], .dead, .dead, .ptr 6 [], .pl (.int .i64), .dead, .dead, .dead, .dead, .dead, .dead, .dead, .dead, .dead, .dead, .dead, .dead, .dead, .dead, .dead, .dead, .dead, .dead, .dead, .dead, .dead, .dead, .dead, .dead, .dead, .dead, .dead, .dead, .dead, .dead, .dead, .dead, .dead, .dead, .dead, .dead, .dead, .dead, .dead, .dead, .dead, .dead, .dead, .dead, .dead, .dead, .dead, .dead, .dead, .dead, .dead, .dead, .dead, .dead, .dead, .dead, .dead, .dead, .dead, .dead, .dead, .dead, .dead, .dead, .dead, .dead, .dead, .dead, .dead, .dead, .dead, .dead, .dead, .dead, .dead, .dead, .dead, .dead, .dead, .dead, .dead, .dead, .dead, .dead, .dead, .dead], [.box Y_api_Pricer (.pl Y_api_Pricer), .box Y_api_Params (.pl Y_api_Params), .box u256 (.pl u256), .box Y_api_Report (.pl Y_api_Report), .box Y_api_Pricer (.pl Y_api_Pricer), .box Y_pricer_Outcome (.pl Y_pricer_Outcome), .box Y_pricer_Outcome (.pl Y_pricer_Outcome)]⟩) | [1000000, 12], 15 => some (.join ⟨[.dead, .dead, .dead, .dead, .dead, .ptr 0 [], .dead, .dead, .ptr 1 [], .dead, .ptr 2 [], .ptr 3 [], .dead, .dead, .ptr 4 [], .pl (.int .i64), .dead, .dead, .dead, .dead, .dead, .dead, .dead, .dead, .dead, .dead, .dead, .dead, .dead, .dead, .dead, .dead, .dead, .dead, .dead, .dead, .dead, .dead, .dead, .dead, .dead, .dead, .dead, .dead, .dead, .dead, .dead, .dead, .dead, .dead, .dead, .dead, .dead, .dead, .dead, .dead, .dead, .dead, .dead, .dead, .dead, .dead, .dead, .dead, .dead, .dead, .dead, .dead, .dead, .dead, .dead, .dead, .dead, .dead, .dead, .dead, .dead, .dead, .dead, .dead, .dead, .dead, .dead, .dead, .dead, .dead, .dead, .dead, .dead, .dead, .dead, .dead, .dead, .dead, .dead, .dead, .dead, .dead, .dead, .dead, .dead, .dead], [.box Y_api_Pricer (.pl Y_api_Pricer), .box Y_api_Report (.pl Y_api_Report), .box Y_api_Pricer (.pl Y_api_Pricer), .box Y_pricer_Outcome (.pl Y_pricer_Outcome), .box Y_pricer_Outcome (.pl Y_pricer_Outcome)]⟩) | [1000000, 12], 9 => some (.join ⟨[.dead, .dead, .dead, .dead, .dead, .ptr 0 [], .ptr 1 [], .ptr 2 [], .ptr 3 [], .dead, .ptr 4 [], .ptr 5 [], .dead, .dead, .ptr 6 [], .pl (.int .i64), .dead, .dead, .dead, .dead, .dead, .dead, .dead, .dead, .dead, .dead, .dead, .dead, .dead, .dead, .dead, .dead, .dead, .dead, .dead, .dead, .dead, .dead, .dead, .dead, .dead, .dead, .dead, .dead, .dead, .dead, .dead, .dead, .dead, .dead, .dead, .dead, .dead, .dead, .dead, .dead, .dead, .dead, .dead, .dead, .dead, .dead, .dead, .dead, .dead, .dead, .dead, .dead, .dead, .dead, .dead, .dead, .dead, .dead, .dead, .dead, .dead, .dead, .dead, .dead, .dead, .dead, .dead, .dead, .dead, .dead, .dead, .dead, .dead, .dead, .dead, .dead, .dead, .dead, .dead, .dead, .dead, .dead, .dead, .dead, .dead, .dead], [.box Y_api_Pricer (.pl Y_api_Pricer), .box Y_api_Params (.pl Y_api_Params), .box u256 (.pl u256), .box Y_api_Report (.pl Y_api_Report), .box Y_api_Pricer (.pl Y_api_Pricer), .box Y_pricer_Outcome (.pl Y_pricer_Outcome), .box Y_pricer_Outcome (.pl Y_pricer_Outcome)]⟩) | _, _ => none
theorem ev12 : ∀ x, evalFn env12 ann12 12 ⟨[.pl Y_api_Pricer, .pl Y_api_Params, .pl u256, .pl Y_api_Report, .pl (.int .u64)], []⟩ ⟨[.pl Y_api_Pricer, .pl Y_pricer_Outcome, .pl (.int .i64)], []⟩ 60 K0 x = pricer_Report x := by intro x; kernel_rfl
theorem ok12 : ConOk Try.prog 12 pricer_ReportC := con_of_ev (E := env12) (envOk tysOk eqsOk (show HowsOk Try.prog [(26, .con pricer_checkReportC), (27, .con pricer_allocateC), (28, .con poster_AccrueC), (29, .con payout_PlanC), (30, .con payout_ApplyC), (31, .con pricer_adjustC)] from (And.intro ok26 (And.intro ok27 (And.intro ok28 (And.intro ok29 (And.intro ok30 (And.intro ok31 trivial))))))) follows methsOk) noOddP fun x _ h => ⟨ann12, 60, K0, (ev12 x).trans h⟩
noncomputable def params_GenesisC : Con := ⟨⟨[], []⟩, ⟨[.pl Y_api_Params], []⟩, params_Genesis⟩
noncomputable def env16 : Env := mkEnv Try.prog tys eqs [(22, .con uint256_FromUint64C)] owns meths
def ann16 : Anns := fun _ _ => none
theorem ev16 : ∀ x, evalFn env16 ann16 16 ⟨[], []⟩ ⟨[.pl Y_api_Params], []⟩ 60 K0 x = params_Genesis x := by intro x; kernel_rfl
theorem ok16 : ConOk Try.prog 16 params_GenesisC := con_of_ev (E := env16) (envOk tysOk eqsOk (show HowsOk Try.prog [(22, .con uint256_FromUint64C)] from (And.intro ok22 trivial)) follows methsOk) noOddP fun x _ h => ⟨ann16, 60, K0, (ev16 x).trans h⟩
noncomputable def pontagelaw21_awakeC : Con := ⟨⟨[], []⟩, ⟨[.pl .bool], []⟩, pontagelaw21_awake⟩
noncomputable def env7 : Env := mkEnv Try.prog tys eqs [(9, .con pricer_GenesisC), (10, .con pricer_AddPosterC), (12, .con pricer_ReportC), (16, .con params_GenesisC)] owns meths
def ann7 : Anns := fun _ _ => none
theorem ev7 : ∀ x, evalFn env7 ann7 7 ⟨[], []⟩ ⟨[.pl .bool], []⟩ 160 K0 x = pontagelaw21_awake x := by intro x; kernel_rfl
theorem ok7 : ConOk Try.prog 7 pontagelaw21_awakeC := con_of_ev (E := env7) (envOk tysOk eqsOk (show HowsOk Try.prog [(9, .con pricer_GenesisC), (10, .con pricer_AddPosterC), (12, .con pricer_ReportC), (16, .con params_GenesisC)] from (And.intro ok9 (And.intro ok10 (And.intro ok12 (And.intro ok16 trivial))))) follows methsOk) noOddP fun x _ h => ⟨ann7, 160, K0, (ev7 x).trans h⟩
noncomputable def pontagelaw14_ValidParamsC : Con := ⟨⟨[.pl (.arr 8 (.int .u64))], []⟩, ⟨[.pl Y_api_Params], []⟩, pontagelaw14_ValidParams⟩
noncomputable def env8 : Env := mkEnv Try.prog tys eqs [(16, .con params_GenesisC)] owns meths
def ann8 : Anns := fun _ _ => none
theorem ev8 : ∀ x, evalFn env8 ann8 8 ⟨[.pl (.arr 8 (.int .u64))], []⟩ ⟨[.pl Y_api_Params], []⟩ 160 K0 x = pontagelaw14_ValidParams x := by intro x; kernel_rfl
theorem ok8 : ConOk Try.prog 8 pontagelaw14_ValidParamsC := con_of_ev (E := env8) (envOk tysOk eqsOk (show HowsOk Try.prog [(16, .con params_GenesisC)] from (And.intro ok16 trivial)) follows methsOk) noOddP fun x _ h => ⟨ann8, 160, K0, (ev8 x).trans h⟩
noncomputable def pontagelaw0_ModC : Con := ⟨⟨[.pl (.int .i64), .pl (.int .i64)], []⟩, ⟨[.pl (.int .i64)], []⟩, pontagelaw0_Mod⟩
noncomputable def env25 : Env := mkEnv Try.prog tys eqs [] owns meths
def ann25 : Anns := fun _ _ => none
theorem ev25 : ∀ x, evalFn env25 ann25 25 ⟨[.pl (.int .i64), .pl (.int .i64)], []⟩ ⟨[.pl (.int .i64)], []⟩ 160 K0 x = pontagelaw0_Mod x := by intro x; kernel_rfl
theorem ok25 : ConOk Try.prog 25 pontagelaw0_ModC := con_of_ev (E := env25) (envOk tysOk eqsOk (show HowsOk Try.prog [] from trivial) follows methsOk) noOddP fun x _ h => ⟨ann25, 160, K0, (ev25 x).trans h⟩
noncomputable def pontagelaw21_normalizeC : Con := ⟨⟨[.pl Y_pontagelaw21_Call, .pl (.int .i64), .pl Y_api_Pricer, .pl (.int .u64)], []⟩, ⟨[.pl Y_pontagelaw21_Call], []⟩, pontagelaw21_normalize⟩
noncomputable def env11 : Env := mkEnv Try.prog tys eqs [(25, .con pontagelaw0_ModC)] owns meths
def ann11 : Anns := fun _ _ => none
theorem ev11 : ∀ x, evalFn env11 ann11 11 ⟨[.pl Y_pontagelaw21_Call, .pl (.int .i64), .pl Y_api_Pricer, .pl (.int .u64)], []⟩ ⟨[.pl Y_pontagelaw21_Call], []⟩ 160 K0 x = pontagelaw21_normalize x := by intro x; kernel_rfl
theorem ok11 : ConOk Try.prog 11 pontagelaw21_normalizeC := con_of_ev (E := env11) (envOk tysOk eqsOk (show HowsOk Try.prog [(25, .con pontagelaw0_ModC)] from (And.intro ok25 trivial)) follows methsOk) noOddP fun x _ h => ⟨ann11, 160, K0, (ev11 x).trans h⟩
noncomputable def pricer_clonedC : Con := ⟨⟨[.pl Y_api_Pricer], []⟩, ⟨[.pl Y_api_Pricer], []⟩, pricer_cloned⟩
noncomputable def env36 : Env := mkEnv Try.prog tys eqs [(43, .con slices_Clone___api_Poster_api_Poster_C)] owns meths
def ann36 : Anns := fun _ _ => none
theorem ev36 : ∀ x, evalFn env36 ann36 36 ⟨[.pl Y_api_Pricer], []⟩ ⟨[.pl Y_api_Pricer], []⟩ 60 K0 x = pricer_cloned x := by intro x; kernel_rfl
theorem ok36 : ConOk Try.prog 36 pricer_clonedC := con_of_ev (E := env36) (envOk tysOk eqsOk (show HowsOk Try.prog [(43, .con slices_Clone___api_Poster_api_Poster_C)] from (And.intro ok43 trivial)) follows methsOk) noOddP fun x _ h => ⟨ann36, 60, K0, (ev36 x).trans h⟩
noncomputable def pricer_AddUnitsC : Con := ⟨⟨[.pl Y_api_Pricer, .pl (.int .u64)], []⟩, ⟨[.pl Y_api_Pricer, .pl (.int .i64)], []⟩, pricer_AddUnits⟩
noncomputable def env18 : Env := mkEnv Try.prog tys eqs [(23, .con pricer_ValidC), (35, .con add64C), (36, .con pricer_clonedC)] owns meths
def ann18 : Anns := fun _ _ => none
theorem ev18 : ∀ x, evalFn env18 ann18 18 ⟨[.pl Y_api_Pricer, .pl (.int .u64)], []⟩ ⟨[.pl Y_api_Pricer, .pl (.int .i64)], []⟩ 60 K0 x = pricer_AddUnits x := by intro x; kernel_rfl
theorem ok18 : ConOk Try.prog 18 pricer_AddUnitsC := con_of_ev (E := env18) (envOk tysOk eqsOk (show HowsOk Try.prog [(23, .con pricer_ValidC), (35, .con add64C), (36, .con pricer_clonedC)] from (And.intro ok23 (And.intro ok35 (And.intro ok36 trivial)))) follows methsOk) noOddP fun x _ h => ⟨ann18, 60, K0, (ev18 x).trans h⟩
noncomputable def uint256_SaturatingMulC : Con := ⟨⟨[.pl u256, .pl u256], []⟩, ⟨[.pl u256], []⟩, uint256_SaturatingMul⟩
noncomputable def env21 : Env := mkEnv Try.prog tys eqs [(37, .con uint256_maxValueC), (40, .con uint256_MulC)] owns meths
def ann21 : Anns := fun _ _ => none
theorem ev21 : ∀ x, evalFn env21 ann21 21 ⟨[.pl u256, .pl u256], []⟩ ⟨[.pl u256], []⟩ 60 K0 x = uint256_SaturatingMul x := by intro x; kernel_rfl
theorem ok21 : ConOk Try.prog 21 uint256_SaturatingMulC := con_of_ev (E := env21) (envOk tysOk eqsOk (show HowsOk Try.prog [(37, .con uint256_maxValueC), (40, .con uint256_MulC)] from (And.intro ok37 (And.intro ok40 trivial))) follows methsOk) noOddP fun x _ h => ⟨ann21, 60, K0, (ev21 x).trans h⟩
noncomputable def pontagelaw21_PricerAccountingC : Con := ⟨⟨[.pl (.sl Y_pontagelaw21_Call), .pl (.arr 8 (.int .u64))], []⟩, ⟨[.pl .bool], []⟩, pontagelaw21_PricerAccounting⟩
noncomputable def env6 : Env := mkEnv Try.prog tys eqs [(7, .con pontagelaw21_awakeC), (8, .con pontagelaw14_ValidParamsC), (9, .con pricer_GenesisC), (10, .con pricer_AddPosterC), (11, .con pontagelaw21_normalizeC), (12, .con pricer_ReportC), (13, .con payout_SumC), (14, .con poster_TotalDueC), (18, .con pricer_AddUnitsC), (19, .con uint256_SaturatingAddC), (20, .con poster_FindC), (21, .con uint256_SaturatingMulC)] owns meths
def ann6 : Anns := fun p c => match p, c with | [1000000, 6], 30 => some (.join ⟨[.pl (.sl Y_pontagelaw21_Call), .dead, .dead, .dead, .dead, .ptr 0 [], .ptr 1 [], .dead, .pl (.int .u64), .pl (.int .i64), .ptr 2 [], .dead, .dead, .ptr 3 [], .ptr 4 [], .dead, .dead, .dead, .dead, .dead, .dead, .pl (.int .i64), .dead, .dead, .dead, .dead, .dead, .dead, .dead, .dead, .dead, .dead, .dead, .dead, .dead, .dead, .dead, .dead, .dead, .dead, .dead, .dead, .dead, .dead, .dead, .dead, .dead, .dead, .dead, .dead, .dead, .dead, .dead, .dead, .dead, .dead, .dead, .dead, .dead, .dead, .dead, .dead, .dead, .dead, .dead, .dead, .dead, .dead, .dead, .dead, .dead, .dead, .dead, .dead, .dead, .dead, .dead, .dead, .dead, .dead, .dead, .dead, .dead, .dead, .dead, .dead, .dead, .dead, .dead, .dead, .dead, .dead, .dead, .dead, .dead, .dead, .dead, .dead, .dead, .dead, .dead, .dead, .dead, .dead, .dead, .dead, .dead, .dead, .dead, .dead, .dead, .dead, .dead, .dead, .dead, .dead, .dead, .dead, .dead, .dead, .dead, .dead, .dead, .dead, .dead, .dead, .dead, .dead, .dead, .dead, .dead, .dead, .dead, .dead, .dead, .dead, .dead, .dead, .dead, .ptr 4 [.fld 1], .pl u256, .ptr 0 [.fld 7], .pl u256, .ptr 4 [.fld 0], .pl (.int .u64), .pl u256, .pl u256, .pl .bool, .dead, .dead, .pl (.int .i64), .pl .bool, .dead, .dead, .ptr 3 [.fld 1], .pl (.int .u64), .ptr 1 [.fld 1], .pl (.int .u64), .ptr 4 [.fld 0], .pl (.int .u64), .pl (.int .u64), .pl .bool, .dead, .dead, .ptr 3 [.fld 2], .pl (.int .u64), .ptr 2 [.fld 4], .ptr 2 [.fld 4, .fld 1], .pl (.int .u64), .pl .bool, .dead, .dead, .ptr 3 [.fld 3], .pl (.int .u64), .ptr 1 [.fld 3], .pl (.int .u64), .pl (.int .u64), .pl .bool, .dead, .dead, .dead, .dead, .dead, .dead, .dead, .dead, .dead, .dead, .dead, .dead, .dead, .dead, .dead, .dead, .dead, .dead, .dead, .dead, .dead, .dead, .dead, .dead, .dead, .dead, .dead, .dead, .dead, .dead, .dead, .dead, .dead, .dead, .dead, .dead, .dead, .dead], [.box Y_api_Params (.pl Y_api_Params), .box Y_api_Pricer (.pl Y_api_Pricer), .box Y_pontagelaw21_Call (.pl Y_pontagelaw21_Call), .box Y_api_Pricer (.pl Y_api_Pricer), .box Y_pricer_Outcome (.pl Y_pricer_Outcome)]⟩) | [6], 0 => some (.tmpl ⟨[.pl (.sl Y_pontagelaw21_Call), .dead, .dead, .dead, .dead, .ptr 0 [], .ptr 1 [], .pl (.int .u64), .dead, .dead, .dead, .dead, .dead, .dead, .dead, .dead, .dead, .dead, .dead, .dead, .dead, .dead, .dead, .dead, .dead, .dead, .dead, .dead, .dead, .dead, .dead, .dead, .dead, .dead, .dead, .dead, .dead, .dead, .dead, .dead, .dead, .dead, .dead, .dead, .dead, .dead, .dead, .dead, .dead, .dead, .dead, .dead, .dead, .dead, .dead, .dead, .dead, .dead, .dead, .dead, .dead, .dead, .dead, .dead, .dead, .dead, .dead, .dead, .dead, .dead, .dead, .dead, .dead, .dead, .dead, .dead, .dead, .dead, .dead, .dead, .dead, .dead, .dead, .dead, .dead, .dead, .dead, .dead, .dead, .dead, .dead, .dead, .dead, .dead, .dead, .dead, .dead, .dead, .dead, .dead, .dead, .dead, .dead, .dead, .dead, .dead, .dead, .dead, .dead, .dead, .dead, .dead, .dead, .dead, .dead, .dead, .dead, .dead, .dead, .dead, .dead, .dead, .dead, .dead, .dead, .dead, .dead, .dead, .dead, .dead, .dead, .dead, .dead, .dead, .dead, .dead, .dead, .dead, .dead, .dead, .dead, .dead, .dead, .dead, .dead, .dead, .dead, .dead, .dead, .dead, .dead, .dead, .dead, .dead, .dead, .dead, .dead, .dead, .dead, .dead, .dead, .dead, .dead, .dead, .dead, .dead, .dead, .dead, .dead, .dead, .dead, .dead, .dead, .dead, .dead, .dead, .dead, .dead, .dead, .dead, .dead, .dead, .dead, .dead, .dead, .dead, .dead, .dead, .dead, .dead, .dead, .dead, .dead, .dead, .dead, .dead, .dead, .dead, .dead, .dead, .dead, .dead, .dead, .dead, .dead, .dead, .dead, .dead, .dead, .dead, .dead, .dead, .dead, .dead, .dead, .dead], [.box Y_api_Params (.pl Y_api_Params), .box Y_api_Pricer (.pl Y_api_Pricer)]⟩) | [6], 2 => some (.tmpl ⟨[.pl (.sl Y_pontagelaw21_Call), .dead, .dead, .dead, .dead, .ptr 0 [], .ptr 1 [], .dead, .pl (.int .u64), .pl (.int .i64), .dead, .dead, .dead, .dead, .dead, .dead, .dead, .dead, .dead, .dead, .dead, .dead, .dead, .dead, .dead, .dead, .dead, .dead, .dead, .dead, .dead, .dead, .dead, .dead, .dead, .dead, .dead, .dead, .dead, .dead, .dead, .dead, .dead, .dead, .dead, .dead, .dead, .dead, .dead, .dead, .dead, .dead, .dead, .dead, .dead, .dead, .dead, .dead, .dead, .dead, .dead, .dead, .dead, .dead, .dead, .dead, .dead, .dead, .dead, .dead, .dead, .dead, .dead, .dead, .dead, .dead, .dead, .dead, .dead, .dead, .dead, .dead, .dead, .dead, .dead, .dead, .dead, .dead, .dead, .dead, .dead, .dead, .dead, .dead, .dead, .dead, .dead, .dead, .dead, .dead, .dead, .dead, .dead, .dead, .dead, .dead, .dead, .dead, .dead, .dead, .dead, .dead, .dead, .dead, .dead, .dead, .dead, .dead, .dead, .dead, .dead, .dead, .dead, .dead, .dead, .dead, .dead, .dead, .dead, .dead, .dead, .dead, .dead, .dead, .dead, .dead, .dead, .dead, .dead, .dead, .dead, .dead, .dead, .dead, .dead, .dead, .dead, .dead, .dead, .dead, .dead, .dead, .dead, .dead, .dead, .dead, .dead, .dead, .dead, .dead, .dead, .dead, .dead, .dead, .dead, .dead, .dead, .dead, .dead, .dead, .dead, .dead, .dead, .dead, .dead, .dead, .dead, .dead, .dead, .dead, .dead, .dead, .dead, .dead, .dead, .dead, .dead, .dead, .dead, .dead, .dead, .dead, .dead, .dead, .dead, .dead, .dead, .dead, .dead, .dead, .dead, .dead, .dead, .dead, .dead, .dead, .dead, .dead, .dead, .dead, .dead, .dead, .dead, .dead, .dead, .dead], [.box Y_api_Params (.pl Y_api_Params), .box Y_api_Pricer (.pl Y_api_Pricer)]⟩) | _, _ => none
theorem ev6 : ∀ x, evalFn env6 ann6 6 ⟨[.pl (.sl Y_pontagelaw21_Call), .pl (.arr 8 (.int .u64))], []⟩ ⟨[.pl .bool], []⟩ 160 K0 x = pontagelaw21_PricerAccounting x := by intro x; kernel_rfl
theorem ok6 : ConOk Try.prog 6 pontagelaw21_PricerAccountingC := con_of_ev (E := env6) (envOk tysOk eqsOk (show HowsOk Try.prog [(7, .con pontagelaw21_awakeC), (8, .con pontagelaw14_ValidParamsC), (9, .con pricer_GenesisC), (10, .con pricer_AddPosterC), (11, .con pontagelaw21_normalizeC), (12, .con pricer_ReportC), (13, .con payout_SumC), (14, .con poster_TotalDueC), (18, .con pricer_AddUnitsC), (19, .con uint256_SaturatingAddC), (20, .con poster_FindC), (21, .con uint256_SaturatingMulC)] from (And.intro ok7 (And.intro ok8 (And.intro ok9 (And.intro ok10 (And.intro ok11 (And.intro ok12 (And.intro ok13 (And.intro ok14 (And.intro ok18 (And.intro ok19 (And.intro ok20 (And.intro ok21 trivial))))))))))))) follows methsOk) noOddP fun x _ h => ⟨ann6, 160, K0, (ev6 x).trans h⟩
end Sym

/- Rules for what a printed function computes. -/
namespace Sym
open Go
def Wp {R : Type} (T : R → Prop) (r : R) : Prop := T r
theorem Wp.brn {R : Type} {T : R → Prop} {c : Bool} {t f : R} (h1 : c = true → Wp T t) (h2 : c = false → Wp T f) : Wp T (brn c t f) := by
  cases c
  · exact h2 rfl
  · exact h1 rfl
theorem Wp.brnT {R : Type} {T : R → Prop} {c : Bool} {t f : R} (hc : c = true) (h : Wp T t) : Wp T (Sym.brn c t f) := by subst hc; exact h
theorem Wp.brnF {R : Type} {T : R → Prop} {c : Bool} {t f : R} (hc : c = false) (h : Wp T f) : Wp T (Sym.brn c t f) := by subst hc; exact h
theorem Wp.optF {R Y : Type} {T : R → Prop} {fail : R} {o : Option Y} {k : Y → R} {y : Y} (ho : o = some y) (h : Wp T (k y)) : Wp T (optF fail o k) := by subst ho; exact h
theorem Wp.call {R Y : Type} {T : R → Prop} {fail : R} {o : Option Y} {k : Y → R} {P : Y → Prop} (ho : ∃ y, o = some y ∧ P y) (h : ∀ y, P y → Wp T (k y)) : Wp T (Sym.optF fail o k) := by
  obtain ⟨y, rfl, hp⟩ := ho
  exact h y hp
theorem Wp.jn {X R : Type} {T : R → Prop} {J : X → R} {f : (X → R) → R} (P : X → Prop) (h1 : ∀ x, P x → Wp T (J x)) (h2 : ∀ j : X → R, (∀ x, P x → Wp T (j x)) → Wp T (f j)) : Wp T (jn J f) := h2 J h1
def Rnd {X R : Type} (T : R → Prop) (Inv : X → Prop) (μ : X → Nat) (m : Nat) (s : Stp X R) : Prop :=
  match s with
  | .again y => Inv y ∧ μ y < m
  | .done r => Wp T r
theorem Wp.again {X R : Type} {T : R → Prop} {Inv : X → Prop} {μ : X → Nat} {m : Nat} {y : X} (h1 : Inv y) (h2 : μ y < m) : Wp (Rnd T Inv μ m) (.again y : Stp X R) := ⟨h1, h2⟩
theorem Wp.done {X R : Type} {T : R → Prop} {Inv : X → Prop} {μ : X → Nat} {m : Nat} {r : R} (h : Wp T r) : Wp (Rnd T Inv μ m) (.done r : Stp X R) := h
theorem Wp.iter {X R : Type} {T : R → Prop} {fail : R} {f : X → Stp X R} {x : X} (Inv : X → Prop) (μ : X → Nat) {k : Nat} (h : ∀ x, Inv x → Wp (Rnd T Inv μ (μ x)) (f x)) (hi : Inv x) (hm : μ x < k) : Wp T (iter fail f k x) := by
  induction k generalizing x with
  | zero => omega
  | succ k ih =>
    have h1 := h x hi
    unfold Sym.iter
    cases hf : f x with
    | again y =>
      rw [hf] at h1
      exact ih h1.1 (Nat.lt_of_lt_of_le h1.2 (by omega))
    | done r =>
      rw [hf] at h1
      exact h1
def Nxt {X R : Type} (T : R → Prop) (fail : R) (f : X → Stp X R) (k : Nat) (s : Stp X R) : Prop :=
  match s with
  | .again y => Wp T (Sym.iter fail f k y)
  | .done r => Wp T r
theorem Wp.unroll {X R : Type} {T : R → Prop} {fail : R} {f : X → Stp X R} {x : X} {k : Nat} (h : Wp (Nxt T fail f k) (f x)) : Wp T (Sym.iter fail f (k + 1) x) := by
  unfold Sym.iter
  cases hf : f x with
  | again y => rw [hf] at h; exact h
  | done r => rw [hf] at h; exact h
theorem Wp.next {X R : Type} {T : R → Prop} {fail : R} {f : X → Stp X R} {y : X} {k : Nat} (h : Wp T (Sym.iter fail f k y)) : Wp (Nxt T fail f k) (.again y) := h
theorem Wp.stop {X R : Type} {T : R → Prop} {fail : R} {f : X → Stp X R} {r : R} {k : Nat} (h : Wp T r) : Wp (Nxt T fail f k) (.done r) := h
theorem Wp.some {Y : Type} {T : Y → Prop} {y : Y} (h : T y) : Wp (fun o : Option Y => ∃ y, o = some y ∧ T y) (some y) := ⟨y, rfl, h⟩
theorem Wp.out {R : Type} {T : R → Prop} {r : R} (h : Wp T r) : T r := h
theorem I.of_val {k : IntKind} {n : Int} (h : k.min ≤ n ∧ n ≤ k.max) : (I.of k n).val = n := wrap_eq_of_range h
theorem of_u64 {n : Int} (h : 0 ≤ n ∧ n < 18446744073709551616) : (I.of .u64 n).val = n := I.of_val ⟨by simp [IntKind.min, IntKind.signed]; omega, by simp [IntKind.max, IntKind.bits, IntKind.signed]; omega⟩
theorem of_i64 {n : Int} (h : -9223372036854775808 ≤ n ∧ n < 9223372036854775808) : (I.of .i64 n).val = n := I.of_val ⟨by simp [IntKind.min, IntKind.bits, IntKind.signed]; omega, by simp [IntKind.max, IntKind.bits, IntKind.signed]; omega⟩
theorem of_u8 {n : Int} (h : 0 ≤ n ∧ n < 256) : (I.of .u8 n).val = n := I.of_val ⟨by simp [IntKind.min, IntKind.signed]; omega, by simp [IntKind.max, IntKind.bits, IntKind.signed]; omega⟩
theorem u64_range (x : I .u64) : 0 ≤ x.val ∧ x.val < 18446744073709551616 := I_range x
theorem i64_range (x : I .i64) : -9223372036854775808 ≤ x.val ∧ x.val < 9223372036854775808 := by
  have h := x.ok
  have h1 : (2 ^ IntKind.i64.bits : Int) = 18446744073709551616 := by decide
  have h2 : (2 ^ (IntKind.i64.bits - 1) : Int) = 9223372036854775808 := by decide
  have h3 : IntKind.i64.signed = true := rfl
  simp only [IntKind.wrap, h1, h2, h3, Bool.true_and, decide_eq_true_eq] at h
  split at h <;> omega
theorem iff_ltb {k : IntKind} {a b : I k} : I.ltb a b = true ↔ a.val < b.val := by simp [I.ltb]
theorem iff_leb {k : IntKind} {a b : I k} : I.leb a b = true ↔ a.val ≤ b.val := by simp [I.leb]
theorem iff_eqb {k : IntKind} {a b : I k} : I.eqb a b = true ↔ a.val = b.val := by simp [I.eqb]
theorem iff_neb {k : IntKind} {a b : I k} : I.neb a b = true ↔ a.val ≠ b.val := by simp [I.neb]
theorem niff_ltb {k : IntKind} {a b : I k} : I.ltb a b = false ↔ b.val ≤ a.val := by simp [I.ltb]
theorem niff_leb {k : IntKind} {a b : I k} : I.leb a b = false ↔ b.val < a.val := by simp [I.leb]
theorem niff_eqb {k : IntKind} {a b : I k} : I.eqb a b = false ↔ a.val ≠ b.val := by simp [I.eqb]
theorem niff_neb {k : IntKind} {a b : I k} : I.neb a b = false ↔ a.val = b.val := by simp [I.neb]
theorem iff_nz {k : IntKind} {a : I k} : I.nz a = true ↔ a.val ≠ 0 := by simp [I.nz]
theorem iff_nn {k : IntKind} {a : I k} : I.nn a = true ↔ 0 ≤ a.val := by simp [I.nn]
theorem iff_inB {k : IntKind} {a : I k} {n : Nat} : inB a n = true ↔ 0 ≤ a.val ∧ a.val < n := by simp [inB]
theorem iff_fits {n : Nat} : fitsLen n = true ↔ n ≤ 1073741824 := by simp [fitsLen]
theorem I.eq_of {k : IntKind} {a b : I k} (h : I.eqb a b = true) : a = b := I.ext' (iff_eqb.1 h)
theorem add_i64 {a b : I .i64} (h : -9223372036854775808 ≤ a.val + b.val ∧ a.val + b.val < 9223372036854775808) : (I.add a b).val = a.val + b.val := of_i64 h
theorem sub_i64 {a b : I .i64} (h : -9223372036854775808 ≤ a.val - b.val ∧ a.val - b.val < 9223372036854775808) : (I.sub a b).val = a.val - b.val := of_i64 h
theorem mul_i64 {a b : I .i64} (h : -9223372036854775808 ≤ a.val * b.val ∧ a.val * b.val < 9223372036854775808) : (I.mul a b).val = a.val * b.val := of_i64 h
theorem rem_i64 {a b : I .i64} (h : 0 ≤ a.val) (h2 : 0 < b.val) : (I.rem a b).val = a.val % b.val := by
  have ha := i64_range a
  have hb := i64_range b
  have e : a.val.tmod b.val = a.val % b.val := Int.tmod_eq_emod_of_nonneg h
  have h3 := Int.emod_nonneg a.val (b := b.val) (by omega)
  have h4 := Int.emod_lt_of_pos a.val h2
  unfold I.rem
  rw [e]
  exact of_i64 ⟨by omega, by omega⟩
theorem quo_i64 {a b : I .i64} (h : 0 ≤ a.val) (h2 : 0 < b.val) : (I.quo a b).val = a.val / b.val := by
  have ha := i64_range a
  have e : a.val.tdiv b.val = a.val / b.val := Int.tdiv_eq_ediv_of_nonneg h
  have h3 : 0 ≤ a.val / b.val := Int.ediv_nonneg h (by omega)
  have h4 : a.val / b.val ≤ a.val := Int.ediv_le_self _ h
  unfold I.quo
  rw [e]
  exact of_i64 ⟨by omega, by omega⟩
theorem add_u64 {a b : I .u64} (h : a.val + b.val < 18446744073709551616) : (I.add a b).val = a.val + b.val := of_u64 ⟨by have := u64_range a; have := u64_range b; omega, h⟩
theorem sub_u64 {a b : I .u64} (h : b.val ≤ a.val) : (I.sub a b).val = a.val - b.val := of_u64 ⟨by omega, by have := u64_range a; have := u64_range b; omega⟩
theorem rem_u64 {a b : I .u64} (h2 : b.val ≠ 0) : (I.rem a b).val = a.val % b.val := by
  have ha := u64_range a
  have hb := u64_range b
  have e : a.val.tmod b.val = a.val % b.val := Int.tmod_eq_emod_of_nonneg ha.1
  have h3 := Int.emod_nonneg a.val (b := b.val) (by omega)
  have h4 := Int.emod_lt_of_pos a.val (b := b.val) (by omega)
  unfold I.rem
  rw [e]
  exact of_u64 ⟨by omega, by omega⟩
theorem quo_u64 {a b : I .u64} : (I.quo a b).val = a.val / b.val := by
  have ha := u64_range a
  have hb := u64_range b
  have e : a.val.tdiv b.val = a.val / b.val := Int.tdiv_eq_ediv_of_nonneg ha.1
  have h3 : 0 ≤ a.val / b.val := Int.ediv_nonneg ha.1 hb.1
  have h4 : a.val / b.val ≤ a.val := Int.ediv_le_self _ ha.1
  unfold I.quo
  rw [e]
  exact of_u64 ⟨by omega, by omega⟩
theorem nn_u64 (a : I .u64) : I.nn a = true := iff_nn.2 (u64_range a).1
theorem shl_one {a : I .u64} (h : a.val < 64) : (I.shl (I.of .u64 1) a).val = 2 ^ a.val.toNat := by
  have ha := u64_range a
  have hm : min a.val.toNat IntKind.u64.bits = a.val.toNat := by
    have : IntKind.u64.bits = 64 := rfl
    omega
  have h1 : (I.of .u64 1).val = 1 := rfl
  unfold I.shl
  rw [hm, h1, Int.one_mul]
  refine of_u64 ⟨Int.le_of_lt (Int.pow_pos (by decide)), ?_⟩
  have h3 : 2 ^ a.val.toNat ≤ 2 ^ 63 := Nat.pow_le_pow_right (by decide) (by omega)
  have h4 : ((2 ^ a.val.toNat : Nat) : Int) = 2 ^ a.val.toNat := by simp
  rw [← h4]
  omega
end Sym

/- Natural numbers as ints; lists as rows. -/
namespace Sym
open Go
def i6 (n : Nat) : I .i64 := I.of .i64 (n : Int)
theorem i6_val {n : Nat} (h : n < 9223372036854775808) : (i6 n).val = n := of_i64 ⟨by omega, by omega⟩
theorem i6_nat {n : Nat} (h : n < 9223372036854775808) : I.nat (i6 n) = n := by unfold I.nat; rw [i6_val h]; simp
theorem i6_add {n m : Nat} (h : n + m < 9223372036854775808) : I.add (i6 n) (i6 m) = i6 (n + m) := by
  apply I.ext'
  rw [add_i64 (by rw [i6_val (by omega), i6_val (by omega)]; omega), i6_val (by omega), i6_val (by omega), i6_val h]
  omega
theorem i6_sub {n m : Nat} (h : n < 9223372036854775808) (hm : m ≤ n) : I.sub (i6 n) (i6 m) = i6 (n - m) := by
  apply I.ext'
  rw [sub_i64 (by rw [i6_val (by omega), i6_val (by omega)]; omega), i6_val (by omega), i6_val (by omega), i6_val (by omega)]
  omega
theorem i6_ltb {n m : Nat} (hn : n < 9223372036854775808) (hm : m < 9223372036854775808) : I.ltb (i6 n) (i6 m) = decide (n < m) := by
  simp only [I.ltb, i6_val hn, i6_val hm]
  by_cases h : n < m
  · rw [decide_eq_true h, decide_eq_true (by omega)]
  · rw [decide_eq_false h, decide_eq_false (by omega)]
theorem i6_leb {n m : Nat} (hn : n < 9223372036854775808) (hm : m < 9223372036854775808) : I.leb (i6 n) (i6 m) = decide (n ≤ m) := by
  simp only [I.leb, i6_val hn, i6_val hm]
  by_cases h : n ≤ m
  · rw [decide_eq_true h, decide_eq_true (by omega)]
  · rw [decide_eq_false h, decide_eq_false (by omega)]
theorem i6_inB {n m : Nat} (hn : n < m) (hm : n < 9223372036854775808) : inB (i6 n) m = true := iff_inB.2 (by rw [i6_val hm]; omega)
theorem i6_inB' {n m : Nat} (hn : n ≤ m) (hm : n < 9223372036854775808) : inB' (i6 n) m = true := by
  simp only [inB', Bool.and_eq_true, decide_eq_true_eq, i6_val hm]
  omega
theorem i6_of (n : Nat) : I.of .i64 (n : Int) = i6 n := rfl
theorem i6_ofNat (n : Nat) : I.ofNat .i64 n = i6 n := rfl
theorem i6_eqb {n m : Nat} (hn : n < 9223372036854775808) (hm : m < 9223372036854775808) : I.eqb (i6 n) (i6 m) = decide (n = m) := by
  simp only [I.eqb, i6_val hn, i6_val hm]
  by_cases h : n = m
  · rw [decide_eq_true h, decide_eq_true (by omega)]
  · rw [decide_eq_false h, decide_eq_false (by omega)]
theorem rdL_eq {X : Type} (d : X) : ∀ (l : List X) (i : Nat) (h : i < l.length), rdL d l i = l[i]
  | x :: l, 0, _ => rfl
  | x :: l, i + 1, h => rdL_eq d l i (by simpa using h)
theorem rdL_out {X : Type} (d : X) : ∀ (l : List X) (i : Nat), l.length ≤ i → rdL d l i = d
  | [], _, _ => rfl
  | _ :: _, 0, h => by simp at h
  | _ :: l, i + 1, h => rdL_out d l i (by simpa using h)
theorem setAt_eq {X : Type} : ∀ (l : List X) (i : Nat) (v : X), setAt l i v = l.set i v
  | [], _, _ => rfl
  | _ :: _, 0, _ => rfl
  | x :: l, i + 1, v => by simp [setAt, setAt_eq l i v]
theorem rdL_set {X : Type} (d : X) (l : List X) (i k : Nat) (v : X) : rdL d (setAt l i v) k = if k = i ∧ i < l.length then v else rdL d l k := by
  rw [setAt_eq]
  by_cases hk : k < l.length
  · rw [rdL_eq d _ k (by simpa using hk), List.getElem_set]
    by_cases h : k = i
    · subst h; simp [hk]
    · rw [if_neg (by omega), if_neg (by omega), rdL_eq d l k hk]
  · rw [rdL_out _ _ _ (by simp; omega), rdL_out _ _ _ (by omega), if_neg (by omega)]
theorem rdL_app {X : Type} (d : X) (l m : List X) (k : Nat) : rdL d (l ++ m) k = if k < l.length then rdL d l k else rdL d m (k - l.length) := by
  induction l generalizing k with
  | nil => simp
  | cons x l ih =>
    cases k with
    | zero => simp [rdL]
    | succ k =>
      simp only [List.cons_append, rdL, ih, List.length_cons, Nat.add_lt_add_iff_right, Nat.add_sub_add_right]
theorem rdL_take {X : Type} (d : X) (l : List X) (n k : Nat) (h : k < n) : rdL d (l.take n) k = rdL d l k := by
  by_cases hk : k < l.length
  · rw [rdL_eq d _ k (by simp; omega), rdL_eq d l k hk, List.getElem_take]
  · rw [rdL_out _ _ _ (by simp; omega), rdL_out _ _ _ (by omega)]
theorem rdL_mem {X : Type} (d : X) (l : List X) (k : Nat) (h : k < l.length) : rdL d l k ∈ l := by rw [rdL_eq d l k h]; exact List.getElem_mem h
theorem mem_rdL {X : Type} (d : X) {l : List X} {x : X} (h : x ∈ l) : ∃ k, k < l.length ∧ rdL d l k = x := by
  obtain ⟨k, hk, e⟩ := List.getElem_of_mem h
  exact ⟨k, hk, by rw [rdL_eq d l k hk, e]⟩
theorem subL_take {X : Type} (s : List X) (n : Nat) : subL s 0 n = s.take n := by simp [subL]
theorem lenL_eq {X : Type} (l : List X) : lenL l = l.length := rfl
theorem eqb_iff : ∀ (t : Ty), t.eqOk = true → ∀ x y : t.D, Ty.eqb t x y = true ↔ x = y := by
  intro t
  induction t with
  | int k => intro _ x y; simp only [Ty.eqb, decide_eq_true_eq]; exact ⟨fun h => I.ext' h, fun h => by rw [h]⟩
  | bool => intro _ x y; exact (by decide : ∀ a b : Bool, (a == b) = true ↔ a = b) x y
  | nil => intro _ x y; exact ⟨fun _ => rfl, fun _ => rfl⟩
  | cons a b iha ihb =>
    intro h x y
    simp only [Ty.eqOk, Bool.and_eq_true] at h
    simp only [Ty.eqb, Bool.and_eq_true, iha h.1, ihb h.2]
    obtain ⟨x1, x2⟩ := x
    obtain ⟨y1, y2⟩ := y
    exact ⟨fun h => by rw [show x1 = y1 from h.1, show x2 = y2 from h.2], fun h => ⟨congrArg Prod.fst h, congrArg Prod.snd h⟩⟩
  | arr n t ih =>
    intro h x y
    have key : ∀ (n : Nat) (x y : Arr t.D n), Arr.eqb t.eqb n x y = true ↔ x = y := by
      intro n
      induction n with
      | zero => intro x y; exact ⟨fun _ => rfl, fun _ => rfl⟩
      | succ n ihn =>
        intro x y
        simp only [Arr.eqb, Bool.and_eq_true, ih h, ihn]
        obtain ⟨x1, x2⟩ := x
        obtain ⟨y1, y2⟩ := y
        exact ⟨fun h => by rw [show x1 = y1 from h.1, show x2 = y2 from h.2], fun h => ⟨congrArg Prod.fst h, congrArg Prod.snd h⟩⟩
    exact key n x y
  | str => intro h; cases h
  | sl t _ => intro h; cases h
  | opq => intro h; cases h
theorem fits_le {n : Nat} (h : n ≤ 1073741824) : fitsLen n = true := iff_fits.2 h
end Sym

/- Natural numbers by digits of 65536: what the reference's first functions compute. -/
namespace Sym
open Go
abbrev Dg : Type := I .i64
def bv : List Dg → Nat
  | [] => 0
  | d :: l => d.nat + 65536 * bv l
def DigOk (d : Dg) : Prop := 0 ≤ d.val ∧ d.val < 65536
def Digs (l : List Dg) : Prop := ∀ d ∈ l, DigOk d
def Lead : List Dg → Prop
  | [] => True
  | [d] => d.val ≠ 0
  | _ :: e :: l => Lead (e :: l)
structure IsB (l : List Dg) (n : Nat) : Prop where
  dig : Digs l
  lead : Lead l
  val : bv l = n
theorem DigOk.nat {d : Dg} (h : DigOk d) : (d.nat : Int) = d.val ∧ d.nat < 65536 := by
  unfold DigOk at h
  unfold I.nat
  omega
theorem digs_cons {d : Dg} {l : List Dg} : Digs (d :: l) ↔ DigOk d ∧ Digs l := by
  unfold Digs
  simp
theorem bv_lt : ∀ {l : List Dg}, Digs l → bv l < 65536 ^ l.length
  | [], _ => by simp [bv]
  | d :: l, h => by
    have h := digs_cons.1 h
    have h1 := h.1.nat.2
    have h2 := bv_lt h.2
    simp only [bv, List.length_cons, Nat.pow_succ]
    omega
theorem bv_ge : ∀ {l : List Dg}, Digs l → Lead l → l ≠ [] → 65536 ^ (l.length - 1) ≤ bv l
  | [], _, _, h => absurd rfl h
  | [d], hd, hl, _ => by
    have h := (digs_cons.1 hd).1.nat.1
    have : d.val ≠ 0 := hl
    simp only [bv, List.length_singleton, Nat.sub_self, Nat.pow_zero]
    omega
  | d :: e :: l, hd, hl, _ => by
    have := bv_ge (l := e :: l) (digs_cons.1 hd).2 hl (by simp)
    simp only [List.length_cons, Nat.add_sub_cancel] at this ⊢
    simp only [bv, Nat.pow_succ] at *
    omega
theorem IsB.len {l : List Dg} {n k : Nat} (h : IsB l n) : l.length ≤ k ↔ n < 65536 ^ k := by
  have h1 := bv_lt h.dig
  rw [h.val] at h1
  constructor
  · intro hk
    exact Nat.lt_of_lt_of_le h1 (Nat.pow_le_pow_right (by decide) hk)
  · intro hn
    rcases Nat.lt_or_ge k l.length with hk | hk
    · have h2 := bv_ge h.dig h.lead (by intro e; subst e; simp at hk)
      rw [h.val] at h2
      have h3 : 65536 ^ k ≤ 65536 ^ (l.length - 1) := Nat.pow_le_pow_right (by decide) (by omega)
      omega
    · exact hk
theorem K0_ge (n : Nat) (h : n < 2 ^ 64) : n < K0 := by rw [K0_eq]; exact h
end Sym

/- Natural numbers by digits of 65536: from and to 256 bits, comparison. -/
namespace Sym
open Go
theorem fdiv_pos (a : Int) (n : Nat) (h : 0 ≤ a) : a.fdiv ((2 : Int) ^ n) = a / (2 : Int) ^ n := by
  have h2 : (0 : Int) ≤ (2 : Int) ^ n := Int.le_of_lt (Int.pow_pos (by decide))
  rw [Int.fdiv_eq_ediv_of_nonneg _ h2]
theorem shr_u64 (x s : I .u64) (hs : s.val < 64) : (I.shr x s).val = x.val / (2 : Int) ^ s.val.toNat := by
  have hx := u64_range x
  have h0 := u64_range s
  have hm : min s.val.toNat IntKind.u64.bits = s.val.toNat := by
    have : IntKind.u64.bits = 64 := rfl
    omega
  unfold I.shr
  rw [hm, fdiv_pos _ _ hx.1]
  have h2 : (0 : Int) < (2 : Int) ^ s.val.toNat := Int.pow_pos (by decide)
  have h3 : 0 ≤ x.val / (2 : Int) ^ s.val.toNat := Int.ediv_nonneg hx.1 (by omega)
  have h4 : x.val / (2 : Int) ^ s.val.toNat ≤ x.val := Int.ediv_le_self _ hx.1
  exact of_u64 ⟨by omega, by omega⟩
end Sym

/- Natural numbers by digits of 65536: to 256 bits, comparison. -/
namespace Sym
open Go
def errS (n : Nat) : U × I .i64 := if n < U.top then (U.of n, I.of .i64 0) else (U.of 0, I.of .i64 4)
def u64U (x : I .u64) : U := (x, I.of .u64 0, I.of .u64 0, I.of .u64 0, ())
theorem u64U_val (x : I .u64) : (u64U x).val = x.nat := by
  unfold u64U U.val
  have : (I.of .u64 0).nat = 0 := rfl
  simp only [this]
  omega
end Sym

/- Natural numbers by digits of 65536: sums, differences, comparison. -/
namespace Sym
open Go
abbrev rd0 (l : List Dg) (i : Nat) : Dg := rdL (I.of .i64 0) l i
structure AddInv (a b : List Dg) (over i : I .i64) (out : List Dg) : Prop where
  o0 : 0 ≤ over.val
  o1 : over.val ≤ 1
  i0 : 0 ≤ i.val
  i1 : i.val ≤ max a.length b.length ∨ (over.val = 0 ∧ i.val = max a.length b.length + 1)
  len : (out.length : Int) = i.val
  dig : Digs out
  sum : bv out + 65536 ^ i.val.toNat * (over.nat + bv (a.drop i.val.toNat) + bv (b.drop i.val.toNat)) = bv a + bv b
  lead : over.val = 0 → (a.length : Int) ≤ i.val → (b.length : Int) ≤ i.val → Lead out
end Sym

/- Natural numbers by digits of 65536: differences, comparison. -/
namespace Sym
open Go
structure SubInv (a b : List Dg) (under i : I .i64) (out : List Dg) : Prop where
  u0 : 0 ≤ under.val
  u1 : under.val ≤ 1
  i0 : 0 ≤ i.val
  i1 : i.val ≤ a.length
  len : out.length = a.length
  dig : Digs out
  sum : bv (out.take i.val.toNat) + bv (b.take i.val.toNat) = bv (a.take i.val.toNat) + 65536 ^ i.val.toNat * under.nat
end Sym

/- Limbs of 256 bits; products of 64 bits. -/
namespace Sym
open Go
abbrev W64 : Nat := 18446744073709551616
def limb' (a : U) (i : Nat) : Nat := (Arr.sel (I.of .u64 0) 4 a i).nat
theorem limb_lt (a : U) (i : Nat) : limb' a i < W64 := nat_lt _
theorem limb_mod (a : U) (i : Nat) (h : i < 4) : a.val % W64 ^ (i + 1) = a.val % W64 ^ i + W64 ^ i * limb' a i := by
  obtain ⟨a0, a1, a2, a3, ⟨⟩⟩ := a
  have n0 := nat_lt a0
  have n1 := nat_lt a1
  have n2 := nat_lt a2
  have n3 := nat_lt a3
  have p0 : W64 ^ 0 = 1 := by decide
  have p1 : W64 ^ 1 = 18446744073709551616 := by decide
  have p2 : W64 ^ 2 = 340282366920938463463374607431768211456 := by decide
  have p3 : W64 ^ 3 = 6277101735386680763835789423207666416102355444464034512896 := by decide
  have p4 : W64 ^ 4 = 115792089237316195423570985008687907853269984665640564039457584007913129639936 := by decide
  have hc : i = 0 ∨ i = 1 ∨ i = 2 ∨ i = 3 := by omega
  rcases hc with rfl | rfl | rfl | rfl
  · show U.val _ % W64 ^ 1 = U.val _ % W64 ^ 0 + W64 ^ 0 * a0.nat
    rw [p0, p1]; unfold U.val; simp only; omega
  · show U.val _ % W64 ^ 2 = U.val _ % W64 ^ 1 + W64 ^ 1 * a1.nat
    rw [p1, p2]; unfold U.val; simp only; omega
  · show U.val _ % W64 ^ 3 = U.val _ % W64 ^ 2 + W64 ^ 2 * a2.nat
    rw [p2, p3]; unfold U.val; simp only; omega
  · show U.val _ % W64 ^ 4 = U.val _ % W64 ^ 3 + W64 ^ 3 * a3.nat
    rw [p3, p4]; unfold U.val; simp only; omega
theorem upd_val (a : U) (i : Nat) (z : I .u64) (h : i < 4) : U.val (Arr.upd 4 a i z) + W64 ^ i * limb' a i = a.val + W64 ^ i * z.nat := by
  obtain ⟨a0, a1, a2, a3, ⟨⟩⟩ := a
  have p0 : W64 ^ 0 = 1 := by decide
  have p1 : W64 ^ 1 = 18446744073709551616 := by decide
  have p2 : W64 ^ 2 = 340282366920938463463374607431768211456 := by decide
  have p3 : W64 ^ 3 = 6277101735386680763835789423207666416102355444464034512896 := by decide
  have hc : i = 0 ∨ i = 1 ∨ i = 2 ∨ i = 3 := by omega
  rcases hc with rfl | rfl | rfl | rfl
  · show U.val (z, a1, a2, a3, ()) + W64 ^ 0 * a0.nat = U.val (a0, a1, a2, a3, ()) + W64 ^ 0 * z.nat
    rw [p0]; unfold U.val; simp only; omega
  · show U.val (a0, z, a2, a3, ()) + W64 ^ 1 * a1.nat = U.val (a0, a1, a2, a3, ()) + W64 ^ 1 * z.nat
    rw [p1]; unfold U.val; simp only; omega
  · show U.val (a0, a1, z, a3, ()) + W64 ^ 2 * a2.nat = U.val (a0, a1, a2, a3, ()) + W64 ^ 2 * z.nat
    rw [p2]; unfold U.val; simp only; omega
  · show U.val (a0, a1, a2, z, ()) + W64 ^ 3 * a3.nat = U.val (a0, a1, a2, a3, ()) + W64 ^ 3 * z.nat
    rw [p3]; unfold U.val; simp only; omega
theorem and_low (x : I .u64) (n : Nat) (m : I .u64) (hn : n < 64) (hm : m.val = ((2 ^ n - 1 : Nat) : Int)) : (I.and x m).nat = x.nat % 2 ^ n := by
  have hx := u64_range x
  have h1 : (BitVec.ofInt 64 x.val).toNat = x.nat := by rw [BitVec.toNat_ofInt]; unfold I.nat; omega
  have hp : 2 ^ n ≤ 2 ^ 63 := Nat.pow_le_pow_right (by decide) (by omega)
  have h2 : (BitVec.ofInt 64 m.val).toNat = 2 ^ n - 1 := by rw [BitVec.toNat_ofInt, hm]; omega
  have h3 : (BitVec.ofInt IntKind.u64.bits x.val &&& BitVec.ofInt IntKind.u64.bits m.val).toNat = x.nat % 2 ^ n := by
    show (BitVec.ofInt 64 x.val &&& BitVec.ofInt 64 m.val).toNat = _
    rw [BitVec.toNat_and, h1, h2, Nat.and_two_pow_sub_one_eq_mod]
  unfold I.and
  rw [h3]
  have h4 : x.nat % 2 ^ n < 2 ^ n := Nat.mod_lt _ (Nat.pow_pos (by decide))
  exact of_nat (by omega)
theorem shr_nat (x s : I .u64) (hs : s.nat < 64) : (I.shr x s).nat = x.nat / 2 ^ s.nat := by
  have h0 := u64_range s
  have hx := u64_range x
  have h := shr_u64 x s (by unfold I.nat at hs; omega)
  have e : s.val.toNat = s.nat := rfl
  rw [e] at h
  have h1 : ((x.nat / 2 ^ s.nat : Nat) : Int) = x.val / (2 : Int) ^ s.nat := by
    rw [Int.natCast_ediv, nat_val]
    simp
  have := nat_val (I.shr x s)
  omega
theorem mul_nat (a b : I .u64) : (I.mul a b).nat = a.nat * b.nat % W64 := by
  have h1 := nat_val a
  have h2 := nat_val b
  unfold I.mul
  have : a.val * b.val = ((a.nat * b.nat : Nat) : Int) := by rw [← h1, ← h2, Int.natCast_mul]
  rw [this]
  show (IntKind.u64.wrap _).toNat = _ % 18446744073709551616
  rw [wrap_u64]
  omega
theorem add_nat (a b : I .u64) : (I.add a b).nat = (a.nat + b.nat) % W64 := by
  have h1 := nat_val a
  have h2 := nat_val b
  show (IntKind.u64.wrap (a.val + b.val)).toNat = _ % 18446744073709551616
  rw [wrap_u64]
  omega
theorem Mul64_ok (a b : I .u64) : ∃ hi lo : I .u64, math_bits_Mul64 ((a, b, ()), ()) = some ((hi, lo, ()), ()) ∧ lo.nat + W64 * hi.nat = a.nat * b.nat := by
  refine ⟨_, _, rfl, ?_⟩
  show (I.mul a b).nat + W64 * (I.add (I.add (I.mul (I.shr a (I.of .u64 32)) (I.shr b (I.of .u64 32))) (I.shr (I.add (I.mul (I.shr a (I.of .u64 32)) (I.and b (I.of .u64 4294967295))) (I.shr (I.mul (I.and a (I.of .u64 4294967295)) (I.and b (I.of .u64 4294967295))) (I.of .u64 32))) (I.of .u64 32)))
    (I.shr (I.add (I.and (I.add (I.mul (I.shr a (I.of .u64 32)) (I.and b (I.of .u64 4294967295))) (I.shr (I.mul (I.and a (I.of .u64 4294967295)) (I.and b (I.of .u64 4294967295))) (I.of .u64 32))) (I.of .u64 4294967295)) (I.mul (I.and a (I.of .u64 4294967295)) (I.shr b (I.of .u64 32)))) (I.of .u64 32))).nat = _
  have c32 : (I.of .u64 32).nat = 32 := rfl
  have p32 : 2 ^ 32 = 4294967296 := by decide
  have sh : ∀ x : I .u64, (I.shr x (I.of .u64 32)).nat = x.nat / 4294967296 := fun x => by rw [shr_nat _ _ (by decide), c32, p32]
  have an : ∀ x : I .u64, (I.and x (I.of .u64 4294967295)).nat = x.nat % 4294967296 := fun x => by rw [and_low x 32 _ (by decide) (by decide), p32]
  simp only [mul_nat, add_nat, sh, an]
  have ha := nat_lt a
  have hb := nat_lt b
  have ea : a.nat = 4294967296 * (a.nat / 4294967296) + a.nat % 4294967296 := by omega
  have eb : b.nat = 4294967296 * (b.nat / 4294967296) + b.nat % 4294967296 := by omega
  generalize hA1 : a.nat / 4294967296 = a1 at *
  generalize hA0 : a.nat % 4294967296 = a0 at *
  generalize hB1 : b.nat / 4294967296 = b1 at *
  generalize hB0 : b.nat % 4294967296 = b0 at *
  have la1 : a1 ≤ 4294967295 := by omega
  have la0 : a0 ≤ 4294967295 := by omega
  have lb1 : b1 ≤ 4294967295 := by omega
  have lb0 : b0 ≤ 4294967295 := by omega
  have m11 : a1 * b1 ≤ 4294967295 * 4294967295 := Nat.mul_le_mul la1 lb1
  have m10 : a1 * b0 ≤ 4294967295 * 4294967295 := Nat.mul_le_mul la1 lb0
  have m01 : a0 * b1 ≤ 4294967295 * 4294967295 := Nat.mul_le_mul la0 lb1
  have m00 : a0 * b0 ≤ 4294967295 * 4294967295 := Nat.mul_le_mul la0 lb0
  have prod : a.nat * b.nat = 18446744073709551616 * (a1 * b1) + 4294967296 * (a1 * b0) + 4294967296 * (a0 * b1) + a0 * b0 := by
    rw [ea, eb, Nat.add_mul, Nat.mul_add, Nat.mul_add]
    have e1 : 4294967296 * a1 * (4294967296 * b1) = 18446744073709551616 * (a1 * b1) := by
      rw [Nat.mul_mul_mul_comm]
    have e2 : 4294967296 * a1 * b0 = 4294967296 * (a1 * b0) := Nat.mul_assoc _ _ _
    have e3 : a0 * (4294967296 * b1) = 4294967296 * (a0 * b1) := Nat.mul_left_comm _ _ _
    rw [e1, e2, e3]
    omega
  rw [prod]
  generalize a1 * b1 = p11 at *
  generalize a1 * b0 = p10 at *
  generalize a0 * b1 = p01 at *
  generalize a0 * b0 = p00 at *
  clear ea eb prod ha hb hA1 hA0 hB1 hB0
  unfold W64
  omega
end Sym

/- Products of 256 bits. -/
namespace Sym
open Go
theorem or_zero (x y : I .u64) : I.neb (I.or x y) (I.of .u64 0) = false ↔ x.nat = 0 ∧ y.nat = 0 := by
  rw [niff_neb]
  have c0 : (I.of .u64 0).val = 0 := rfl
  have h1 : (BitVec.ofInt 64 x.val).toNat = x.nat := by have := u64_range x; rw [BitVec.toNat_ofInt]; unfold I.nat; omega
  have h2 : (BitVec.ofInt 64 y.val).toNat = y.nat := by have := u64_range y; rw [BitVec.toNat_ofInt]; unfold I.nat; omega
  have h3 : (BitVec.ofInt IntKind.u64.bits x.val ||| BitVec.ofInt IntKind.u64.bits y.val).toNat = x.nat ||| y.nat := by
    show (BitVec.ofInt 64 x.val ||| BitVec.ofInt 64 y.val).toNat = _
    rw [BitVec.toNat_or, h1, h2]
  have hlt : x.nat ||| y.nat < 2 ^ 64 := Nat.or_lt_two_pow (nat_lt x) (nat_lt y)
  have h4 : (I.or x y).val = ((x.nat ||| y.nat : Nat) : Int) := by
    unfold I.or
    rw [h3]
    exact of_u64 ⟨by omega, by omega⟩
  rw [h4, c0]
  constructor
  · intro h
    have : x.nat ||| y.nat = 0 := by omega
    exact Nat.or_eq_zero_iff.1 this
  · rintro ⟨h5, h6⟩
    rw [h5, h6]; rfl
theorem limb_le (a : U) (i : Nat) (h : i < 4) : W64 ^ i * limb' a i ≤ a.val := by
  have h1 := limb_mod a i h
  have h2 := Nat.mod_le a.val (W64 ^ (i + 1))
  rw [h1] at h2
  exact Nat.le_trans (Nat.le_add_left _ _) h2
theorem over_prod {a b : U} {i k : Nat} (hi : i < 4) (hk : k < 4) (h : 3 < i + k) (hp : limb' a i * limb' b k ≠ 0) : U.top ≤ a.val * b.val := by
  have h1 := Nat.mul_le_mul (limb_le a i hi) (limb_le b k hk)
  rw [Nat.mul_mul_mul_comm, ← Nat.pow_add] at h1
  have h2 : U.top = W64 ^ 4 := by decide
  have h3 : W64 ^ 4 ≤ W64 ^ (i + k) := Nat.pow_le_pow_right (by decide) (by omega)
  have h4 : W64 ^ (i + k) * 1 ≤ W64 ^ (i + k) * (limb' a i * limb' b k) := Nat.mul_le_mul_left _ (by omega)
  omega
theorem mod_mul_le (a b : U) (n : Nat) : (a.val % n) * b.val ≤ a.val * b.val := Nat.mul_le_mul_right _ (Nat.mod_le _ _)
theorem top_W : W64 ^ 4 = U.top := by decide
theorem mul_round {P c L B M i k hi lo z1 q1 z2 q2 p c' P' bk : Nat} (inv : P + c * W64 ^ (i + k) = M + L * W64 ^ i * B) (h1 : lo + W64 * hi = L * bk) (h2 : z1 + W64 * q1 = lo + c) (h3 : z2 + W64 * q2 = p + z1)
    (hc : c' = hi + q1 + q2) (hP : P' + W64 ^ (i + k) * p = P + W64 ^ (i + k) * z2) : P' + c' * W64 ^ (i + k + 1) = M + L * W64 ^ i * (B + W64 ^ k * bk) := by
  have e1 : L * W64 ^ i * (B + W64 ^ k * bk) = L * W64 ^ i * B + W64 ^ (i + k) * (L * bk) := by
    rw [Nat.mul_add, Nat.pow_add]
    congr 1
    simp only [Nat.mul_comm, Nat.mul_left_comm, Nat.mul_assoc]
  have e2 : c' * W64 ^ (i + k + 1) = W64 ^ (i + k) * (W64 * c') := by
    rw [Nat.pow_succ]
    simp only [Nat.mul_comm, Nat.mul_left_comm, Nat.mul_assoc]
  have e3 : W64 * c' = L * bk + c + p - z2 ∧ z2 ≤ L * bk + c + p := by
    subst hc
    unfold W64 at *
    omega
  have e4 : W64 * c' + z2 = L * bk + c + p := by omega
  have e5 := congrArg (fun t => W64 ^ (i + k) * t) e4
  simp only [Nat.mul_add] at e5
  have e6 : c * W64 ^ (i + k) = W64 ^ (i + k) * c := Nat.mul_comm _ _
  rw [e1, e2]
  omega
theorem Mul_ok (a b : U) : uint256_Mul ((a, b, ()), ()) = some (((errS (a.val * b.val)).1, (errS (a.val * b.val)).2, ()), ()) := by
  have c0 : (I.of .i64 0).val = 0 := rfl
  have c1 : (I.of .i64 1).val = 1 := rfl
  have c3 : (I.of .i64 3).val = 3 := rfl
  have c4 : (I.of .i64 4).val = 4 := rfl
  have over : U.top ≤ a.val * b.val → some (((I.of .u64 0, I.of .u64 0, I.of .u64 0, I.of .u64 0, ()), I.of .i64 4, ()), ()) = some (((errS (a.val * b.val)).1, (errS (a.val * b.val)).2, ()), ()) := by
    intro h
    rw [show errS (a.val * b.val) = (U.of 0, I.of .i64 4) from if_neg (by omega)]
    rfl
  have key : Wp (fun o => o = some (((errS (a.val * b.val)).1, (errS (a.val * b.val)).2, ()), ())) (uint256_Mul ((a, b, ()), ())) := by
    unfold uint256_Mul
    refine Wp.iter (fun x => 0 ≤ x.1.1.val ∧ x.1.1.val ≤ 4 ∧ x.2.1 = a ∧ x.2.2.1 = b ∧ U.val x.2.2.2.2.1 = (a.val % W64 ^ x.1.1.val.toNat) * b.val) (fun x => (4 - x.1.1.val).toNat) ?_ ?_ ?_
    · rintro ⟨⟨i, ⟨⟩⟩, a', b', r0, p0, ⟨⟩⟩ ⟨hi0, hi1, e1, e2, hp⟩
      simp only at hi0 hi1 e1 e2 hp
      subst e1 e2
      refine Wp.brn (fun h => ?_) (fun h => ?_)
      · have hlt := iff_ltb.1 h
        simp only [c4] at hlt
        clear h
        have si : (I.add i (I.of .i64 1)).val = i.val + 1 := by rw [add_i64 (by omega)]; omega
        have sin : (I.add i (I.of .i64 1)).val.toNat = i.val.toNat + 1 := by omega
        have ini : inB i 4 = true := iff_inB.2 ⟨hi0, by omega⟩
        refine Wp.iter (fun x => x.1.1 = i ∧ x.1.2.2.1 = i ∧ 0 ≤ x.1.2.2.2.1.val ∧ x.1.2.2.2.1.val ≤ 4 ∧ x.2.1 = a' ∧ x.2.2.1 = b' ∧
          U.val x.2.2.2.2.1 + I.nat (k := .u64) x.1.2.1 * W64 ^ (min (i.val.toNat + x.1.2.2.2.1.val.toNat) 4) = (U.val a' % W64 ^ i.val.toNat) * U.val b' + limb' a' i.val.toNat * W64 ^ i.val.toNat * (U.val b' % W64 ^ x.1.2.2.2.1.val.toNat)) (fun x => (4 - x.1.2.2.2.1.val).toNat) ?_ ?_ ?_
        · rintro ⟨⟨i2, c, i1, k, ⟨⟩⟩, a1, b1, r1, p, ⟨⟩⟩ ⟨e1, e2, hk0, hk1, e3, e4, hinv⟩
          simp only at e1 e2 hk0 hk1 e3 e4 hinv
          subst e1 e2 e3 e4
          refine Wp.brn (fun h => ?_) (fun h => ?_)
          · have hkl := iff_ltb.1 h
            simp only [c4] at hkl
            clear h
            have sk : (I.add k (I.of .i64 1)).val = k.val + 1 := by rw [add_i64 (by omega)]; omega
            have skn : (I.add k (I.of .i64 1)).val.toNat = k.val.toNat + 1 := by omega
            have sik : (I.add i1 k).val = i1.val + k.val := add_i64 (by omega)
            have hm : (4 - (I.add k (I.of .i64 1)).val).toNat < (4 - k.val).toNat := by omega
            have bmod := limb_mod b1 k.val.toNat (by omega)
            refine Wp.brnT ini (Wp.brnT (iff_inB.2 ⟨hk0, by show k.val < ((4 : Nat) : Int); omega⟩) ?_)
            obtain ⟨hi, lo, hmul, hprod⟩ := Mul64_ok (Arr.sel (I.of .u64 0) 4 a1 (I.nat i1)) (Arr.sel (I.of .u64 0) 4 b1 (I.nat k))
            have hprod : lo.nat + W64 * hi.nat = limb' a1 i1.val.toNat * limb' b1 k.val.toNat := hprod
            refine Wp.optF hmul ?_
            refine Wp.brn (fun h => ?_) (fun h => ?_)
            · have h := iff_ltb.1 h
              have h : (I.of .i64 3).val < (I.add i1 k).val := h
              refine Wp.brn (fun h2 => ?_) (fun h2 => ?_)
              · refine Wp.done (Wp.done (over ?_))
                refine over_prod (i := i1.val.toNat) (k := k.val.toNat) (by omega) (by omega) (by omega) ?_
                intro hz
                have h3 : hi.nat = 0 ∧ lo.nat = 0 := by rw [hz] at hprod; unfold W64 at hprod; omega
                have := (or_zero hi lo).2 h3
                exact absurd (h2.symm.trans this) (by decide)
              · have h3 := (or_zero hi lo).1 h2
                have hz : limb' a1 i1.val.toNat * limb' b1 k.val.toNat = 0 := by rw [← hprod, h3.1, h3.2, Nat.mul_zero]
                refine Wp.again ⟨rfl, rfl, ?_, ?_, rfl, rfl, ?_⟩ hm
                · show 0 ≤ (I.add k (I.of .i64 1)).val; omega
                · show (I.add k (I.of .i64 1)).val ≤ 4; omega
                · show U.val p + c.nat * W64 ^ (min (i1.val.toNat + (I.add k (I.of .i64 1)).val.toNat) 4) = _ + _ * (U.val b1 % W64 ^ (I.add k (I.of .i64 1)).val.toNat)
                  rw [skn, bmod, Nat.mul_add]
                  have e1 : limb' a1 i1.val.toNat * W64 ^ i1.val.toNat * (W64 ^ k.val.toNat * limb' b1 k.val.toNat) = 0 := by
                    have : limb' a1 i1.val.toNat * W64 ^ i1.val.toNat * (W64 ^ k.val.toNat * limb' b1 k.val.toNat) = W64 ^ i1.val.toNat * W64 ^ k.val.toNat * (limb' a1 i1.val.toNat * limb' b1 k.val.toNat) := by simp only [Nat.mul_comm, Nat.mul_left_comm, Nat.mul_assoc]
                    rw [this, hz, Nat.mul_zero]
                  rw [Nat.min_eq_right (by omega)] at hinv
                  rw [e1, Nat.min_eq_right (by omega)]
                  exact hinv
            · have h := niff_ltb.1 h
              have h : (I.add i1 k).val ≤ (I.of .i64 3).val := h
              have inik : inB (I.add i1 k) 4 = true := iff_inB.2 ⟨by omega, by omega⟩
              obtain ⟨z1, q1, ha1, hs1, hq1⟩ := add64_nat lo c (I.of .u64 0) (by decide)
              refine Wp.optF ha1 ?_
              refine Wp.brnT inik ?_
              obtain ⟨z2, q2, ha2, hs2, hq2⟩ := add64_nat (Arr.sel (I.of .u64 0) 4 p (I.nat (I.add i1 k))) z1 (I.of .u64 0) (by decide)
              refine Wp.optF ha2 ?_
              refine Wp.brnT inik ?_
              have z0 : (I.of .u64 0).nat = 0 := rfl
              have en : I.nat (I.add i1 k) = i1.val.toNat + k.val.toNat := by unfold I.nat; omega
              have hup := upd_val p (i1.val.toNat + k.val.toNat) z2 (by omega)
              have hs2' : z2.nat + W64 * q2.nat = limb' p (i1.val.toNat + k.val.toNat) + z1.nat := by
                have : (Arr.sel (I.of .u64 0) 4 p (I.nat (I.add i1 k))).nat = limb' p (i1.val.toNat + k.val.toNat) := by rw [en]; rfl
                unfold W64
                omega
              have hcv : (I.add (I.add hi q1) q2).nat = hi.nat + q1.nat + q2.nat := by
                have l1 := limb_lt a1 i1.val.toNat
                have l2 := limb_lt b1 k.val.toNat
                have l3 := limb_lt p (i1.val.toNat + k.val.toNat)
                have l4 := nat_lt c
                have l5 : limb' a1 i1.val.toNat * limb' b1 k.val.toNat ≤ (W64 - 1) * (W64 - 1) := Nat.mul_le_mul (by omega) (by omega)
                rw [add_nat, add_nat]
                unfold W64 at *
                omega
              refine Wp.again ⟨rfl, rfl, ?_, ?_, rfl, rfl, ?_⟩ hm
              · show 0 ≤ (I.add k (I.of .i64 1)).val; omega
              · show (I.add k (I.of .i64 1)).val ≤ 4; omega
              · show U.val (Arr.upd 4 p (I.nat (I.add i1 k)) z2) + (I.add (I.add hi q1) q2).nat * W64 ^ (min (i1.val.toNat + (I.add k (I.of .i64 1)).val.toNat) 4) = _ + _ * (U.val b1 % W64 ^ (I.add k (I.of .i64 1)).val.toNat)
                rw [skn, bmod, en, Nat.min_eq_left (by omega)]
                rw [Nat.min_eq_left (by omega)] at hinv
                exact mul_round hinv hprod (by unfold W64; omega) hs2' hcv hup
          · have h := niff_ltb.1 h
            simp only [c4] at h
            have hk : k.val.toNat = 4 := by omega
            rw [hk, Nat.min_eq_right (by omega), top_W, Nat.mod_eq_of_lt (U.lt b1)] at hinv
            have amod := limb_mod a1 i1.val.toNat (by omega)
            have hA : U.val p + c.nat * U.top = (U.val a1 % W64 ^ (i1.val.toNat + 1)) * U.val b1 := by
              rw [hinv, amod, Nat.add_mul]
              congr 1
              simp only [Nat.mul_comm, Nat.mul_left_comm, Nat.mul_assoc]
            refine Wp.done ?_
            refine Wp.brn (fun h2 => ?_) (fun h2 => ?_)
            · refine Wp.done (over ?_)
              have h2 := iff_neb.1 h2
              have h2 : c.val ≠ (I.of .u64 0).val := h2
              have z0 : (I.of .u64 0).val = 0 := rfl
              have hc1 : 1 ≤ c.nat := by have := nat_val c; omega
              have h3 := mod_mul_le a1 b1 (W64 ^ (i1.val.toNat + 1))
              have h4 : 1 * U.top ≤ c.nat * U.top := Nat.mul_le_mul_right _ hc1
              omega
            · have h2 := niff_neb.1 h2
              have h2 : c.val = (I.of .u64 0).val := h2
              have z0 : (I.of .u64 0).val = 0 := rfl
              have hc1 : c.nat = 0 := by have := nat_val c; omega
              rw [hc1, Nat.zero_mul, Nat.add_zero] at hA
              refine Wp.again ⟨?_, ?_, rfl, rfl, ?_⟩ ?_
              · show 0 ≤ (I.add i1 (I.of .i64 1)).val; omega
              · show (I.add i1 (I.of .i64 1)).val ≤ 4; omega
              · show U.val p = U.val a1 % W64 ^ (I.add i1 (I.of .i64 1)).val.toNat * U.val b1
                rw [sin]; exact hA
              · show (4 - (I.add i1 (I.of .i64 1)).val).toNat < (4 - i1.val).toNat
                omega
        · refine ⟨rfl, rfl, by show 0 ≤ (I.of .i64 0).val; decide, by show (I.of .i64 0).val ≤ 4; decide, rfl, rfl, ?_⟩
          show U.val p0 + (I.of .u64 0).nat * _ = _ + _ * (U.val b' % W64 ^ (I.of .i64 0).val.toNat)
          have e1 : (I.of .u64 0).nat = 0 := rfl
          have e2 : (I.of .i64 0).val.toNat = 0 := rfl
          rw [e1, e2, Nat.zero_mul, Nat.pow_zero, Nat.mod_one, Nat.mul_zero, hp]
        · exact K0_ge _ (by show (4 - (I.of .i64 0).val).toNat < _; decide)
      · have h := niff_ltb.1 h
        simp only [c4] at h
        have hi : i.val.toNat = 4 := by omega
        rw [hi, top_W, Nat.mod_eq_of_lt (U.lt a')] at hp
        refine Wp.done ?_
        show some ((p0, I.of .i64 0, ()), ()) = _
        have hlt : U.val a' * U.val b' < U.top := by rw [← hp]; exact U.lt p0
        rw [show errS (U.val a' * U.val b') = (U.of (U.val a' * U.val b'), I.of .i64 0) from if_pos hlt]
        have hU : p0 = U.of (U.val a' * U.val b') := by
          have := U.of_val p0
          rw [hp] at this
          exact this.symm
        exact congrArg (fun z : U => some ((z, I.of .i64 0, ()), ())) hU
    · refine ⟨by show 0 ≤ (I.of .i64 0).val; decide, by show (I.of .i64 0).val ≤ 4; decide, rfl, rfl, ?_⟩
      show U.val (I.of .u64 0, I.of .u64 0, I.of .u64 0, I.of .u64 0, ()) = (a.val % W64 ^ (I.of .i64 0).val.toNat) * b.val
      have e2 : (I.of .i64 0).val.toNat = 0 := rfl
      rw [e2, Nat.pow_zero, Nat.mod_one, Nat.zero_mul]
      rfl
    · exact K0_ge _ (by show (4 - (I.of .i64 0).val).toNat < _; decide)
  exact key.out
end Sym

/- Equality and order of 256 bits. -/
namespace Sym
open Go
theorem eqb_u256 (a b : U) : Ty.eqb (.arr 4 (.int .u64)) a b = decide (a.val = b.val) := by
  by_cases h : a.val = b.val
  · have := U.ext h
    subst this
    simp [Ty.eqb, Arr.eqb]
  · simp only [h, decide_false]
    cases hb : Ty.eqb (.arr 4 (.int .u64)) a b with
    | false => rfl
    | true =>
      exfalso
      apply h
      obtain ⟨a0, a1, a2, a3, ⟨⟩⟩ := a
      obtain ⟨b0, b1, b2, b3, ⟨⟩⟩ := b
      simp only [Ty.eqb, Arr.eqb, Bool.and_eq_true, decide_eq_true_eq, and_true] at hb
      obtain ⟨h0, h1, h2, h3⟩ := hb
      rw [I.ext' h0, I.ext' h1, I.ext' h2, I.ext' h3]
end Sym

/- Quotients of 512 by 256 bits. -/
namespace Sym
open Go
theorem u256_FromUint64 (x : I .u64) : uint256_FromUint64 ((x, ()), ()) = some ((u64U x, ()), ()) := rfl
theorem SatSub_ok (a b : U) : uint256_SaturatingSub ((a, b, ()), ()) = some ((U.of (a.val - b.val), ()), ()) := by
  refine Wp.out (T := fun o => o = _) ?_
  unfold uint256_SaturatingSub
  refine Wp.optF (uint256_Sub_eq a b) ?_
  unfold subS
  by_cases h : b.val ≤ a.val
  · rw [if_pos h]; rfl
  · rw [if_neg h, show a.val - b.val = 0 by omega]; rfl
theorem or_add (x y : I .u64) (n : Nat) (hy : y.nat < 2 ^ n) (hx : x.nat % 2 ^ n = 0) : (I.or x y).nat = x.nat + y.nat := by
  have h1 : (BitVec.ofInt 64 x.val).toNat = x.nat := by have := u64_range x; rw [BitVec.toNat_ofInt]; unfold I.nat; omega
  have h2 : (BitVec.ofInt 64 y.val).toNat = y.nat := by have := u64_range y; rw [BitVec.toNat_ofInt]; unfold I.nat; omega
  have h3 : (BitVec.ofInt IntKind.u64.bits x.val ||| BitVec.ofInt IntKind.u64.bits y.val).toNat = x.nat ||| y.nat := by
    show (BitVec.ofInt 64 x.val ||| BitVec.ofInt 64 y.val).toNat = _
    rw [BitVec.toNat_or, h1, h2]
  have hlt : x.nat ||| y.nat < 2 ^ 64 := Nat.or_lt_two_pow (nat_lt x) (nat_lt y)
  have h4 : x.nat ||| y.nat = x.nat + y.nat := by
    have e : x.nat = (x.nat / 2 ^ n) <<< n := by
      rw [Nat.shiftLeft_eq]
      have := Nat.div_add_mod x.nat (2 ^ n)
      rw [hx, Nat.add_zero, Nat.mul_comm] at this
      exact this.symm
    rw [e]
    exact (Nat.shiftLeft_add_eq_or_of_lt hy _).symm
  unfold I.or
  rw [h3, of_nat (by omega), h4]
theorem shl1_nat (x : I .u64) : (I.shl x (I.of .u64 1)).nat = 2 * x.nat % W64 := by
  have h1 := nat_val x
  have hm : min (I.of .u64 1).val.toNat IntKind.u64.bits = 1 := rfl
  unfold I.shl
  rw [hm]
  show (IntKind.u64.wrap (x.val * 2 ^ 1)).toNat = _ % 18446744073709551616
  rw [wrap_u64]
  have : (2 : Int) ^ 1 = 2 := by decide
  rw [this]
  omega
theorem shr63_nat (x : I .u64) : (I.shr x (I.of .u64 63)).nat = x.nat / 9223372036854775808 := by
  have c : (I.of .u64 63).nat = 63 := rfl
  rw [shr_nat _ _ (by decide), c]
theorem K0_four' : ∃ k, K0 = k + 4 := ⟨2 ^ 64 - 4, by rw [K0_eq]⟩
theorem sh_limb (x y : I .u64) : (I.or (I.shl x (I.of .u64 1)) (I.shr y (I.of .u64 63))).nat = 2 * x.nat % W64 + y.nat / 9223372036854775808 := by
  have hy := nat_lt y
  rw [or_add _ _ 1 (by rw [shr63_nat]; omega) (by rw [shl1_nat]; unfold W64; omega), shl1_nat, shr63_nat]
theorem shiftLeft_ok (a : U) (bit : I .u64) (hb : bit.nat ≤ 1) : ∃ (r : U) (o : I .u64), muldiv_shiftLeft ((a, bit, ()), ()) = some ((r, o, ()), ()) ∧ r.val + U.top * o.nat = 2 * a.val + bit.nat := by
  obtain ⟨k, hk⟩ := K0_four'
  obtain ⟨a0, a1, a2, a3, ⟨⟩⟩ := a
  refine ⟨(I.or (I.shl a0 (I.of .u64 1)) bit, I.or (I.shl a1 (I.of .u64 1)) (I.shr a0 (I.of .u64 63)), I.or (I.shl a2 (I.of .u64 1)) (I.shr a1 (I.of .u64 63)), I.or (I.shl a3 (I.of .u64 1)) (I.shr a2 (I.of .u64 63)), ()), I.shr a3 (I.of .u64 63), ?_, ?_⟩
  · refine Wp.out (T := fun o => o = _) ?_
    unfold muldiv_shiftLeft
    rw [hk]
    refine Wp.unroll (Wp.brnT rfl (Wp.brnT rfl (Wp.brnT rfl (Wp.brnT rfl (Wp.next ?_)))))
    refine Wp.unroll (Wp.brnT rfl (Wp.brnT rfl (Wp.brnT rfl (Wp.brnT rfl (Wp.next ?_)))))
    refine Wp.unroll (Wp.brnT rfl (Wp.brnT rfl (Wp.brnT rfl (Wp.brnT rfl (Wp.next ?_)))))
    refine Wp.unroll (Wp.brnF rfl (Wp.stop rfl))
  · have n0 := nat_lt a0
    have n1 := nat_lt a1
    have n2 := nat_lt a2
    have n3 := nat_lt a3
    unfold U.val U.top
    simp only
    rw [sh_limb, sh_limb, sh_limb, shr63_nat, or_add _ _ 1 (by omega) (by rw [shl1_nat]; unfold W64; omega), shl1_nat]
    unfold W64
    omega
end Sym

/- Quotients of 512 by 256 bits: the loop. -/
namespace Sym
open Go
theorem K0_five : ∃ k, K0 = k + 5 := ⟨2 ^ 64 - 5, by rw [K0_eq]⟩
theorem subWrap_ok (a b : U) : ∃ (r : U) (q : Nat), muldiv_subWrap ((a, b, ()), ()) = some ((r, ()), ()) ∧ r.val + b.val = a.val + U.top * q ∧ q ≤ 1 := by
  obtain ⟨k, hk⟩ := K0_five
  obtain ⟨a0, a1, a2, a3, ⟨⟩⟩ := a
  obtain ⟨b0, b1, b2, b3, ⟨⟩⟩ := b
  obtain ⟨z0, q0, h0, e0, l0⟩ := sub64_nat a0 b0 (I.of .u64 0) (by decide)
  obtain ⟨z1, q1, h1, e1, l1⟩ := sub64_nat a1 b1 q0 l0
  obtain ⟨z2, q2, h2, e2, l2⟩ := sub64_nat a2 b2 q1 l1
  obtain ⟨z3, q3, h3, e3, l3⟩ := sub64_nat a3 b3 q2 l2
  refine ⟨(z0, z1, z2, z3, ()), q3.nat, ?_, ?_, l3⟩
  · refine Wp.out (T := fun o => o = _) ?_
    unfold muldiv_subWrap
    rw [hk]
    refine Wp.unroll (Wp.brnT rfl (Wp.brnT rfl (Wp.brnT rfl (Wp.optF h0 (Wp.brnT rfl (Wp.next ?_))))))
    refine Wp.unroll (Wp.brnT rfl (Wp.brnT rfl (Wp.brnT rfl (Wp.optF h1 (Wp.brnT rfl (Wp.next ?_))))))
    refine Wp.unroll (Wp.brnT rfl (Wp.brnT rfl (Wp.brnT rfl (Wp.optF h2 (Wp.brnT rfl (Wp.next ?_))))))
    refine Wp.unroll (Wp.brnT rfl (Wp.brnT rfl (Wp.brnT rfl (Wp.optF h3 (Wp.brnT rfl (Wp.next ?_))))))
    refine Wp.unroll (Wp.brnF rfl (Wp.stop rfl))
  · have z : (I.of .u64 0).nat = 0 := rfl
    unfold U.val U.top
    simp only
    omega
theorem two_pow_W (i : Nat) : 2 ^ i = W64 ^ (i / 64) * 2 ^ (i % 64) := by
  have : W64 = 2 ^ 64 := by decide
  rw [this, ← Nat.pow_mul, ← Nat.pow_add]
  congr 1
  omega
theorem div_W (a : U) (k : Nat) (hk : k < 4) : ∃ Y, a.val / W64 ^ k = limb' a k + W64 * Y := by
  obtain ⟨a0, a1, a2, a3, ⟨⟩⟩ := a
  have n0 := nat_lt a0
  have n1 := nat_lt a1
  have n2 := nat_lt a2
  have n3 := nat_lt a3
  have p0 : W64 ^ 0 = 1 := by decide
  have p1 : W64 ^ 1 = 18446744073709551616 := by decide
  have p2 : W64 ^ 2 = 340282366920938463463374607431768211456 := by decide
  have p3 : W64 ^ 3 = 6277101735386680763835789423207666416102355444464034512896 := by decide
  have hc : k = 0 ∨ k = 1 ∨ k = 2 ∨ k = 3 := by omega
  rcases hc with rfl | rfl | rfl | rfl
  · refine ⟨a1.nat + 18446744073709551616 * (a2.nat + 18446744073709551616 * a3.nat), ?_⟩
    show U.val _ / W64 ^ 0 = a0.nat + 18446744073709551616 * _
    rw [p0]; unfold U.val; simp only; omega
  · refine ⟨a2.nat + 18446744073709551616 * a3.nat, ?_⟩
    show U.val _ / W64 ^ 1 = a1.nat + 18446744073709551616 * _
    rw [p1]; unfold U.val; simp only; omega
  · refine ⟨a3.nat, ?_⟩
    show U.val _ / W64 ^ 2 = a2.nat + 18446744073709551616 * _
    rw [p2]; unfold U.val; simp only; omega
  · refine ⟨0, ?_⟩
    show U.val _ / W64 ^ 3 = a3.nat + 18446744073709551616 * _
    rw [p3]; unfold U.val; simp only; omega
theorem bit_of (a : U) (i : Nat) (hi : i < 256) : a.val / 2 ^ i % 2 = limb' a (i / 64) / 2 ^ (i % 64) % 2 := by
  obtain ⟨Y, hY⟩ := div_W a (i / 64) (by omega)
  rw [two_pow_W i, ← Nat.div_div_eq_div_mul, hY]
  have e : W64 = 2 ^ (i % 64) * (2 * 2 ^ (63 - i % 64)) := by
    have : 2 * 2 ^ (63 - i % 64) = 2 ^ (64 - i % 64) := by rw [show 64 - i % 64 = (63 - i % 64) + 1 by omega, Nat.pow_succ, Nat.mul_comm]
    rw [this, ← Nat.pow_add, show i % 64 + (64 - i % 64) = 64 by omega]
  rw [e, Nat.mul_assoc, Nat.add_mul_div_left _ _ (Nat.pow_pos (by decide)), Nat.mul_assoc, Nat.add_mul_mod_self_left]
theorem shr_i64 (x : I .u64) (s : I .i64) (h0 : 0 ≤ s.val) (hs : s.val < 64) : (I.shr x s).nat = x.nat / 2 ^ s.val.toNat := by
  have hx := u64_range x
  have hm : min s.val.toNat IntKind.u64.bits = s.val.toNat := by
    have : IntKind.u64.bits = 64 := rfl
    omega
  unfold I.shr
  rw [hm, fdiv_pos _ _ hx.1]
  have h1 : ((x.nat / 2 ^ s.val.toNat : Nat) : Int) = x.val / (2 : Int) ^ s.val.toNat := by
    rw [Int.natCast_ediv, nat_val]
    simp
  rw [← h1]
  have := Nat.div_le_self x.nat (2 ^ s.val.toNat)
  have := nat_lt x
  exact of_nat (by omega)
theorem shl_one_i64 (s : I .i64) (h0 : 0 ≤ s.val) (hs : s.val < 64) : (I.shl (I.of .u64 1) s).nat = 2 ^ s.val.toNat := by
  have hm : min s.val.toNat IntKind.u64.bits = s.val.toNat := by
    have : IntKind.u64.bits = 64 := rfl
    omega
  have h1 : (I.of .u64 1).val = 1 := rfl
  have h3 : 2 ^ s.val.toNat ≤ 2 ^ 63 := Nat.pow_le_pow_right (by decide) (by omega)
  have h4 : ((2 ^ s.val.toNat : Nat) : Int) = 2 ^ s.val.toNat := by simp
  unfold I.shl
  rw [hm, h1, Int.one_mul, ← h4]
  exact of_nat (by omega)
theorem set_bit (q : U) (i : Nat) (hi : i < 256) (b : I .u64) (hb : b.nat = 2 ^ (i % 64)) (hq : q.val % 2 ^ (i + 1) = 0) :
    U.val (Arr.upd 4 q (i / 64) (I.or (Arr.sel (I.of .u64 0) 4 q (i / 64)) b)) = q.val + 2 ^ i := by
  obtain ⟨Y, hY⟩ := div_W q (i / 64) (by omega)
  have hl : limb' q (i / 64) % 2 ^ (i % 64 + 1) = 0 := by
    obtain ⟨Q, hQ⟩ : ∃ Q, q.val = 2 ^ (i + 1) * Q := ⟨q.val / 2 ^ (i + 1), by have := Nat.div_add_mod q.val (2 ^ (i + 1)); omega⟩
    have e1 : q.val / W64 ^ (i / 64) = 2 ^ (i % 64 + 1) * Q := by
      rw [hQ, Nat.pow_succ, two_pow_W i, Nat.mul_assoc, Nat.mul_assoc, Nat.mul_div_cancel_left _ (Nat.pow_pos (by decide)), Nat.pow_succ, Nat.mul_assoc]
    have e2 : W64 = 2 ^ (i % 64 + 1) * 2 ^ (63 - i % 64) := by
      rw [← Nat.pow_add, show i % 64 + 1 + (63 - i % 64) = 64 by omega]
    rw [e1, e2, Nat.mul_assoc] at hY
    have e3 : limb' q (i / 64) = 2 ^ (i % 64 + 1) * Q - 2 ^ (i % 64 + 1) * (2 ^ (63 - i % 64) * Y) := by omega
    rw [e3, ← Nat.mul_sub]
    exact Nat.mul_mod_right _ _
  have hor : (I.or (Arr.sel (I.of .u64 0) 4 q (i / 64)) b).nat = limb' q (i / 64) + 2 ^ (i % 64) := by
    rw [or_add _ b (i % 64 + 1) (by rw [hb, Nat.pow_succ]; have := Nat.pow_pos (a := 2) (n := i % 64) (by decide); omega) hl, hb]
    rfl
  have hup := upd_val q (i / 64) (I.or (Arr.sel (I.of .u64 0) 4 q (i / 64)) b) (by omega)
  rw [hor, Nat.mul_add, ← two_pow_W] at hup
  omega
end Sym
