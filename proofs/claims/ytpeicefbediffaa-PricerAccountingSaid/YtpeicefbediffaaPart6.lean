/- The given functions with a counted number of rounds: for running them at given values. -/
import Derived.Carry
import Derived.SizedLaws
import Derived.ChangeOld
import Derived.OpenShut
import Derived.Test.YtpeicefbediffaaPart4
import Derived.Test.YtpeicefbediffaaPart5
import Derived.Test.YtpeicefbediffaaPart3
namespace Sym
open Go
abbrev K1 : Nat := 2 ^ 64
noncomputable def poster_sum_k (x : (⟨[.pl u256, .pl u256], []⟩ : Tm).D) : Option (⟨[.pl (.arr 5 (.int .u64))], []⟩ : Tm).D :=
 let a : U := x.1.1
 let b : U := x.1.2.1
 iter (none) (fun x0 =>
   brn (@I.ltb .i64 x0.1.2.1 (I.of .i64 4))
    (brn (@inB .i64 x0.1.2.1 4)
     (brn (@inB .i64 x0.1.2.1 4)
      (optF (.done (none)) (add64F (((@Arr.sel (I .u64) (I.of .u64 0) 4 x0.2.1 (@I.nat .i64 x0.1.2.1)), ((@Arr.sel (I .u64) (I.of .u64 0) 4 x0.2.2.1 (@I.nat .i64 x0.1.2.1)), (x0.1.1, ()))), ())) fun y1 =>
      brn (@inB .i64 x0.1.2.1 5)
       (.again ((y1.1.2.1, ((@I.add .i64 x0.1.2.1 (I.of .i64 1)), ())), (x0.2.1, (x0.2.2.1, (x0.2.2.2.1, ((@Arr.upd (I .u64) 5 x0.2.2.2.2.1 (@I.nat .i64 x0.1.2.1) y1.1.1), ()))))))
       (.done (none)))
      (.done (none)))
     (.done (none)))
    (.done (some (((x0.2.2.2.2.1.1, (x0.2.2.2.2.1.2.1, (x0.2.2.2.2.1.2.2.1, (x0.2.2.2.2.1.2.2.2.1, (x0.1.1, ()))))), ()), ()))))
 K1 (((I.of .u64 0), ((I.of .i64 0), ())), (a, (b, (((I.of .u64 0), Z_U), (((I.of .u64 0), Z_U), ())))))
theorem poster_sum_k_eq : poster_sum = poster_sum_k := by
  funext x
  unfold poster_sum poster_sum_k
  rw [K0_eq]
  all_goals kernel_rfl
noncomputable def poster_Valid_k (x : (⟨[.pl (.sl Y_api_Poster)], []⟩ : Tm).D) : Option (⟨[.pl .bool], []⟩ : Tm).D :=
 let a : (List S_api_Poster) := x.1.1
 iter (none) (fun x0 =>
   brn (@I.ltb .i64 x0.1.2.2.2.1 x0.1.2.2.1)
    (brn (@inB .i64 x0.1.2.2.2.1 (@lenL S_api_Poster x0.1.2.1))
     (jn (fun (x1 : (((List S_api_Poster) × ((List S_api_Poster) × ((I .i64) × ((I .i64) × ((I .i64) × (Bool × (Bool × (Bool × Unit)))))))) × (S_api_Poster × Unit))) =>
       optF (.done (none)) (poster_sum_k ((x1.2.1.2.1, (x1.2.1.2.2.2.2.1, ())), ())) fun y2 =>
       optF (.done (none)) (poster_sum_k ((x1.2.1.2.2.1, (x1.2.1.2.2.2.1, ())), ())) fun y3 =>
       brn (bnot (Ty.eqb (.arr 5 (.int .u64)) y2.1.1 y3.1.1))
        (.done (some ((false, ()), ())))
        (optF (.done (none)) (poster_isZero ((x1.2.1.2.1, ()), ())) fun y4 =>
        brn (bnot (Ty.eqb .bool (@I.eqb .u64 x1.2.1.2.2.2.2.2.1 (I.of .u64 0)) y4.1.1))
         (.done (some ((false, ()), ())))
         (.again ((x1.1.1, (x1.1.2.1, (x1.1.2.2.1, ((@I.add .i64 x1.1.2.2.2.1 (I.of .i64 1)), ())))), ())))) fun j1 =>
     brn (@I.eqb .u64 (@rdL S_api_Poster Z_S_api_Poster x0.1.2.1 (@I.nat .i64 x0.1.2.2.2.1)).1 (I.of .u64 0))
      (.done (some ((false, ()), ())))
      (brn (@I.ltb .i64 (I.of .i64 0) x0.1.2.2.2.1)
       (brn (@inB .i64 (@I.sub .i64 x0.1.2.2.2.1 (I.of .i64 1)) (@lenL S_api_Poster x0.1.1))
        (brn (@I.leb .u64 (@rdL S_api_Poster Z_S_api_Poster x0.1.2.1 (@I.nat .i64 x0.1.2.2.2.1)).1 (@rdL S_api_Poster Z_S_api_Poster x0.1.1 (@I.nat .i64 (@I.sub .i64 x0.1.2.2.2.1 (I.of .i64 1)))).1)
         (.done (some ((false, ()), ())))
         (j1 ((x0.1.1, (x0.1.2.1, (x0.1.2.2.1, (x0.1.2.2.2.1, (x0.1.2.2.2.1, ((@I.ltb .i64 (I.of .i64 0) x0.1.2.2.2.1), (true, ((@I.leb .u64 (@rdL S_api_Poster Z_S_api_Poster x0.1.2.1 (@I.nat .i64 x0.1.2.2.2.1)).1 (@rdL S_api_Poster Z_S_api_Poster x0.1.1 (@I.nat .i64 (@I.sub .i64 x0.1.2.2.2.1 (I.of .i64 1)))).1), ())))))))), ((@rdL S_api_Poster Z_S_api_Poster x0.1.2.1 (@I.nat .i64 x0.1.2.2.2.1)), ()))))
        (.done (none)))
       (j1 ((x0.1.1, (x0.1.2.1, (x0.1.2.2.1, (x0.1.2.2.2.1, (x0.1.2.2.2.1, ((@I.ltb .i64 (I.of .i64 0) x0.1.2.2.2.1), (false, (false, ())))))))), ((@rdL S_api_Poster Z_S_api_Poster x0.1.2.1 (@I.nat .i64 x0.1.2.2.2.1)), ())))))
     (.done (none)))
    (.done (some (((@I.leb .i64 (I.ofNat .i64 (@lenL S_api_Poster x0.1.1)) (I.of .i64 64)), ()), ()))))
 K1 ((a, (a, ((I.ofNat .i64 (@lenL S_api_Poster a)), ((I.of .i64 0), ())))), ())
theorem poster_Valid_k_eq : poster_Valid = poster_Valid_k := by
  funext x
  unfold poster_Valid poster_Valid_k
  rw [K0_eq, poster_sum_k_eq]
  all_goals kernel_rfl
noncomputable def pricer_Valid_k (x : (⟨[.pl Y_api_Pricer], []⟩ : Tm).D) : Option (⟨[.pl .bool], []⟩ : Tm).D :=
 let a : S_api_Pricer := x.1.1
 iter (none) (fun x0 =>
   brn (@I.ltb .i64 x0.1.2.2.1 x0.1.2.1)
    (brn (@inB .i64 x0.1.2.2.1 (@lenL S_api_Poster x0.1.1))
     (brn (@I.ltb .u64 x0.2.1.2.2.2.1 (@rdL S_api_Poster Z_S_api_Poster x0.1.1 (@I.nat .i64 x0.1.2.2.1)).2.2.2.2.2.1)
      (.done (some ((false, ()), ())))
      (.again ((x0.1.1, (x0.1.2.1, ((@I.add .i64 x0.1.2.2.1 (I.of .i64 1)), ()))), (x0.2.1, ()))))
     (.done (none)))
    (.done (optF (none) (poster_Valid_k ((x0.2.1.2.2.2.2.2.1, ()), ())) fun y1 =>
    brn y1.1.1
     (optF (none) (int256_Valid ((x0.2.1.2.2.2.2.1, ()), ())) fun y2 =>
     some ((y2.1.1, ()), ()))
     (some ((false, ()), ())))))
 K1 ((a.2.2.2.2.2.1, ((I.ofNat .i64 (@lenL S_api_Poster a.2.2.2.2.2.1)), ((I.of .i64 0), ()))), (a, ()))
theorem pricer_Valid_k_eq : pricer_Valid = pricer_Valid_k := by
  funext x
  unfold pricer_Valid pricer_Valid_k
  rw [K0_eq, poster_Valid_k_eq]
  all_goals kernel_rfl
noncomputable def poster_Find_k (x : (⟨[.pl (.sl Y_api_Poster), .pl (.int .u64)], []⟩ : Tm).D) : Option (⟨[.pl (.int .i64)], []⟩ : Tm).D :=
 let a : (List S_api_Poster) := x.1.1
 let b : (I .u64) := x.1.2.1
 iter (none) (fun x0 =>
   brn (@I.ltb .i64 x0.1.2.2.2.1 x0.1.2.2.1)
    (brn (@inB .i64 x0.1.2.2.2.1 (@lenL S_api_Poster x0.1.1))
     (brn (@I.eqb .u64 (@rdL S_api_Poster Z_S_api_Poster x0.1.1 (@I.nat .i64 x0.1.2.2.2.1)).1 x0.2.1)
      (.done (some ((x0.1.2.2.2.1, ()), ())))
      (.again ((x0.1.1, (((), x0.1.2.1.2), (x0.1.2.2.1, ((@I.add .i64 x0.1.2.2.2.1 (I.of .i64 1)), ())))), (x0.2.1, ()))))
     (.done (none)))
    (.done (some (((I.of .i64 (-1)), ()), ()))))
 K1 ((a, (((), ()), ((I.ofNat .i64 (@lenL S_api_Poster a)), ((I.of .i64 0), ())))), (b, ()))
theorem poster_Find_k_eq : poster_Find = poster_Find_k := by
  funext x
  unfold poster_Find poster_Find_k
  rw [K0_eq]
  all_goals kernel_rfl
noncomputable def slices_Clone___api_Poster_api_Poster__k (x : (⟨[.pl (.sl Y_api_Poster)], []⟩ : Tm).D) : Option (⟨[.whole 0], [.row Y_api_Poster]⟩ : Tm).D :=
 let a : List S_api_Poster := x.1.1
 brn (fitsLen (lenL a)) (some ((), (a, ()))) none
theorem slices_Clone___api_Poster_api_Poster__k_eq : slices_Clone___api_Poster_api_Poster_ = slices_Clone___api_Poster_api_Poster__k := by
  funext x
  obtain ⟨⟨a, ⟨⟩⟩, ⟨⟩⟩ := x
  cases a with
  | nil => show both _ _ _ = _; exact both_eq rfl
  | cons p l => rfl
noncomputable def poster_Add_k (x : (⟨[.pl (.sl Y_api_Poster), .pl (.int .u64)], []⟩ : Tm).D) : Option (⟨[.pl (.sl Y_api_Poster), .pl (.int .i64)], []⟩ : Tm).D :=
 let a : (List S_api_Poster) := x.1.1
 let b : (I .u64) := x.1.2.1
 jn (fun (x0 : (((List S_api_Poster) × ((I .u64) × Unit)) × Unit)) =>
   jn (fun (x1 : (((List S_api_Poster) × ((I .u64) × ((I .i64) × Unit))) × Unit)) =>
     optF (none) (slices_Clone___api_Poster_api_Poster__k ((x1.1.1, ()), ())) fun y2 =>
     optF (none) (insertF ((x1.1.2.2.1, ()), (y2.2.1, (((x1.1.2.1, (Z_U, (Z_U, (Z_U, (Z_U, ((I.of .u64 0), ())))))) :: []), ())))) fun y3 =>
     some ((y3.2.1, ((I.of .i64 0), ())), ())) fun j1 =>
   iter (none) (fun x2 =>
     brn (@I.ltb .i64 x2.1.2.2.1 (I.ofNat .i64 (@lenL S_api_Poster x2.1.1)))
      (brn (@inB .i64 x2.1.2.2.1 (@lenL S_api_Poster x2.1.1))
       (brn (@I.ltb .u64 (@rdL S_api_Poster Z_S_api_Poster x2.1.1 (@I.nat .i64 x2.1.2.2.1)).1 x2.1.2.1)
        (.again ((x2.1.1, (x2.1.2.1, ((@I.add .i64 x2.1.2.2.1 (I.of .i64 1)), ()))), ()))
        (.done (j1 ((x2.1.1, (x2.1.2.1, (x2.1.2.2.1, ()))), ()))))
       (.done (none)))
      (.done (j1 ((x2.1.1, (x2.1.2.1, (x2.1.2.2.1, ()))), ()))))
   K1 ((x0.1.1, (x0.1.2.1, ((I.of .i64 0), ()))), ())) fun j0 =>
 jn (fun (x1 : (((List S_api_Poster) × ((I .u64) × (Bool × Unit))) × Unit)) =>
   brn x1.1.2.2.1
    (some (([], ((I.of .i64 2), ())), ()))
    (optF (none) (poster_Find_k ((x1.1.1, (x1.1.2.1, ())), ())) fun y2 =>
    brn (@I.leb .i64 (I.of .i64 0) y2.1.1)
     (some (([], ((I.of .i64 9), ())), ()))
     (brn (@I.eqb .i64 (I.ofNat .i64 (@lenL S_api_Poster x1.1.1)) (I.of .i64 64))
      (some (([], ((I.of .i64 7), ())), ()))
      (j0 ((x1.1.1, (x1.1.2.1, ())), ()))))) fun j1 =>
 optF (none) (poster_Valid_k ((a, ()), ())) fun y2 =>
 brn (bnot y2.1.1)
  (j1 ((a, (b, (true, ()))), ()))
  (j1 ((a, (b, ((@I.eqb .u64 b (I.of .u64 0)), ()))), ()))
theorem poster_Add_k_eq : poster_Add = poster_Add_k := by
  funext x
  unfold poster_Add poster_Add_k
  rw [K0_eq, poster_Find_k_eq, poster_Valid_k_eq, slices_Clone___api_Poster_api_Poster__k_eq]
  all_goals kernel_rfl
noncomputable def pricer_AddPoster_k (x : (⟨[.pl Y_api_Pricer, .pl (.int .u64)], []⟩ : Tm).D) : Option (⟨[.pl Y_api_Pricer, .pl (.int .i64)], []⟩ : Tm).D :=
 let a : S_api_Pricer := x.1.1
 let b : (I .u64) := x.1.2.1
 optF (none) (pricer_Valid_k ((a, ()), ())) fun y0 =>
 brn (bnot y0.1.1)
  (some (((Z_U, ((I.of .u64 0), ((I.of .u64 0), ((I.of .u64 0), (Z_S_api_Int256, ([], ())))))), ((I.of .i64 2), ())), ()))
  (optF (none) (poster_Add_k ((a.2.2.2.2.2.1, (b, ())), ())) fun y1 =>
  brn (@I.neb .i64 y1.1.2.1 (I.of .i64 0))
   (some (((Z_U, ((I.of .u64 0), ((I.of .u64 0), ((I.of .u64 0), (Z_S_api_Int256, ([], ())))))), (y1.1.2.1, ())), ()))
   (some (((a.1, (a.2.1, (a.2.2.1, (a.2.2.2.1, (a.2.2.2.2.1, (y1.1.1, a.2.2.2.2.2.2)))))), ((I.of .i64 0), ())), ())))
theorem pricer_AddPoster_k_eq : pricer_AddPoster = pricer_AddPoster_k := by
  funext x
  unfold pricer_AddPoster pricer_AddPoster_k
  rw [pricer_Valid_k_eq, poster_Add_k_eq]
  all_goals kernel_rfl
noncomputable def uint256_BitLen_k (x : (⟨[.pl u256], []⟩ : Tm).D) : Option (⟨[.pl (.int .i64)], []⟩ : Tm).D :=
 let a : U := x.1.1
 iter (none) (fun x0 =>
   brn (@I.leb .i64 (I.of .i64 0) x0.1.1)
    (brn (@inB .i64 x0.1.1 4)
     (brn (@I.neb .u64 (@Arr.sel (I .u64) (I.of .u64 0) 4 x0.2.1 (@I.nat .i64 x0.1.1)) (I.of .u64 0))
      (brn (@inB .i64 x0.1.1 4)
       (optF (.done (none)) (math_bits_Len64 (((@Arr.sel (I .u64) (I.of .u64 0) 4 x0.2.1 (@I.nat .i64 x0.1.1)), ()), ())) fun y1 =>
       .done (some (((@I.add .i64 (@I.mul .i64 (I.of .i64 64) x0.1.1) y1.1.1), ()), ())))
       (.done (none)))
      (.again (((@I.sub .i64 x0.1.1 (I.of .i64 1)), ()), (x0.2.1, ()))))
     (.done (none)))
    (.done (some (((I.of .i64 0), ()), ()))))
 K1 (((I.of .i64 3), ()), (a, ()))
theorem uint256_BitLen_k_eq : uint256_BitLen = uint256_BitLen_k := by
  funext x
  unfold uint256_BitLen uint256_BitLen_k
  rw [K0_eq]
  all_goals kernel_rfl
noncomputable def params_FirstInvalid_k (x : (⟨[.pl Y_api_Params], []⟩ : Tm).D) : Option (⟨[.pl (.int .i64)], []⟩ : Tm).D :=
 let a : S_api_Params := x.1.1
 iter (none) (fun x0 =>
   brn (@I.leb .i64 x0.1.1 (I.of .i64 12))
    (optF (.done (none)) (params_Get ((x0.2.1, (x0.1.1, ())), ())) fun y1 =>
    optF (.done (none)) (params_bounds ((x0.2.1, (x0.1.1, ())), ())) fun y2 =>
    optF (.done (none)) (uint256_FromUint64 ((y2.1.1, ()), ())) fun y3 =>
    optF (.done (none)) (uint256_Cmp ((y1.1.1, (y3.1.1, ())), ())) fun y4 =>
    brn (@I.ltb .i64 y4.1.1 (I.of .i64 0))
     (.done (some ((x0.1.1, ()), ())))
     (optF (.done (none)) (uint256_FromUint64 ((y2.1.2.1, ()), ())) fun y5 =>
     optF (.done (none)) (uint256_Cmp ((y1.1.1, (y5.1.1, ())), ())) fun y6 =>
     brn (@I.ltb .i64 (I.of .i64 0) y6.1.1)
      (.done (some ((x0.1.1, ()), ())))
      (.again (((@I.add .i64 x0.1.1 (I.of .i64 1)), ()), (x0.2.1, ())))))
    (.done (some (((I.of .i64 0), ()), ()))))
 K1 (((I.of .i64 1), ()), (a, ()))
theorem params_FirstInvalid_k_eq : params_FirstInvalid = params_FirstInvalid_k := by
  funext x
  unfold params_FirstInvalid params_FirstInvalid_k
  rw [K0_eq]
  all_goals kernel_rfl
noncomputable def params_Valid_k (x : (⟨[.pl Y_api_Params], []⟩ : Tm).D) : Option (⟨[.pl .bool], []⟩ : Tm).D :=
 let a : S_api_Params := x.1.1
 optF (none) (params_FirstInvalid_k ((a, ()), ())) fun y0 =>
 some (((@I.eqb .i64 y0.1.1 (I.of .i64 0)), ()), ())
theorem params_Valid_k_eq : params_Valid = params_Valid_k := by
  funext x
  unfold params_Valid params_Valid_k
  rw [params_FirstInvalid_k_eq]
  all_goals kernel_rfl
noncomputable def pricer_checkReport_k (x : (⟨[.pl Y_api_Pricer, .pl Y_api_Params, .pl Y_api_Report, .pl (.int .u64)], []⟩ : Tm).D) : Option (⟨[.pl (.int .i64)], []⟩ : Tm).D :=
 let a : S_api_Pricer := x.1.1
 let b : S_api_Params := x.1.2.1
 let c : S_api_Report := x.1.2.2.1
 let d : (I .u64) := x.1.2.2.2.1
 optF (none) (pricer_Valid_k ((a, ()), ())) fun y0 =>
 brn (bnot y0.1.1)
  (some (((I.of .i64 2), ()), ()))
  (optF (none) (params_Valid_k ((b, ()), ())) fun y1 =>
  brn (bnot y1.1.1)
   (some (((I.of .i64 15), ()), ()))
   (optF (none) (poster_Find_k ((a.2.2.2.2.2.1, (c.1, ())), ())) fun y2 =>
   brn (@I.ltb .i64 y2.1.1 (I.of .i64 0))
    (some (((I.of .i64 8), ()), ()))
    (jn (fun (x3 : ((Bool × Unit) × (S_api_Pricer × (S_api_Report × Unit)))) =>
      brn x3.1.1
       (some (((I.of .i64 14), ()), ()))
       (optF (none) (uint256_BitLen_k ((x3.2.2.1.2.2.1, ()), ())) fun y4 =>
       brn (@I.ltb .i64 (I.of .i64 128) y4.1.1)
        (some (((I.of .i64 2), ()), ()))
        (brn (@I.eqb .u64 x3.2.1.2.2.2.1 (I.of .u64 18446744073709551615))
         (some (((I.of .i64 4), ()), ()))
         (some (((I.of .i64 0), ()), ()))))) fun j3 =>
    brn (@I.ltb .u64 c.2.1 a.2.2.1)
     (j3 ((true, ()), (a, (c, ()))))
     (j3 (((@I.ltb .u64 d c.2.1), ()), (a, (c, ())))))))
theorem pricer_checkReport_k_eq : pricer_checkReport = pricer_checkReport_k := by
  funext x
  unfold pricer_checkReport pricer_checkReport_k
  rw [uint256_BitLen_k_eq, poster_Find_k_eq, pricer_Valid_k_eq, params_Valid_k_eq]
  all_goals kernel_rfl
noncomputable def uint256_Mul_k (x : (⟨[.pl u256, .pl u256], []⟩ : Tm).D) : Option (⟨[.pl u256, .pl (.int .i64)], []⟩ : Tm).D :=
 let a : U := x.1.1
 let b : U := x.1.2.1
 iter (none) (fun x0 =>
   brn (@I.ltb .i64 x0.1.1 (I.of .i64 4))
    (iter (.done (none)) (fun x1 =>
      brn (@I.ltb .i64 x1.1.2.2.2.1 (I.of .i64 4))
       (brn (@inB .i64 x1.1.1 4)
        (brn (@inB .i64 x1.1.2.2.2.1 4)
         (optF (.done (.done (none))) (math_bits_Mul64 (((@Arr.sel (I .u64) (I.of .u64 0) 4 x1.2.1 (@I.nat .i64 x1.1.1)), ((@Arr.sel (I .u64) (I.of .u64 0) 4 x1.2.2.1 (@I.nat .i64 x1.1.2.2.2.1)), ())), ())) fun y2 =>
         brn (@I.ltb .i64 (I.of .i64 3) (@I.add .i64 x1.1.1 x1.1.2.2.2.1))
          (brn (@I.neb .u64 (@I.or .u64 y2.1.1 y2.1.2.1) (I.of .u64 0))
           (.done (.done (some ((Z_U, ((I.of .i64 4), ())), ()))))
           (.again ((x1.1.1, (x1.1.2.1, (x1.1.2.2.1, ((@I.add .i64 x1.1.2.2.2.1 (I.of .i64 1)), ())))), (x1.2.1, (x1.2.2.1, (x1.2.2.2.1, (x1.2.2.2.2.1, ())))))))
          (optF (.done (.done (none))) (add64F ((y2.1.2.1, (x1.1.2.1, ((I.of .u64 0), ()))), ())) fun y3 =>
          brn (@inB .i64 (@I.add .i64 x1.1.1 x1.1.2.2.2.1) 4)
           (optF (.done (.done (none))) (add64F (((@Arr.sel (I .u64) (I.of .u64 0) 4 x1.2.2.2.2.1 (@I.nat .i64 (@I.add .i64 x1.1.1 x1.1.2.2.2.1))), (y3.1.1, ((I.of .u64 0), ()))), ())) fun y4 =>
           brn (@inB .i64 (@I.add .i64 x1.1.1 x1.1.2.2.2.1) 4)
            (.again ((x1.1.1, ((@I.add .u64 (@I.add .u64 y2.1.1 y3.1.2.1) y4.1.2.1), (x1.1.2.2.1, ((@I.add .i64 x1.1.2.2.2.1 (I.of .i64 1)), ())))), (x1.2.1, (x1.2.2.1, (x1.2.2.2.1, ((@Arr.upd (I .u64) 4 x1.2.2.2.2.1 (@I.nat .i64 (@I.add .i64 x1.1.1 x1.1.2.2.2.1)) y4.1.1), ()))))))
            (.done (.done (none))))
           (.done (.done (none)))))
         (.done (.done (none))))
        (.done (.done (none))))
       (.done (brn (@I.neb .u64 x1.1.2.1 (I.of .u64 0))
        (.done (some ((Z_U, ((I.of .i64 4), ())), ())))
        (.again (((@I.add .i64 x1.1.2.2.1 (I.of .i64 1)), ()), (x1.2.1, (x1.2.2.1, (x1.2.2.2.1, (x1.2.2.2.2.1, ())))))))))
    K1 ((x0.1.1, ((I.of .u64 0), (x0.1.1, ((I.of .i64 0), ())))), (x0.2.1, (x0.2.2.1, (x0.2.2.2.1, (x0.2.2.2.2.1, ()))))))
    (.done (some ((x0.2.2.2.2.1, ((I.of .i64 0), ())), ()))))
 K1 (((I.of .i64 0), ()), (a, (b, (Z_U, (Z_U, ())))))
theorem uint256_Mul_k_eq : uint256_Mul = uint256_Mul_k := by
  funext x
  unfold uint256_Mul uint256_Mul_k
  rw [K0_eq]
  all_goals kernel_rfl
noncomputable def muldiv_Mul_k (x : (⟨[.pl u256, .pl u256], []⟩ : Tm).D) : Option (⟨[.pl u256, .pl u256], []⟩ : Tm).D :=
 let a : U := x.1.1
 let b : U := x.1.2.1
 iter (none) (fun x0 =>
   brn (@I.ltb .i64 x0.1.1 (I.of .i64 4))
    (iter (.done (none)) (fun x1 =>
      brn (@I.ltb .i64 x1.1.2.2.2.1 (I.of .i64 4))
       (brn (@inB .i64 x1.1.1 4)
        (brn (@inB .i64 x1.1.2.2.2.1 4)
         (optF (.done (.done (none))) (math_bits_Mul64 (((@Arr.sel (I .u64) (I.of .u64 0) 4 x1.2.1 (@I.nat .i64 x1.1.1)), ((@Arr.sel (I .u64) (I.of .u64 0) 4 x1.2.2.1 (@I.nat .i64 x1.1.2.2.2.1)), ())), ())) fun y2 =>
         optF (.done (.done (none))) (add64F ((y2.1.2.1, (x1.1.2.1, ((I.of .u64 0), ()))), ())) fun y3 =>
         brn (@inB .i64 (@I.add .i64 x1.1.1 x1.1.2.2.2.1) 8)
          (optF (.done (.done (none))) (add64F (((@Arr.sel (I .u64) (I.of .u64 0) 8 x1.2.2.2.2.2.1 (@I.nat .i64 (@I.add .i64 x1.1.1 x1.1.2.2.2.1))), (y3.1.1, ((I.of .u64 0), ()))), ())) fun y4 =>
          brn (@inB .i64 (@I.add .i64 x1.1.1 x1.1.2.2.2.1) 8)
           (.again ((x1.1.1, ((@I.add .u64 (@I.add .u64 y2.1.1 y3.1.2.1) y4.1.2.1), (x1.1.2.2.1, ((@I.add .i64 x1.1.2.2.2.1 (I.of .i64 1)), ())))), (x1.2.1, (x1.2.2.1, (x1.2.2.2.1, (x1.2.2.2.2.1, ((@Arr.upd (I .u64) 8 x1.2.2.2.2.2.1 (@I.nat .i64 (@I.add .i64 x1.1.1 x1.1.2.2.2.1)) y4.1.1), ())))))))
           (.done (.done (none))))
          (.done (.done (none))))
         (.done (.done (none))))
        (.done (.done (none))))
       (.done (brn (@inB .i64 (@I.add .i64 x1.1.1 (I.of .i64 4)) 8)
        (.again (((@I.add .i64 x1.1.2.2.1 (I.of .i64 1)), ()), (x1.2.1, (x1.2.2.1, (x1.2.2.2.1, (x1.2.2.2.2.1, ((@Arr.upd (I .u64) 8 x1.2.2.2.2.2.1 (@I.nat .i64 (@I.add .i64 x1.1.1 (I.of .i64 4))) x1.1.2.1), ())))))))
        (.done (none)))))
    K1 ((x0.1.1, ((I.of .u64 0), (x0.1.1, ((I.of .i64 0), ())))), (x0.2.1, (x0.2.2.1, (x0.2.2.2.1, (x0.2.2.2.2.1, (x0.2.2.2.2.2.1, ())))))))
    (.done (some (((@Arr.ofList (I .u64) (I.of .u64 0) 4 (@subL (I .u64) (@Arr.list (I .u64) 8 x0.2.2.2.2.2.1) 0 4)), ((@Arr.ofList (I .u64) (I.of .u64 0) 4 (@subL (I .u64) (@Arr.list (I .u64) 8 x0.2.2.2.2.2.1) 4 4)), ())), ()))))
 K1 (((I.of .i64 0), ()), (a, (b, (Z_U, (Z_U, (((I.of .u64 0), ((I.of .u64 0), ((I.of .u64 0), ((I.of .u64 0), Z_U)))), ()))))))
theorem muldiv_Mul_k_eq : muldiv_Mul = muldiv_Mul_k := by
  funext x
  unfold muldiv_Mul muldiv_Mul_k
  rw [K0_eq]
  all_goals kernel_rfl
noncomputable def muldiv_shiftLeft_k (x : (⟨[.pl u256, .pl (.int .u64)], []⟩ : Tm).D) : Option (⟨[.pl u256, .pl (.int .u64)], []⟩ : Tm).D :=
 let a : U := x.1.1
 let b : (I .u64) := x.1.2.1
 iter (none) (fun x0 =>
   brn (@I.ltb .i64 (I.of .i64 0) x0.1.2.2.1)
    (brn (@inB .i64 x0.1.2.2.1 4)
     (brn (@inB .i64 (@I.sub .i64 x0.1.2.2.1 (I.of .i64 1)) 4)
      (brn (@inB .i64 x0.1.2.2.1 4)
       (.again ((x0.1.1, (x0.1.2.1, ((@I.sub .i64 x0.1.2.2.1 (I.of .i64 1)), ()))), ((@Arr.upd (I .u64) 4 x0.2.1 (@I.nat .i64 x0.1.2.2.1) (@I.or .u64 (@I.shl .u64 .u64 (@Arr.sel (I .u64) (I.of .u64 0) 4 x0.2.1 (@I.nat .i64 x0.1.2.2.1)) (I.of .u64 1)) (@I.shr .u64 .u64 (@Arr.sel (I .u64) (I.of .u64 0) 4 x0.2.1 (@I.nat .i64 (@I.sub .i64 x0.1.2.2.1 (I.of .i64 1)))) (I.of .u64 63)))), (x0.2.2.1, ()))))
       (.done (none)))
      (.done (none)))
     (.done (none)))
    (.done (some ((((@I.or .u64 (@I.shl .u64 .u64 x0.2.1.1 (I.of .u64 1)) x0.1.1), (x0.2.1.2.1, (x0.2.1.2.2.1, (x0.2.1.2.2.2.1, ())))), (x0.1.2.1, ())), ()))))
 K1 ((b, ((@I.shr .u64 .u64 a.2.2.2.1 (I.of .u64 63)), ((I.of .i64 3), ()))), (a, (Z_U, ())))
theorem muldiv_shiftLeft_k_eq : muldiv_shiftLeft = muldiv_shiftLeft_k := by
  funext x
  unfold muldiv_shiftLeft muldiv_shiftLeft_k
  rw [K0_eq]
  all_goals kernel_rfl
noncomputable def muldiv_subWrap_k (x : (⟨[.pl u256, .pl u256], []⟩ : Tm).D) : Option (⟨[.pl u256], []⟩ : Tm).D :=
 let a : U := x.1.1
 let b : U := x.1.2.1
 iter (none) (fun x0 =>
   brn (@I.ltb .i64 x0.1.2.1 (I.of .i64 4))
    (brn (@inB .i64 x0.1.2.1 4)
     (brn (@inB .i64 x0.1.2.1 4)
      (optF (.done (none)) (sub64F (((@Arr.sel (I .u64) (I.of .u64 0) 4 x0.2.1 (@I.nat .i64 x0.1.2.1)), ((@Arr.sel (I .u64) (I.of .u64 0) 4 x0.2.2.1 (@I.nat .i64 x0.1.2.1)), (x0.1.1, ()))), ())) fun y1 =>
      brn (@inB .i64 x0.1.2.1 4)
       (.again ((y1.1.2.1, ((@I.add .i64 x0.1.2.1 (I.of .i64 1)), ())), ((@Arr.upd (I .u64) 4 x0.2.1 (@I.nat .i64 x0.1.2.1) y1.1.1), (x0.2.2.1, (x0.2.2.2.1, ())))))
       (.done (none)))
      (.done (none)))
     (.done (none)))
    (.done (some ((x0.2.1, ()), ()))))
 K1 (((I.of .u64 0), ((I.of .i64 0), ())), (a, (b, (Z_U, ()))))
theorem muldiv_subWrap_k_eq : muldiv_subWrap = muldiv_subWrap_k := by
  funext x
  unfold muldiv_subWrap muldiv_subWrap_k
  rw [K0_eq]
  all_goals kernel_rfl
noncomputable def muldiv_Div512_k (x : (⟨[.pl u256, .pl u256, .pl u256], []⟩ : Tm).D) : Option (⟨[.pl u256, .pl u256, .pl (.int .i64)], []⟩ : Tm).D :=
 let a : U := x.1.1
 let b : U := x.1.2.1
 let c : U := x.1.2.2.1
 brn (Ty.eqb u256 c Z_U)
  (some ((Z_U, (Z_U, ((I.of .i64 5), ()))), ()))
  (optF (none) (uint256_Cmp ((b, (c, ())), ())) fun y0 =>
  brn (@I.leb .i64 (I.of .i64 0) y0.1.1)
   (some ((Z_U, (Z_U, ((I.of .i64 4), ()))), ()))
   (iter (none) (fun x1 =>
     brn (@I.leb .i64 (I.of .i64 0) x1.1.1)
      (brn (@inB .i64 (@I.quo .i64 x1.1.1 (I.of .i64 64)) 4)
       (brn (@I.nn .i64 (@I.rem .i64 x1.1.1 (I.of .i64 64)))
        (optF (.done (none)) (muldiv_shiftLeft_k ((x1.2.2.2.2.1, ((@I.and .u64 (@I.shr .u64 .i64 (@Arr.sel (I .u64) (I.of .u64 0) 4 x1.2.1 (@I.nat .i64 (@I.quo .i64 x1.1.1 (I.of .i64 64)))) (@I.rem .i64 x1.1.1 (I.of .i64 64))) (I.of .u64 1)), ())), ())) fun y2 =>
        jn (fun (x3 : (((I .i64) × (Bool × Unit)) × (U × (U × (U × (U × Unit)))))) =>
          brn x3.1.2.1
           (optF (.done (none)) (muldiv_subWrap_k ((x3.2.2.2.2.1, (x3.2.2.1, ())), ())) fun y4 =>
           brn (@inB .i64 (@I.quo .i64 x3.1.1 (I.of .i64 64)) 4)
            (brn (@I.nn .i64 (@I.rem .i64 x3.1.1 (I.of .i64 64)))
             (brn (@inB .i64 (@I.quo .i64 x3.1.1 (I.of .i64 64)) 4)
              (.again (((@I.sub .i64 x3.1.1 (I.of .i64 1)), ()), (x3.2.1, (x3.2.2.1, ((@Arr.upd (I .u64) 4 x3.2.2.2.1 (@I.nat .i64 (@I.quo .i64 x3.1.1 (I.of .i64 64))) (@I.or .u64 (@Arr.sel (I .u64) (I.of .u64 0) 4 x3.2.2.2.1 (@I.nat .i64 (@I.quo .i64 x3.1.1 (I.of .i64 64)))) (@I.shl .u64 .i64 (I.of .u64 1) (@I.rem .i64 x3.1.1 (I.of .i64 64))))), (y4.1.1, ()))))))
              (.done (none)))
             (.done (none)))
            (.done (none)))
           (.again (((@I.sub .i64 x3.1.1 (I.of .i64 1)), ()), (x3.2.1, (x3.2.2.1, (x3.2.2.2.1, (x3.2.2.2.2.1, ()))))))) fun j3 =>
        brn (@I.eqb .u64 y2.1.2.1 (I.of .u64 1))
         (j3 ((x1.1.1, (true, ())), (x1.2.1, (x1.2.2.1, (x1.2.2.2.1, (y2.1.1, ()))))))
         (optF (.done (none)) (uint256_Cmp ((y2.1.1, (x1.2.2.1, ())), ())) fun y4 =>
         j3 ((x1.1.1, ((@I.leb .i64 (I.of .i64 0) y4.1.1), ())), (x1.2.1, (x1.2.2.1, (x1.2.2.2.1, (y2.1.1, ())))))))
        (.done (none)))
       (.done (none)))
      (.done (some ((x1.2.2.2.1, (x1.2.2.2.2.1, ((I.of .i64 0), ()))), ()))))
   K1 (((I.of .i64 255), ()), (a, (c, (Z_U, (b, ())))))))
theorem muldiv_Div512_k_eq : muldiv_Div512 = muldiv_Div512_k := by
  funext x
  unfold muldiv_Div512 muldiv_Div512_k
  rw [K0_eq, muldiv_shiftLeft_k_eq, muldiv_subWrap_k_eq]
  all_goals kernel_rfl
noncomputable def muldiv_MulDivFloor_k (x : (⟨[.pl u256, .pl u256, .pl u256], []⟩ : Tm).D) : Option (⟨[.pl u256, .pl (.int .i64)], []⟩ : Tm).D :=
 let a : U := x.1.1
 let b : U := x.1.2.1
 let c : U := x.1.2.2.1
 optF (none) (muldiv_Mul_k ((a, (b, ())), ())) fun y0 =>
 optF (none) (muldiv_Div512_k ((y0.1.1, (y0.1.2.1, (c, ()))), ())) fun y1 =>
 some ((y1.1.1, (y1.1.2.2.1, ())), ())
theorem muldiv_MulDivFloor_k_eq : muldiv_MulDivFloor = muldiv_MulDivFloor_k := by
  funext x
  unfold muldiv_MulDivFloor muldiv_MulDivFloor_k
  rw [muldiv_Mul_k_eq, muldiv_Div512_k_eq]
  all_goals kernel_rfl
noncomputable def alloc_Allocate_k (x : (⟨[.pl (.int .u64), .pl (.int .u64), .pl (.int .u64), .pl (.int .u64)], []⟩ : Tm).D) : Option (⟨[.pl (.int .u64), .pl (.int .i64)], []⟩ : Tm).D :=
 let a : (I .u64) := x.1.1
 let b : (I .u64) := x.1.2.1
 let c : (I .u64) := x.1.2.2.1
 let d : (I .u64) := x.1.2.2.2.1
 jn (fun (x0 : (U × Unit)) =>
   optF (none) (uint256_FromUint64 ((x0.1.1, ()), ())) fun y1 =>
   optF (none) (uint256_FromUint64 (((@I.sub .u64 x0.1.2.2.1 x0.1.2.1), ()), ())) fun y2 =>
   optF (none) (uint256_FromUint64 (((@I.sub .u64 x0.1.2.2.2.1 x0.1.2.1), ()), ())) fun y3 =>
   optF (none) (muldiv_MulDivFloor_k ((y1.1.1, (y2.1.1, (y3.1.1, ()))), ())) fun y4 =>
   some ((y4.1.1.1, (y4.1.2.1, ())), ())) fun j0 =>
 jn (fun (x1 : (((I .u64) × ((I .u64) × ((I .u64) × ((I .u64) × (Bool × Unit))))) × Unit)) =>
   brn x1.1.2.2.2.2.1
    (some (((I.of .u64 0), ((I.of .i64 14), ())), ()))
    (brn (@I.eqb .u64 x1.1.2.2.2.1 x1.1.2.1)
     (some ((x1.1.1, ((I.of .i64 0), ())), ()))
     (j0 ((x1.1.1, (x1.1.2.1, (x1.1.2.2.1, (x1.1.2.2.2.1, ())))), ())))) fun j1 =>
 brn (@I.ltb .u64 c b)
  (j1 ((a, (b, (c, (d, (true, ()))))), ()))
  (j1 ((a, (b, (c, (d, ((@I.ltb .u64 d c), ()))))), ()))
theorem alloc_Allocate_k_eq : alloc_Allocate = alloc_Allocate_k := by
  funext x
  unfold alloc_Allocate alloc_Allocate_k
  rw [muldiv_MulDivFloor_k_eq]
  all_goals kernel_rfl
noncomputable def pricer_allocate_k (x : (⟨[.pl Y_api_Pricer, .pl Y_api_Params, .pl Y_api_Report, .pl (.int .u64)], []⟩ : Tm).D) : Option (⟨[.pl Y_pricer_Outcome, .pl (.int .i64)], []⟩ : Tm).D :=
 let a : S_api_Pricer := x.1.1
 let b : S_api_Params := x.1.2.1
 let c : S_api_Report := x.1.2.2.1
 let d : (I .u64) := x.1.2.2.2.1
 optF (none) (alloc_Allocate_k ((a.2.1, (a.2.2.1, (c.2.1, (d, ())))), ())) fun y0 =>
 brn (@I.neb .i64 y0.1.2.1 (I.of .i64 0))
  (some ((((I.of .u64 0), (Z_U, ([], ()))), (y0.1.2.1, ())), ()))
  (optF (none) (uint256_FromUint64 ((y0.1.1, ()), ())) fun y1 =>
  optF (none) (uint256_Mul_k ((b.2.2.2.2.2.2.2.1, (y1.1.1, ())), ())) fun y2 =>
  brn (@I.neb .i64 y2.1.2.1 (I.of .i64 0))
   (some ((((I.of .u64 0), (Z_U, ([], ()))), (y2.1.2.1, ())), ()))
   (some (((y0.1.1, (y2.1.1, ([], ()))), ((I.of .i64 0), ())), ())))
theorem pricer_allocate_k_eq : pricer_allocate = pricer_allocate_k := by
  funext x
  unfold pricer_allocate pricer_allocate_k
  rw [uint256_Mul_k_eq, alloc_Allocate_k_eq]
  all_goals kernel_rfl
noncomputable def poster_Accrue_k (x : (⟨[.pl (.sl Y_api_Poster), .pl (.int .u64), .pl u256, .pl u256, .pl (.int .u64)], []⟩ : Tm).D) : Option (⟨[.pl (.sl Y_api_Poster), .pl (.int .i64)], []⟩ : Tm).D :=
 let a : (List S_api_Poster) := x.1.1
 let b : (I .u64) := x.1.2.1
 let c : U := x.1.2.2.1
 let d : U := x.1.2.2.2.1
 let e : (I .u64) := x.1.2.2.2.2.1
 optF (none) (poster_Find_k ((a, (b, ())), ())) fun y0 =>
 jn (fun (x1 : (((List S_api_Poster) × ((I .u64) × ((I .i64) × Unit))) × (U × (U × Unit)))) =>
   brn (@inB .i64 x1.1.2.2.1 (@lenL S_api_Poster x1.1.1))
    (optF (none) (uint256_Add ((x1.2.1, (x1.2.2.1, ())), ())) fun y2 =>
    optF (none) (uint256_Add (((@rdL S_api_Poster Z_S_api_Poster x1.1.1 (@I.nat .i64 x1.1.2.2.1)).2.1, (y2.1.1, ())), ())) fun y3 =>
    optF (none) (uint256_Add (((@rdL S_api_Poster Z_S_api_Poster x1.1.1 (@I.nat .i64 x1.1.2.2.1)).2.2.1, (x1.2.1, ())), ())) fun y4 =>
    optF (none) (uint256_Add (((@rdL S_api_Poster Z_S_api_Poster x1.1.1 (@I.nat .i64 x1.1.2.2.1)).2.2.2.1, (x1.2.2.1, ())), ())) fun y5 =>
    jn (fun (x6 : (((List S_api_Poster) × ((I .u64) × ((I .i64) × Unit))) × (S_api_Poster × (U × (U × (U × Unit)))))) =>
      jn (fun (x7 : (((List S_api_Poster) × ((I .i64) × Unit)) × (S_api_Poster × (U × (U × (U × Unit)))))) =>
        optF (none) (slices_Clone___api_Poster_api_Poster__k ((x7.1.1, ()), ())) fun y8 =>
        brn (@inB .i64 x7.1.2.1 (@lenL S_api_Poster y8.2.1))
         (some (((@setL S_api_Poster y8.2.1 (@I.nat .i64 x7.1.2.1) (x7.2.1.1, (x7.2.2.1, (x7.2.2.2.1, (x7.2.2.2.2.1, x7.2.1.2.2.2.2))))), ((I.of .i64 0), ())), ()))
         (none)) fun j7 =>
      optF (none) (poster_isZero ((x6.2.1.2.1, ()), ())) fun y8 =>
      brn y8.1.1
       (optF (none) (poster_isZero ((x6.2.2.1, ()), ())) fun y9 =>
       brn (bnot y9.1.1)
        (j7 ((x6.1.1, (x6.1.2.2.1, ())), ((x6.2.1.1, (x6.2.1.2.1, (x6.2.1.2.2.1, (x6.2.1.2.2.2.1, (x6.2.1.2.2.2.2.1, (x6.1.2.1, x6.2.1.2.2.2.2.2.2)))))), (x6.2.2.1, (x6.2.2.2.1, (x6.2.2.2.2.1, ()))))))
        (j7 ((x6.1.1, (x6.1.2.2.1, ())), (x6.2.1, (x6.2.2.1, (x6.2.2.2.1, (x6.2.2.2.2.1, ())))))))
       (j7 ((x6.1.1, (x6.1.2.2.1, ())), (x6.2.1, (x6.2.2.1, (x6.2.2.2.1, (x6.2.2.2.2.1, ()))))))) fun j6 =>
    brn (@I.neb .i64 y2.1.2.1 (I.of .i64 0))
     (some (([], ((I.of .i64 4), ())), ()))
     (brn (@I.neb .i64 y3.1.2.1 (I.of .i64 0))
      (some (([], ((I.of .i64 4), ())), ()))
      (brn (@I.neb .i64 y4.1.2.1 (I.of .i64 0))
       (some (([], ((I.of .i64 4), ())), ()))
       (brn (@I.neb .i64 y5.1.2.1 (I.of .i64 0))
        (some (([], ((I.of .i64 4), ())), ()))
        (j6 ((x1.1.1, (x1.1.2.1, (x1.1.2.2.1, ()))), ((@rdL S_api_Poster Z_S_api_Poster x1.1.1 (@I.nat .i64 x1.1.2.2.1)), (y3.1.1, (y4.1.1, (y5.1.1, ()))))))))))
    (none)) fun j1 =>
 jn (fun (x2 : (((List S_api_Poster) × ((I .u64) × ((I .i64) × (Bool × Unit)))) × (U × (U × Unit)))) =>
   brn x2.1.2.2.2.1
    (some (([], ((I.of .i64 2), ())), ()))
    (brn (@I.ltb .i64 x2.1.2.2.1 (I.of .i64 0))
     (some (([], ((I.of .i64 8), ())), ()))
     (j1 ((x2.1.1, (x2.1.2.1, (x2.1.2.2.1, ()))), (x2.2.1, (x2.2.2.1, ())))))) fun j2 =>
 optF (none) (poster_Valid_k ((a, ()), ())) fun y3 =>
 brn (bnot y3.1.1)
  (j2 ((a, (e, (y0.1.1, (true, ())))), (c, (d, ()))))
  (j2 ((a, (e, (y0.1.1, ((@I.eqb .u64 e (I.of .u64 0)), ())))), (c, (d, ()))))
theorem poster_Accrue_k_eq : poster_Accrue = poster_Accrue_k := by
  funext x
  unfold poster_Accrue poster_Accrue_k
  rw [poster_Find_k_eq, poster_Valid_k_eq, slices_Clone___api_Poster_api_Poster__k_eq]
  all_goals kernel_rfl
noncomputable def container_heap_Push_k (x : (⟨[.iface 116 (.ptr 0 [.fld 0]), .iface 118 (.pl Y_debtqueue_item)], [.box Y_debtqueue_Queue (.pair (.whole 1) (.pl .nil)), .row Y_debtqueue_item]⟩ : Tm).D) : Option (⟨[], [.box Y_debtqueue_Queue (.pair (.whole 1) (.pl .nil)), .row Y_debtqueue_item]⟩ : Tm).D :=
 let b : S_debtqueue_item := x.1.2.1
 let h0 : (Unit × Unit) := x.2.1
 let h1 : (List S_debtqueue_item) := x.2.2.1
 brn (fitsLen (@lenL S_debtqueue_item (@appL S_debtqueue_item h1 (b :: []))))
  (optF (none) (debtqueue_items_Len (((@appL S_debtqueue_item h1 (b :: [])), ()), ())) fun y0 =>
  iter (none) (fun x1 =>
    brn (@I.eqb .i64 (@I.quo .i64 (@I.sub .i64 x1.1.2.1 (I.of .i64 1)) (I.of .i64 2)) x1.1.2.1)
     (.done (some ((), (((), x1.2.1.2), (x1.2.2.1, ())))))
     (optF (.done (none)) (debtqueue_items_Less ((x1.2.2.1, (x1.1.2.1, ((@I.quo .i64 (@I.sub .i64 x1.1.2.1 (I.of .i64 1)) (I.of .i64 2)), ()))), ())) fun y2 =>
     brn (bnot y2.1.1)
      (.done (some ((), (((), x1.2.1.2), (x1.2.2.1, ())))))
      (brn (@inB .i64 x1.1.2.1 (@lenL S_debtqueue_item x1.2.2.1))
       (brn (@inB .i64 (@I.quo .i64 (@I.sub .i64 x1.1.2.1 (I.of .i64 1)) (I.of .i64 2)) (@lenL S_debtqueue_item x1.2.2.1))
        (brn (@inB .i64 (@I.quo .i64 (@I.sub .i64 x1.1.2.1 (I.of .i64 1)) (I.of .i64 2)) (@lenL S_debtqueue_item x1.2.2.1))
         (brn (@inB .i64 x1.1.2.1 (@lenL S_debtqueue_item (@setL S_debtqueue_item x1.2.2.1 (@I.nat .i64 (@I.quo .i64 (@I.sub .i64 x1.1.2.1 (I.of .i64 1)) (I.of .i64 2))) (@rdL S_debtqueue_item Z_S_debtqueue_item x1.2.2.1 (@I.nat .i64 x1.1.2.1)))))
          (.again (((), ((@I.quo .i64 (@I.sub .i64 x1.1.2.1 (I.of .i64 1)) (I.of .i64 2)), ())), (((), x1.2.1.2), ((@setL S_debtqueue_item (@setL S_debtqueue_item x1.2.2.1 (@I.nat .i64 (@I.quo .i64 (@I.sub .i64 x1.1.2.1 (I.of .i64 1)) (I.of .i64 2))) (@rdL S_debtqueue_item Z_S_debtqueue_item x1.2.2.1 (@I.nat .i64 x1.1.2.1))) (@I.nat .i64 x1.1.2.1) (@rdL S_debtqueue_item Z_S_debtqueue_item x1.2.2.1 (@I.nat .i64 (@I.quo .i64 (@I.sub .i64 x1.1.2.1 (I.of .i64 1)) (I.of .i64 2))))), ()))))
          (.done (none)))
         (.done (none)))
        (.done (none)))
       (.done (none)))))
  K1 (((), ((@I.sub .i64 y0.1.1 (I.of .i64 1)), ())), (((), h0.2), ((@appL S_debtqueue_item h1 (b :: [])), ()))))
  (none)
theorem container_heap_Push_k_eq : container_heap_Push = container_heap_Push_k := by
  funext x
  unfold container_heap_Push container_heap_Push_k
  rw [K0_eq]
  all_goals kernel_rfl
noncomputable def debtqueue_New_k (x : (⟨[.pl (.sl Y_api_Poster)], []⟩ : Tm).D) : Option (⟨[.ptr 0 []], [.box Y_debtqueue_Queue (.pair (.whole 1) (.pl .nil)), .row Y_debtqueue_item]⟩ : Tm).D :=
 let a : (List S_api_Poster) := x.1.1
 iter (none) (fun x0 =>
   brn (@I.ltb .i64 x0.1.2.2.1 x0.1.2.1)
    (brn (@inB .i64 x0.1.2.2.1 (@lenL S_api_Poster x0.1.1))
     (brn (bnot (Ty.eqb u256 (@rdL S_api_Poster Z_S_api_Poster x0.1.1 (@I.nat .i64 x0.1.2.2.1)).2.1 Z_U))
      (optF (.done (none)) (container_heap_Push_k (((), (((@rdL S_api_Poster Z_S_api_Poster x0.1.1 (@I.nat .i64 x0.1.2.2.1)), (x0.1.2.2.1, ())), ())), (((), x0.2.1.2), (x0.2.2.1, ())))) fun y1 =>
      .again ((x0.1.1, (x0.1.2.1, ((@I.add .i64 x0.1.2.2.1 (I.of .i64 1)), ()))), (((), y1.2.1.2), (y1.2.2.1, ()))))
      (.again ((x0.1.1, (x0.1.2.1, ((@I.add .i64 x0.1.2.2.1 (I.of .i64 1)), ()))), (((), x0.2.1.2), (x0.2.2.1, ())))))
     (.done (none)))
    (.done (some ((), (((), x0.2.1.2), (x0.2.2.1, ()))))))
 K1 ((a, ((I.ofNat .i64 (@lenL S_api_Poster a)), ((I.of .i64 0), ()))), (((), ()), ([], ())))
theorem debtqueue_New_k_eq : debtqueue_New = debtqueue_New_k := by
  funext x
  unfold debtqueue_New debtqueue_New_k
  rw [K0_eq, container_heap_Push_k_eq]
  all_goals kernel_rfl
noncomputable def debtqueue_Queue_Pop_k (x : (⟨[.ptr 0 []], [.box Y_debtqueue_Queue (.pair (.whole 1) (.pl .nil)), .row Y_debtqueue_item]⟩ : Tm).D) : Option (⟨[.pl Y_api_Poster, .pl .bool], [.box Y_debtqueue_Queue (.pair (.whole 1) (.pl .nil)), .row Y_debtqueue_item]⟩ : Tm).D :=
 let h0 : (Unit × Unit) := x.2.1
 let h1 : (List S_debtqueue_item) := x.2.2.1
 optF (none) (debtqueue_Queue_Peek ((), (((), h0.2), (h1, ())))) fun y0 =>
 brn y0.1.2.1
  (optF (none) (debtqueue_items_Len ((y0.2.2.1, ()), ())) fun y1 =>
  brn (@inB .i64 (@I.sub .i64 y1.1.1 (I.of .i64 1)) (@lenL S_debtqueue_item y0.2.2.1))
   (brn (@inB .i64 (I.of .i64 0) (@lenL S_debtqueue_item y0.2.2.1))
    (brn (@inB .i64 (I.of .i64 0) (@lenL S_debtqueue_item y0.2.2.1))
     (brn (@inB .i64 (@I.sub .i64 y1.1.1 (I.of .i64 1)) (@lenL S_debtqueue_item (@setL S_debtqueue_item y0.2.2.1 0 (@rdL S_debtqueue_item Z_S_debtqueue_item y0.2.2.1 (@I.nat .i64 (@I.sub .i64 y1.1.1 (I.of .i64 1)))))))
      (iter (none) (fun x2 =>
        brn (@I.leb .i64 x2.1.2.2.1 (@I.add .i64 (@I.mul .i64 (I.of .i64 2) x2.1.2.2.2.1) (I.of .i64 1)))
         (.done (brn (@inB .i64 (@I.sub .i64 (I.ofNat .i64 (@lenL S_debtqueue_item x2.2.2.1)) (I.of .i64 1)) (@lenL S_debtqueue_item x2.2.2.1))
          (brn (@inB' .i64 (@I.sub .i64 (I.ofNat .i64 (@lenL S_debtqueue_item x2.2.2.1)) (I.of .i64 1)) (@lenL S_debtqueue_item x2.2.2.1))
           (some ((x2.2.2.2.2.1, (x2.1.2.2.2.2.2.1, ())), (((), x2.2.1.2), ((@subL S_debtqueue_item x2.2.2.1 0 (@I.nat .i64 (@I.sub .i64 (I.ofNat .i64 (@lenL S_debtqueue_item x2.2.2.1)) (I.of .i64 1)))), ()))))
           (none))
          (none)))
         (brn (@I.ltb .i64 (@I.add .i64 (@I.mul .i64 (I.of .i64 2) x2.1.2.2.2.1) (I.of .i64 1)) (I.of .i64 0))
          (.done (brn (@inB .i64 (@I.sub .i64 (I.ofNat .i64 (@lenL S_debtqueue_item x2.2.2.1)) (I.of .i64 1)) (@lenL S_debtqueue_item x2.2.2.1))
           (brn (@inB' .i64 (@I.sub .i64 (I.ofNat .i64 (@lenL S_debtqueue_item x2.2.2.1)) (I.of .i64 1)) (@lenL S_debtqueue_item x2.2.2.1))
            (some ((x2.2.2.2.2.1, (x2.1.2.2.2.2.2.1, ())), (((), x2.2.1.2), ((@subL S_debtqueue_item x2.2.2.1 0 (@I.nat .i64 (@I.sub .i64 (I.ofNat .i64 (@lenL S_debtqueue_item x2.2.2.1)) (I.of .i64 1)))), ()))))
            (none))
           (none)))
          (brn (@I.ltb .i64 (@I.add .i64 (@I.add .i64 (@I.mul .i64 (I.of .i64 2) x2.1.2.2.2.1) (I.of .i64 1)) (I.of .i64 1)) x2.1.2.2.1)
           (optF (.done (none)) (debtqueue_items_Less ((x2.2.2.1, ((@I.add .i64 (@I.add .i64 (@I.mul .i64 (I.of .i64 2) x2.1.2.2.2.1) (I.of .i64 1)) (I.of .i64 1)), ((@I.add .i64 (@I.mul .i64 (I.of .i64 2) x2.1.2.2.2.1) (I.of .i64 1)), ()))), ())) fun y3 =>
           brn y3.1.1
            (optF (.done (none)) (debtqueue_items_Less ((x2.2.2.1, ((@I.add .i64 (@I.add .i64 (@I.mul .i64 (I.of .i64 2) x2.1.2.2.2.1) (I.of .i64 1)) (I.of .i64 1)), (x2.1.2.2.2.1, ()))), ())) fun y4 =>
            brn (bnot y4.1.1)
             (.done (brn (@inB .i64 (@I.sub .i64 (I.ofNat .i64 (@lenL S_debtqueue_item x2.2.2.1)) (I.of .i64 1)) (@lenL S_debtqueue_item x2.2.2.1))
              (brn (@inB' .i64 (@I.sub .i64 (I.ofNat .i64 (@lenL S_debtqueue_item x2.2.2.1)) (I.of .i64 1)) (@lenL S_debtqueue_item x2.2.2.1))
               (some ((x2.2.2.2.2.1, (x2.1.2.2.2.2.2.1, ())), (((), x2.2.1.2), ((@subL S_debtqueue_item x2.2.2.1 0 (@I.nat .i64 (@I.sub .i64 (I.ofNat .i64 (@lenL S_debtqueue_item x2.2.2.1)) (I.of .i64 1)))), ()))))
               (none))
              (none)))
             (brn (@inB .i64 (@I.add .i64 (@I.add .i64 (@I.mul .i64 (I.of .i64 2) x2.1.2.2.2.1) (I.of .i64 1)) (I.of .i64 1)) (@lenL S_debtqueue_item x2.2.2.1))
              (brn (@inB .i64 x2.1.2.2.2.1 (@lenL S_debtqueue_item x2.2.2.1))
               (brn (@inB .i64 x2.1.2.2.2.1 (@lenL S_debtqueue_item x2.2.2.1))
                (brn (@inB .i64 (@I.add .i64 (@I.add .i64 (@I.mul .i64 (I.of .i64 2) x2.1.2.2.2.1) (I.of .i64 1)) (I.of .i64 1)) (@lenL S_debtqueue_item (@setL S_debtqueue_item x2.2.2.1 (@I.nat .i64 x2.1.2.2.2.1) (@rdL S_debtqueue_item Z_S_debtqueue_item x2.2.2.1 (@I.nat .i64 (@I.add .i64 (@I.add .i64 (@I.mul .i64 (I.of .i64 2) x2.1.2.2.2.1) (I.of .i64 1)) (I.of .i64 1)))))))
                 (.again (((), (x2.1.2.1, (x2.1.2.2.1, ((@I.add .i64 (@I.add .i64 (@I.mul .i64 (I.of .i64 2) x2.1.2.2.2.1) (I.of .i64 1)) (I.of .i64 1)), ((), (x2.1.2.2.2.2.2.1, ())))))), (((), x2.2.1.2), ((@setL S_debtqueue_item (@setL S_debtqueue_item x2.2.2.1 (@I.nat .i64 x2.1.2.2.2.1) (@rdL S_debtqueue_item Z_S_debtqueue_item x2.2.2.1 (@I.nat .i64 (@I.add .i64 (@I.add .i64 (@I.mul .i64 (I.of .i64 2) x2.1.2.2.2.1) (I.of .i64 1)) (I.of .i64 1))))) (@I.nat .i64 (@I.add .i64 (@I.add .i64 (@I.mul .i64 (I.of .i64 2) x2.1.2.2.2.1) (I.of .i64 1)) (I.of .i64 1))) (@rdL S_debtqueue_item Z_S_debtqueue_item x2.2.2.1 (@I.nat .i64 x2.1.2.2.2.1))), (x2.2.2.2.1, (x2.2.2.2.2.1, ()))))))
                 (.done (none)))
                (.done (none)))
               (.done (none)))
              (.done (none))))
            (optF (.done (none)) (debtqueue_items_Less ((x2.2.2.1, ((@I.add .i64 (@I.mul .i64 (I.of .i64 2) x2.1.2.2.2.1) (I.of .i64 1)), (x2.1.2.2.2.1, ()))), ())) fun y4 =>
            brn (bnot y4.1.1)
             (.done (brn (@inB .i64 (@I.sub .i64 (I.ofNat .i64 (@lenL S_debtqueue_item x2.2.2.1)) (I.of .i64 1)) (@lenL S_debtqueue_item x2.2.2.1))
              (brn (@inB' .i64 (@I.sub .i64 (I.ofNat .i64 (@lenL S_debtqueue_item x2.2.2.1)) (I.of .i64 1)) (@lenL S_debtqueue_item x2.2.2.1))
               (some ((x2.2.2.2.2.1, (x2.1.2.2.2.2.2.1, ())), (((), x2.2.1.2), ((@subL S_debtqueue_item x2.2.2.1 0 (@I.nat .i64 (@I.sub .i64 (I.ofNat .i64 (@lenL S_debtqueue_item x2.2.2.1)) (I.of .i64 1)))), ()))))
               (none))
              (none)))
             (brn (@inB .i64 (@I.add .i64 (@I.mul .i64 (I.of .i64 2) x2.1.2.2.2.1) (I.of .i64 1)) (@lenL S_debtqueue_item x2.2.2.1))
              (brn (@inB .i64 x2.1.2.2.2.1 (@lenL S_debtqueue_item x2.2.2.1))
               (brn (@inB .i64 x2.1.2.2.2.1 (@lenL S_debtqueue_item x2.2.2.1))
                (brn (@inB .i64 (@I.add .i64 (@I.mul .i64 (I.of .i64 2) x2.1.2.2.2.1) (I.of .i64 1)) (@lenL S_debtqueue_item (@setL S_debtqueue_item x2.2.2.1 (@I.nat .i64 x2.1.2.2.2.1) (@rdL S_debtqueue_item Z_S_debtqueue_item x2.2.2.1 (@I.nat .i64 (@I.add .i64 (@I.mul .i64 (I.of .i64 2) x2.1.2.2.2.1) (I.of .i64 1)))))))
                 (.again (((), (x2.1.2.1, (x2.1.2.2.1, ((@I.add .i64 (@I.mul .i64 (I.of .i64 2) x2.1.2.2.2.1) (I.of .i64 1)), ((), (x2.1.2.2.2.2.2.1, ())))))), (((), x2.2.1.2), ((@setL S_debtqueue_item (@setL S_debtqueue_item x2.2.2.1 (@I.nat .i64 x2.1.2.2.2.1) (@rdL S_debtqueue_item Z_S_debtqueue_item x2.2.2.1 (@I.nat .i64 (@I.add .i64 (@I.mul .i64 (I.of .i64 2) x2.1.2.2.2.1) (I.of .i64 1))))) (@I.nat .i64 (@I.add .i64 (@I.mul .i64 (I.of .i64 2) x2.1.2.2.2.1) (I.of .i64 1))) (@rdL S_debtqueue_item Z_S_debtqueue_item x2.2.2.1 (@I.nat .i64 x2.1.2.2.2.1))), (x2.2.2.2.1, (x2.2.2.2.2.1, ()))))))
                 (.done (none)))
                (.done (none)))
               (.done (none)))
              (.done (none)))))
           (optF (.done (none)) (debtqueue_items_Less ((x2.2.2.1, ((@I.add .i64 (@I.mul .i64 (I.of .i64 2) x2.1.2.2.2.1) (I.of .i64 1)), (x2.1.2.2.2.1, ()))), ())) fun y3 =>
           brn (bnot y3.1.1)
            (.done (brn (@inB .i64 (@I.sub .i64 (I.ofNat .i64 (@lenL S_debtqueue_item x2.2.2.1)) (I.of .i64 1)) (@lenL S_debtqueue_item x2.2.2.1))
             (brn (@inB' .i64 (@I.sub .i64 (I.ofNat .i64 (@lenL S_debtqueue_item x2.2.2.1)) (I.of .i64 1)) (@lenL S_debtqueue_item x2.2.2.1))
              (some ((x2.2.2.2.2.1, (x2.1.2.2.2.2.2.1, ())), (((), x2.2.1.2), ((@subL S_debtqueue_item x2.2.2.1 0 (@I.nat .i64 (@I.sub .i64 (I.ofNat .i64 (@lenL S_debtqueue_item x2.2.2.1)) (I.of .i64 1)))), ()))))
              (none))
             (none)))
            (brn (@inB .i64 (@I.add .i64 (@I.mul .i64 (I.of .i64 2) x2.1.2.2.2.1) (I.of .i64 1)) (@lenL S_debtqueue_item x2.2.2.1))
             (brn (@inB .i64 x2.1.2.2.2.1 (@lenL S_debtqueue_item x2.2.2.1))
              (brn (@inB .i64 x2.1.2.2.2.1 (@lenL S_debtqueue_item x2.2.2.1))
               (brn (@inB .i64 (@I.add .i64 (@I.mul .i64 (I.of .i64 2) x2.1.2.2.2.1) (I.of .i64 1)) (@lenL S_debtqueue_item (@setL S_debtqueue_item x2.2.2.1 (@I.nat .i64 x2.1.2.2.2.1) (@rdL S_debtqueue_item Z_S_debtqueue_item x2.2.2.1 (@I.nat .i64 (@I.add .i64 (@I.mul .i64 (I.of .i64 2) x2.1.2.2.2.1) (I.of .i64 1)))))))
                (.again (((), (x2.1.2.1, (x2.1.2.2.1, ((@I.add .i64 (@I.mul .i64 (I.of .i64 2) x2.1.2.2.2.1) (I.of .i64 1)), ((), (x2.1.2.2.2.2.2.1, ())))))), (((), x2.2.1.2), ((@setL S_debtqueue_item (@setL S_debtqueue_item x2.2.2.1 (@I.nat .i64 x2.1.2.2.2.1) (@rdL S_debtqueue_item Z_S_debtqueue_item x2.2.2.1 (@I.nat .i64 (@I.add .i64 (@I.mul .i64 (I.of .i64 2) x2.1.2.2.2.1) (I.of .i64 1))))) (@I.nat .i64 (@I.add .i64 (@I.mul .i64 (I.of .i64 2) x2.1.2.2.2.1) (I.of .i64 1))) (@rdL S_debtqueue_item Z_S_debtqueue_item x2.2.2.1 (@I.nat .i64 x2.1.2.2.2.1))), (x2.2.2.2.1, (x2.2.2.2.2.1, ()))))))
                (.done (none)))
               (.done (none)))
              (.done (none)))
             (.done (none)))))))
      K1 (((), ((I.of .i64 0), ((@I.sub .i64 y1.1.1 (I.of .i64 1)), ((I.of .i64 0), ((), (y0.1.2.1, ())))))), (((), y0.2.1.2), ((@setL S_debtqueue_item (@setL S_debtqueue_item y0.2.2.1 0 (@rdL S_debtqueue_item Z_S_debtqueue_item y0.2.2.1 (@I.nat .i64 (@I.sub .i64 y1.1.1 (I.of .i64 1))))) (@I.nat .i64 (@I.sub .i64 y1.1.1 (I.of .i64 1))) (@rdL S_debtqueue_item Z_S_debtqueue_item y0.2.2.1 0)), (Z_S_api_Poster, (y0.1.1, ()))))))
      (none))
     (none))
    (none))
   (none))
  (some ((y0.1.1, (y0.1.2.1, ())), (((), y0.2.1.2), (y0.2.2.1, ()))))
theorem debtqueue_Queue_Pop_k_eq : debtqueue_Queue_Pop = debtqueue_Queue_Pop_k := by
  funext x
  unfold debtqueue_Queue_Pop debtqueue_Queue_Pop_k
  rw [K0_eq]
  all_goals kernel_rfl
noncomputable def uint256_Min_k (x : (⟨[.pl u256, .pl (.sl u256)], []⟩ : Tm).D) : Option (⟨[.pl u256], []⟩ : Tm).D :=
 let a : U := x.1.1
 let b : (List U) := x.1.2.1
 iter (none) (fun x0 =>
   brn (@I.ltb .i64 x0.1.2.2.1 x0.1.2.1)
    (brn (@inB .i64 x0.1.2.2.1 (@lenL U x0.1.1))
     (optF (.done (none)) (uint256_Cmp (((@rdL U Z_U x0.1.1 (@I.nat .i64 x0.1.2.2.1)), (x0.2.1, ())), ())) fun y1 =>
     brn (@I.ltb .i64 y1.1.1 (I.of .i64 0))
      (.again ((x0.1.1, (x0.1.2.1, ((@I.add .i64 x0.1.2.2.1 (I.of .i64 1)), ()))), ((@rdL U Z_U x0.1.1 (@I.nat .i64 x0.1.2.2.1)), (x0.2.2.1, ()))))
      (.again ((x0.1.1, (x0.1.2.1, ((@I.add .i64 x0.1.2.2.1 (I.of .i64 1)), ()))), (x0.2.1, (x0.2.2.1, ())))))
     (.done (none)))
    (.done (some ((x0.2.1, ()), ()))))
 K1 ((b, ((I.ofNat .i64 (@lenL U b)), ((I.of .i64 0), ()))), (a, (Z_U, ())))
theorem uint256_Min_k_eq : uint256_Min = uint256_Min_k := by
  funext x
  unfold uint256_Min uint256_Min_k
  rw [K0_eq]
  all_goals kernel_rfl
noncomputable def payout_Plan_k (x : (⟨[.pl (.sl Y_api_Poster), .pl u256], []⟩ : Tm).D) : Option (⟨[.pl (.sl Y_api_Payment), .pl (.int .i64)], []⟩ : Tm).D :=
 let a : (List S_api_Poster) := x.1.1
 let b : U := x.1.2.1
 optF (none) (poster_Valid_k ((a, ()), ())) fun y0 =>
 brn (bnot y0.1.1)
  (some (([], ((I.of .i64 2), ())), ()))
  (optF (none) (debtqueue_New_k ((a, ()), ())) fun y1 =>
  optF (none) (debtqueue_Queue_Pop_k ((), (((), y1.2.1.2), (y1.2.2.1, ())))) fun y2 =>
  iter (none) (fun x3 =>
    jn (fun (x4 : ((U × (U × (Bool × Unit))) × (U × ((List S_api_Payment) × ((Unit × Unit) × ((List S_debtqueue_item) × (S_api_Poster × Unit))))))) =>
      optF (.done (none)) (uint256_Min_k ((x4.2.2.2.2.2.1.2.1, ((x4.2.1 :: []), ())), ())) fun y5 =>
      optF (.done (none)) (uint256_SaturatingSub ((x4.2.1, (y5.1.1, ())), ())) fun y6 =>
      brn (fitsLen (@lenL S_api_Payment (@appL S_api_Payment x4.2.2.1 ((x4.2.2.2.2.2.1.1, (y5.1.1, ())) :: []))))
       (optF (.done (none)) (debtqueue_Queue_Pop_k ((), (((), x4.2.2.2.1.2), (x4.2.2.2.2.1, ())))) fun y7 =>
       .again ((y7.1.2.1, ()), (y6.1.1, ((@appL S_api_Payment x4.2.2.1 ((x4.2.2.2.2.2.1.1, (y5.1.1, ())) :: [])), (((), y7.2.1.2), (y7.2.2.1, (y7.1.1, ())))))))
       (.done (none))) fun j4 =>
    brn x3.1.1
     (brn (bnot (Ty.eqb u256 x3.2.1 Z_U))
      (j4 ((x3.2.1, (Z_U, ((bnot (Ty.eqb u256 x3.2.1 Z_U)), ()))), (x3.2.1, (x3.2.2.1, (((), x3.2.2.2.1.2), (x3.2.2.2.2.1, (x3.2.2.2.2.2.1, ())))))))
      (.done (some ((x3.2.2.1, ((I.of .i64 0), ())), ()))))
     (.done (some ((x3.2.2.1, ((I.of .i64 0), ())), ()))))
  K1 ((y2.1.2.1, ()), (b, ([], (((), y2.2.1.2), (y2.2.2.1, (y2.1.1, ())))))))
theorem payout_Plan_k_eq : payout_Plan = payout_Plan_k := by
  funext x
  unfold payout_Plan payout_Plan_k
  rw [K0_eq, poster_Valid_k_eq, debtqueue_New_k_eq, debtqueue_Queue_Pop_k_eq, uint256_Min_k_eq]
  all_goals kernel_rfl
noncomputable def poster_Settle_k (x : (⟨[.pl (.sl Y_api_Poster), .pl (.int .u64), .pl u256], []⟩ : Tm).D) : Option (⟨[.pl (.sl Y_api_Poster), .pl (.int .i64)], []⟩ : Tm).D :=
 let a : (List S_api_Poster) := x.1.1
 let b : (I .u64) := x.1.2.1
 let c : U := x.1.2.2.1
 optF (none) (poster_Find_k ((a, (b, ())), ())) fun y0 =>
 optF (none) (poster_Valid_k ((a, ()), ())) fun y1 =>
 brn (bnot y1.1.1)
  (some (([], ((I.of .i64 2), ())), ()))
  (brn (@I.ltb .i64 y0.1.1 (I.of .i64 0))
   (some (([], ((I.of .i64 8), ())), ()))
   (brn (@inB .i64 y0.1.1 (@lenL S_api_Poster a))
    (optF (none) (uint256_Sub (((@rdL S_api_Poster Z_S_api_Poster a (@I.nat .i64 y0.1.1)).2.1, (c, ())), ())) fun y2 =>
    brn (@I.neb .i64 y2.1.2.1 (I.of .i64 0))
     (some (([], ((I.of .i64 10), ())), ()))
     (optF (none) (uint256_Add (((@rdL S_api_Poster Z_S_api_Poster a (@I.nat .i64 y0.1.1)).2.2.2.2.1, (c, ())), ())) fun y3 =>
     brn (@I.neb .i64 y3.1.2.1 (I.of .i64 0))
      (some (([], (y3.1.2.1, ())), ()))
      (jn (fun (x4 : (((List S_api_Poster) × ((I .i64) × Unit)) × (S_api_Poster × Unit))) =>
        optF (none) (slices_Clone___api_Poster_api_Poster__k ((x4.1.1, ()), ())) fun y5 =>
        brn (@inB .i64 x4.1.2.1 (@lenL S_api_Poster y5.2.1))
         (some (((@setL S_api_Poster y5.2.1 (@I.nat .i64 x4.1.2.1) x4.2.1), ((I.of .i64 0), ())), ()))
         (none)) fun j4 =>
      optF (none) (poster_isZero ((y2.1.1, ()), ())) fun y5 =>
      brn y5.1.1
       (j4 ((a, (y0.1.1, ())), (((@rdL S_api_Poster Z_S_api_Poster a (@I.nat .i64 y0.1.1)).1, (y2.1.1, ((@rdL S_api_Poster Z_S_api_Poster a (@I.nat .i64 y0.1.1)).2.2.1, ((@rdL S_api_Poster Z_S_api_Poster a (@I.nat .i64 y0.1.1)).2.2.2.1, (y3.1.1, ((I.of .u64 0), (@rdL S_api_Poster Z_S_api_Poster a (@I.nat .i64 y0.1.1)).2.2.2.2.2.2)))))), ())))
       (j4 ((a, (y0.1.1, ())), (((@rdL S_api_Poster Z_S_api_Poster a (@I.nat .i64 y0.1.1)).1, (y2.1.1, ((@rdL S_api_Poster Z_S_api_Poster a (@I.nat .i64 y0.1.1)).2.2.1, ((@rdL S_api_Poster Z_S_api_Poster a (@I.nat .i64 y0.1.1)).2.2.2.1, (y3.1.1, (@rdL S_api_Poster Z_S_api_Poster a (@I.nat .i64 y0.1.1)).2.2.2.2.2))))), ()))))))
    (none)))
theorem poster_Settle_k_eq : poster_Settle = poster_Settle_k := by
  funext x
  unfold poster_Settle poster_Settle_k
  rw [poster_Find_k_eq, poster_Valid_k_eq, slices_Clone___api_Poster_api_Poster__k_eq]
  all_goals kernel_rfl
noncomputable def payout_Apply_k (x : (⟨[.pl (.sl Y_api_Poster), .pl (.sl Y_api_Payment)], []⟩ : Tm).D) : Option (⟨[.pl (.sl Y_api_Poster), .pl (.int .i64)], []⟩ : Tm).D :=
 let a : (List S_api_Poster) := x.1.1
 let b : (List S_api_Payment) := x.1.2.1
 optF (none) (slices_Clone___api_Poster_api_Poster__k ((a, ()), ())) fun y0 =>
 iter (none) (fun x1 =>
   brn (@I.ltb .i64 x1.1.2.2.2.1 x1.1.2.2.1)
    (brn (@inB .i64 x1.1.2.2.2.1 (@lenL S_api_Payment x1.1.2.1))
     (optF (.done (none)) (poster_Settle_k ((x1.1.1, ((@rdL S_api_Payment Z_S_api_Payment x1.1.2.1 (@I.nat .i64 x1.1.2.2.2.1)).1, ((@rdL S_api_Payment Z_S_api_Payment x1.1.2.1 (@I.nat .i64 x1.1.2.2.2.1)).2.1, ()))), ())) fun y2 =>
     brn (@I.neb .i64 y2.1.2.1 (I.of .i64 0))
      (.done (some (([], (y2.1.2.1, ())), ())))
      (.again ((y2.1.1, (x1.1.2.1, (x1.1.2.2.1, ((@I.add .i64 x1.1.2.2.2.1 (I.of .i64 1)), ())))), ())))
     (.done (none)))
    (.done (some ((x1.1.1, ((I.of .i64 0), ())), ()))))
 K1 ((y0.2.1, (b, ((I.ofNat .i64 (@lenL S_api_Payment b)), ((I.of .i64 0), ())))), ())
theorem payout_Apply_k_eq : payout_Apply = payout_Apply_k := by
  funext x
  unfold payout_Apply payout_Apply_k
  rw [K0_eq, slices_Clone___api_Poster_api_Poster__k_eq, poster_Settle_k_eq]
  all_goals kernel_rfl
noncomputable def payout_Sum_k (x : (⟨[.pl (.sl Y_api_Payment)], []⟩ : Tm).D) : Option (⟨[.pl u256, .pl (.int .i64)], []⟩ : Tm).D :=
 let a : (List S_api_Payment) := x.1.1
 iter (none) (fun x0 =>
   brn (@I.ltb .i64 x0.1.2.2.1 x0.1.2.1)
    (brn (@inB .i64 x0.1.2.2.1 (@lenL S_api_Payment x0.1.1))
     (optF (.done (none)) (uint256_Add ((x0.2.2.1, ((@rdL S_api_Payment Z_S_api_Payment x0.1.1 (@I.nat .i64 x0.1.2.2.1)).2.1, ())), ())) fun y1 =>
     brn (@I.neb .i64 y1.1.2.1 (I.of .i64 0))
      (.done (some ((Z_U, (y1.1.2.1, ())), ())))
      (.again ((x0.1.1, (x0.1.2.1, ((@I.add .i64 x0.1.2.2.1 (I.of .i64 1)), ()))), (x0.2.1, (y1.1.1, ())))))
     (.done (none)))
    (.done (some ((x0.2.2.1, ((I.of .i64 0), ())), ()))))
 K1 ((a, ((I.ofNat .i64 (@lenL S_api_Payment a)), ((I.of .i64 0), ()))), (Z_U, (Z_U, ())))
theorem payout_Sum_k_eq : payout_Sum = payout_Sum_k := by
  funext x
  unfold payout_Sum payout_Sum_k
  rw [K0_eq]
  all_goals kernel_rfl
noncomputable def poster_TotalDue_k (x : (⟨[.pl (.sl Y_api_Poster)], []⟩ : Tm).D) : Option (⟨[.pl u256, .pl (.int .i64)], []⟩ : Tm).D :=
 let a : (List S_api_Poster) := x.1.1
 optF (none) (poster_Valid_k ((a, ()), ())) fun y0 =>
 brn (bnot y0.1.1)
  (some ((Z_U, ((I.of .i64 2), ())), ()))
  (iter (none) (fun x1 =>
    brn (@I.ltb .i64 x1.1.2.2.1 x1.1.2.1)
     (brn (@inB .i64 x1.1.2.2.1 (@lenL S_api_Poster x1.1.1))
      (optF (.done (none)) (uint256_Add ((x1.2.2.1, ((@rdL S_api_Poster Z_S_api_Poster x1.1.1 (@I.nat .i64 x1.1.2.2.1)).2.1, ())), ())) fun y2 =>
      brn (@I.neb .i64 y2.1.2.1 (I.of .i64 0))
       (.done (some ((Z_U, (y2.1.2.1, ())), ())))
       (.again ((x1.1.1, (x1.1.2.1, ((@I.add .i64 x1.1.2.2.1 (I.of .i64 1)), ()))), (x1.2.1, (y2.1.1, ())))))
      (.done (none)))
     (.done (some ((x1.2.2.1, ((I.of .i64 0), ())), ()))))
  K1 ((a, ((I.ofNat .i64 (@lenL S_api_Poster a)), ((I.of .i64 0), ()))), (Z_U, (Z_U, ()))))
theorem poster_TotalDue_k_eq : poster_TotalDue = poster_TotalDue_k := by
  funext x
  unfold poster_TotalDue poster_TotalDue_k
  rw [K0_eq, poster_Valid_k_eq]
  all_goals kernel_rfl
noncomputable def muldiv_DivMod_k (x : (⟨[.pl u256, .pl u256], []⟩ : Tm).D) : Option (⟨[.pl u256, .pl u256, .pl (.int .i64)], []⟩ : Tm).D :=
 let a : U := x.1.1
 let b : U := x.1.2.1
 optF (none) (muldiv_Div512_k ((a, (Z_U, (b, ()))), ())) fun y0 =>
 some ((y0.1.1, (y0.1.2.1, (y0.1.2.2.1, ()))), ())
theorem muldiv_DivMod_k_eq : muldiv_DivMod = muldiv_DivMod_k := by
  funext x
  unfold muldiv_DivMod muldiv_DivMod_k
  rw [muldiv_Div512_k_eq]
  all_goals kernel_rfl
noncomputable def int256_DivFloor_k (x : (⟨[.pl Y_api_Int256, .pl u256], []⟩ : Tm).D) : Option (⟨[.pl Y_api_Int256, .pl (.int .i64)], []⟩ : Tm).D :=
 let a : S_api_Int256 := x.1.1
 let b : U := x.1.2.1
 optF (none) (int256_Valid ((a, ()), ())) fun y0 =>
 brn (bnot y0.1.1)
  (some ((Z_S_api_Int256, ((I.of .i64 2), ())), ()))
  (optF (none) (muldiv_DivMod_k ((a.2.1, (b, ())), ())) fun y1 =>
  brn (@I.neb .i64 y1.1.2.2.1 (I.of .i64 0))
   (some ((Z_S_api_Int256, (y1.1.2.2.1, ())), ()))
   (jn (fun (x2 : ((Bool × Unit) × (S_api_Int256 × (S_api_Int256 × (U × Unit))))) =>
     brn x2.1.1
      (optF (none) (uint256_FromUint64 (((I.of .u64 1), ()), ())) fun y3 =>
      optF (none) (uint256_Add ((x2.2.2.2.1, (y3.1.1, ())), ())) fun y4 =>
      optF (none) (int256_New ((x2.2.1.1, (y4.1.1, ())), ())) fun y5 =>
      some ((y5.1.1, ((I.of .i64 0), ())), ()))
      (optF (none) (int256_New ((x2.2.1.1, (x2.2.2.2.1, ())), ())) fun y3 =>
      some ((y3.1.1, ((I.of .i64 0), ())), ()))) fun j2 =>
   brn a.1
    (j2 (((bnot (Ty.eqb u256 y1.1.2.1 Z_U)), ()), (a, (Z_S_api_Int256, (y1.1.1, ())))))
    (j2 ((false, ()), (a, (Z_S_api_Int256, (y1.1.1, ())))))))
theorem int256_DivFloor_k_eq : int256_DivFloor = int256_DivFloor_k := by
  funext x
  unfold int256_DivFloor int256_DivFloor_k
  rw [muldiv_DivMod_k_eq]
  all_goals kernel_rfl
noncomputable def int256_Mul_k (x : (⟨[.pl Y_api_Int256, .pl Y_api_Int256], []⟩ : Tm).D) : Option (⟨[.pl Y_api_Int256, .pl (.int .i64)], []⟩ : Tm).D :=
 let a : S_api_Int256 := x.1.1
 let b : S_api_Int256 := x.1.2.1
 jn (fun (x0 : (Unit × (S_api_Int256 × (S_api_Int256 × (S_api_Int256 × Unit))))) =>
   optF (none) (uint256_Mul_k ((x0.2.1.2.1, (x0.2.2.1.2.1, ())), ())) fun y1 =>
   brn (@I.neb .i64 y1.1.2.1 (I.of .i64 0))
    (some ((Z_S_api_Int256, (y1.1.2.1, ())), ()))
    (optF (none) (int256_New (((bnot (Ty.eqb .bool x0.2.1.1 x0.2.2.1.1)), (y1.1.1, ())), ())) fun y2 =>
    some ((y2.1.1, ((I.of .i64 0), ())), ()))) fun j0 =>
 optF (none) (int256_Valid ((a, ()), ())) fun y1 =>
 brn (bnot y1.1.1)
  (some ((Z_S_api_Int256, ((I.of .i64 2), ())), ()))
  (optF (none) (int256_Valid ((b, ()), ())) fun y2 =>
  brn (bnot y2.1.1)
   (some ((Z_S_api_Int256, ((I.of .i64 2), ())), ()))
   (j0 ((), (a, (b, (Z_S_api_Int256, ()))))))
theorem int256_Mul_k_eq : int256_Mul = int256_Mul_k := by
  funext x
  unfold int256_Mul int256_Mul_k
  rw [uint256_Mul_k_eq]
  all_goals kernel_rfl
noncomputable def l1price_Delta_k (x : (⟨[.pl Y_api_Int256, .pl Y_api_Int256, .pl (.int .u64), .pl Y_api_Params], []⟩ : Tm).D) : Option (⟨[.pl Y_api_Int256, .pl (.int .i64)], []⟩ : Tm).D :=
 let a : S_api_Int256 := x.1.1
 let b : S_api_Int256 := x.1.2.1
 let c : (I .u64) := x.1.2.2.1
 let d : S_api_Params := x.1.2.2.2.1
 jn (fun (x0 : (((I .u64) × Unit) × (S_api_Int256 × (S_api_Int256 × (S_api_Params × (S_api_Int256 × Unit)))))) =>
   optF (none) (int256_Neg ((x0.2.1, ()), ())) fun y1 =>
   optF (none) (uint256_FromUint64 ((x0.2.2.2.1.2.2.2.2.2.2.2.2.1, ()), ())) fun y2 =>
   optF (none) (int256_DivFloor_k ((y1.1.1, (y2.1.1, ())), ())) fun y3 =>
   optF (none) (int256_Sub ((x0.2.1, (x0.2.2.1, ())), ())) fun y4 =>
   brn (@I.neb .i64 y4.1.2.1 (I.of .i64 0))
    (some ((Z_S_api_Int256, (y4.1.2.1, ())), ()))
    (optF (none) (uint256_FromUint64 ((x0.1.1, ()), ())) fun y5 =>
    optF (none) (int256_DivFloor_k ((y4.1.1, (y5.1.1, ())), ())) fun y6 =>
    optF (none) (int256_Sub ((y3.1.1, (y6.1.1, ())), ())) fun y7 =>
    brn (@I.neb .i64 y7.1.2.1 (I.of .i64 0))
     (some ((Z_S_api_Int256, (y7.1.2.1, ())), ()))
     (optF (none) (uint256_FromUint64 ((x0.1.1, ()), ())) fun y8 =>
     optF (none) (int256_Mul_k ((y7.1.1, ((false, (y8.1.1, ())), ())), ())) fun y9 =>
     brn (@I.neb .i64 y9.1.2.1 (I.of .i64 0))
      (some ((Z_S_api_Int256, (y9.1.2.1, ())), ()))
      (brn (@I.nz .u64 x0.2.2.2.1.2.2.2.2.2.2.2.2.2.1)
       (optF (none) (uint256_FromUint64 (((@I.quo .u64 x0.2.2.2.1.2.2.2.2.2.2.2.2.1 x0.2.2.2.1.2.2.2.2.2.2.2.2.2.1), ()), ())) fun y10 =>
       optF (none) (uint256_FromUint64 ((x0.1.1, ()), ())) fun y11 =>
       optF (none) (uint256_SaturatingAdd ((y10.1.1, (y11.1.1, ())), ())) fun y12 =>
       optF (none) (int256_DivFloor_k ((y9.1.1, (y12.1.1, ())), ())) fun y13 =>
       some ((y13.1.1, (y13.1.2.1, ())), ()))
       (none))))) fun j0 =>
 optF (none) (params_Valid_k ((d, ()), ())) fun y1 =>
 brn (bnot y1.1.1)
  (some ((Z_S_api_Int256, ((I.of .i64 15), ())), ()))
  (optF (none) (int256_Valid ((a, ()), ())) fun y2 =>
  brn (bnot y2.1.1)
   (some ((Z_S_api_Int256, ((I.of .i64 2), ())), ()))
   (optF (none) (int256_Valid ((b, ()), ())) fun y3 =>
   brn (bnot y3.1.1)
    (some ((Z_S_api_Int256, ((I.of .i64 2), ())), ()))
    (brn (@I.eqb .u64 c (I.of .u64 0))
     (some ((Z_S_api_Int256, ((I.of .i64 2), ())), ()))
     (j0 ((c, ()), (a, (b, (d, (Z_S_api_Int256, ())))))))))
theorem l1price_Delta_k_eq : l1price_Delta = l1price_Delta_k := by
  funext x
  unfold l1price_Delta l1price_Delta_k
  rw [params_Valid_k_eq, int256_DivFloor_k_eq, int256_Mul_k_eq]
  all_goals kernel_rfl
noncomputable def l1price_Next_k (x : (⟨[.pl u256, .pl Y_api_Int256, .pl Y_api_Int256, .pl (.int .u64), .pl Y_api_Params], []⟩ : Tm).D) : Option (⟨[.pl u256, .pl (.int .i64)], []⟩ : Tm).D :=
 let a : U := x.1.1
 let b : S_api_Int256 := x.1.2.1
 let c : S_api_Int256 := x.1.2.2.1
 let d : (I .u64) := x.1.2.2.2.1
 let e : S_api_Params := x.1.2.2.2.2.1
 jn (fun (x0 : (((I .u64) × Unit) × (U × (S_api_Int256 × (S_api_Int256 × (S_api_Params × (U × Unit))))))) =>
   optF (none) (l1price_Delta_k ((x0.2.2.1, (x0.2.2.2.1, (x0.1.1, (x0.2.2.2.2.1, ())))), ())) fun y1 =>
   brn (@I.neb .i64 y1.1.2.1 (I.of .i64 0))
    (some ((Z_U, (y1.1.2.1, ())), ()))
    (optF (none) (int256_AddClamped ((x0.2.1, (y1.1.1, ())), ())) fun y2 =>
    some ((y2.1.1, (y2.1.2.1, ())), ()))) fun j0 =>
 optF (none) (params_Valid_k ((e, ()), ())) fun y1 =>
 brn (bnot y1.1.1)
  (some ((Z_U, ((I.of .i64 15), ())), ()))
  (jn (fun (x2 : (((I .u64) × (Bool × Unit)) × (U × (S_api_Int256 × (S_api_Int256 × (S_api_Params × (U × Unit))))))) =>
    brn x2.1.2.1
     (some ((Z_U, ((I.of .i64 2), ())), ()))
     (brn (@I.eqb .u64 x2.1.1 (I.of .u64 0))
      (some ((x2.2.1, ((I.of .i64 0), ())), ()))
      (j0 ((x2.1.1, ()), (x2.2.1, (x2.2.2.1, (x2.2.2.2.1, (x2.2.2.2.2.1, (x2.2.2.2.2.2.1, ()))))))))) fun j2 =>
  optF (none) (int256_Valid ((b, ()), ())) fun y3 =>
  brn (bnot y3.1.1)
   (j2 ((d, (true, ())), (a, (b, (c, (e, (Z_U, ())))))))
   (optF (none) (int256_Valid ((c, ()), ())) fun y4 =>
   j2 ((d, ((bnot y4.1.1), ())), (a, (b, (c, (e, (Z_U, ()))))))))
theorem l1price_Next_k_eq : l1price_Next = l1price_Next_k := by
  funext x
  unfold l1price_Next l1price_Next_k
  rw [params_Valid_k_eq, l1price_Delta_k_eq]
  all_goals kernel_rfl
noncomputable def pricer_adjust_k (x : (⟨[.pl Y_api_Pricer, .pl Y_api_Params, .pl u256, .pl Y_pricer_Outcome], []⟩ : Tm).D) : Option (⟨[.pl Y_api_Pricer, .pl (.int .i64)], []⟩ : Tm).D :=
 let a : S_api_Pricer := x.1.1
 let b : S_api_Params := x.1.2.1
 let c : U := x.1.2.2.1
 let d : S_pricer_Outcome := x.1.2.2.2.1
 optF (none) (payout_Sum_k ((d.2.2.1, ()), ())) fun y0 =>
 brn (@I.neb .i64 y0.1.2.1 (I.of .i64 0))
  (some (((Z_U, ((I.of .u64 0), ((I.of .u64 0), ((I.of .u64 0), (Z_S_api_Int256, ([], ())))))), (y0.1.2.1, ())), ()))
  (optF (none) (poster_TotalDue_k ((a.2.2.2.2.2.1, ()), ())) fun y1 =>
  brn (@I.neb .i64 y1.1.2.1 (I.of .i64 0))
   (some (((Z_U, ((I.of .u64 0), ((I.of .u64 0), ((I.of .u64 0), (Z_S_api_Int256, ([], ())))))), (y1.1.2.1, ())), ()))
   (brn (@I.eqb .u64 d.1 (I.of .u64 0))
    (some ((a, ((I.of .i64 0), ())), ()))
    (optF (none) (uint256_SaturatingSub ((c, (y0.1.1, ())), ())) fun y2 =>
    optF (none) (l1price_Surplus ((y2.1.1, (y1.1.1, ())), ())) fun y3 =>
    optF (none) (l1price_Next_k ((a.1, (y3.1.1, (a.2.2.2.2.1, (d.1, (b, ()))))), ())) fun y4 =>
    brn (@I.neb .i64 y4.1.2.1 (I.of .i64 0))
     (some (((Z_U, ((I.of .u64 0), ((I.of .u64 0), ((I.of .u64 0), (Z_S_api_Int256, ([], ())))))), (y4.1.2.1, ())), ()))
     (some (((y4.1.1, (a.2.1, (a.2.2.1, (a.2.2.2.1, (y3.1.1, a.2.2.2.2.2))))), ((I.of .i64 0), ())), ())))))
theorem pricer_adjust_k_eq : pricer_adjust = pricer_adjust_k := by
  funext x
  unfold pricer_adjust pricer_adjust_k
  rw [payout_Sum_k_eq, poster_TotalDue_k_eq, l1price_Next_k_eq]
  all_goals kernel_rfl
noncomputable def pricer_Report_k (x : (⟨[.pl Y_api_Pricer, .pl Y_api_Params, .pl u256, .pl Y_api_Report, .pl (.int .u64)], []⟩ : Tm).D) : Option (⟨[.pl Y_api_Pricer, .pl Y_pricer_Outcome, .pl (.int .i64)], []⟩ : Tm).D :=
 let a : S_api_Pricer := x.1.1
 let b : S_api_Params := x.1.2.1
 let c : U := x.1.2.2.1
 let d : S_api_Report := x.1.2.2.2.1
 let e : (I .u64) := x.1.2.2.2.2.1
 optF (none) (pricer_checkReport_k ((a, (b, (d, (e, ())))), ())) fun y0 =>
 brn (@I.neb .i64 y0.1.1 (I.of .i64 0))
  (some (((Z_U, ((I.of .u64 0), ((I.of .u64 0), ((I.of .u64 0), (Z_S_api_Int256, ([], ())))))), (((I.of .u64 0), (Z_U, ([], ()))), (y0.1.1, ()))), ()))
  (optF (none) (pricer_allocate_k ((a, (b, (d, (e, ())))), ())) fun y1 =>
  jn (fun (x2 : (((I .i64) × Unit) × (S_api_Pricer × (S_api_Params × (U × (S_api_Report × (S_api_Pricer × (S_pricer_Outcome × (S_pricer_Outcome × Unit))))))))) =>
    jn (fun (x3 : (((I .i64) × Unit) × (S_api_Pricer × (S_api_Params × (U × (S_api_Report × (S_api_Pricer × (S_pricer_Outcome × (S_pricer_Outcome × Unit))))))))) =>
      jn (fun (x4 : (((I .i64) × Unit) × (S_api_Pricer × (S_api_Params × (U × (S_api_Report × (S_api_Pricer × (S_pricer_Outcome × (S_pricer_Outcome × Unit))))))))) =>
        jn (fun (x5 : (((I .i64) × Unit) × (S_api_Pricer × (S_api_Report × (S_api_Pricer × (S_pricer_Outcome × (S_pricer_Outcome × Unit))))))) =>
          brn (@I.neb .i64 x5.1.1 (I.of .i64 0))
           (some (((Z_U, ((I.of .u64 0), ((I.of .u64 0), ((I.of .u64 0), (Z_S_api_Int256, ([], ())))))), (((I.of .u64 0), (Z_U, ([], ()))), (x5.1.1, ()))), ()))
           (some (((x5.2.1.1, ((@I.sub .u64 x5.2.1.2.1 x5.2.2.2.2.2.1.1), (x5.2.2.1.2.1, x5.2.1.2.2.2))), (x5.2.2.2.2.2.1, ((I.of .i64 0), ()))), ()))) fun j5 =>
        brn (@I.eqb .i64 x4.1.1 (I.of .i64 0))
         (optF (none) (pricer_adjust_k ((x4.2.1, (x4.2.2.1, (x4.2.2.2.1, (x4.2.2.2.2.2.2.2.1, ())))), ())) fun y6 =>
         j5 ((y6.1.2.1, ()), (y6.1.1, (x4.2.2.2.2.1, (x4.2.2.2.2.2.1, (x4.2.2.2.2.2.2.1, (x4.2.2.2.2.2.2.2.1, ())))))))
         (j5 ((x4.1.1, ()), (x4.2.1, (x4.2.2.2.2.1, (x4.2.2.2.2.2.1, (x4.2.2.2.2.2.2.1, (x4.2.2.2.2.2.2.2.1, ())))))))) fun j4 =>
      brn (@I.eqb .i64 x3.1.1 (I.of .i64 0))
       (optF (none) (payout_Apply_k ((x3.2.1.2.2.2.2.2.1, (x3.2.2.2.2.2.2.2.1.2.2.1, ())), ())) fun y5 =>
       j4 ((y5.1.2.1, ()), ((x3.2.1.1, (x3.2.1.2.1, (x3.2.1.2.2.1, (x3.2.1.2.2.2.1, (x3.2.1.2.2.2.2.1, (y5.1.1, x3.2.1.2.2.2.2.2.2)))))), (x3.2.2.1, (x3.2.2.2.1, (x3.2.2.2.2.1, (x3.2.2.2.2.2.1, (x3.2.2.2.2.2.2.1, (x3.2.2.2.2.2.2.2.1, ())))))))))
       (j4 ((x3.1.1, ()), (x3.2.1, (x3.2.2.1, (x3.2.2.2.1, (x3.2.2.2.2.1, (x3.2.2.2.2.2.1, (x3.2.2.2.2.2.2.1, (x3.2.2.2.2.2.2.2.1, ())))))))))) fun j3 =>
    brn (@I.eqb .i64 x2.1.1 (I.of .i64 0))
     (optF (none) (payout_Plan_k ((x2.2.1.2.2.2.2.2.1, (x2.2.2.2.1, ())), ())) fun y4 =>
     j3 ((y4.1.2.1, ()), (x2.2.1, (x2.2.2.1, (x2.2.2.2.1, (x2.2.2.2.2.1, (x2.2.2.2.2.2.1, (x2.2.2.2.2.2.2.1, ((x2.2.2.2.2.2.2.2.1.1, (x2.2.2.2.2.2.2.2.1.2.1, (y4.1.1, x2.2.2.2.2.2.2.2.1.2.2.2))), ())))))))))
     (j3 ((x2.1.1, ()), (x2.2.1, (x2.2.2.1, (x2.2.2.2.1, (x2.2.2.2.2.1, (x2.2.2.2.2.2.1, (x2.2.2.2.2.2.2.1, (x2.2.2.2.2.2.2.2.1, ())))))))))) fun j2 =>
  brn (@I.eqb .i64 y1.1.2.1 (I.of .i64 0))
   (optF (none) (poster_Accrue_k ((a.2.2.2.2.2.1, (d.1, (d.2.2.1, (y1.1.1.2.1, ((@I.add .u64 a.2.2.2.1 (I.of .u64 1)), ()))))), ())) fun y3 =>
   j2 ((y3.1.2.1, ()), ((a.1, (a.2.1, (a.2.2.1, ((@I.add .u64 a.2.2.2.1 (I.of .u64 1)), (a.2.2.2.2.1, (y3.1.1, a.2.2.2.2.2.2)))))), (b, (c, (d, ((Z_U, ((I.of .u64 0), ((I.of .u64 0), ((I.of .u64 0), (Z_S_api_Int256, ([], ())))))), (((I.of .u64 0), (Z_U, ([], ()))), (y1.1.1, ())))))))))
   (j2 ((y1.1.2.1, ()), (a, (b, (c, (d, ((Z_U, ((I.of .u64 0), ((I.of .u64 0), ((I.of .u64 0), (Z_S_api_Int256, ([], ())))))), (((I.of .u64 0), (Z_U, ([], ()))), (y1.1.1, ()))))))))))
theorem pricer_Report_k_eq : pricer_Report = pricer_Report_k := by
  funext x
  unfold pricer_Report pricer_Report_k
  rw [pricer_checkReport_k_eq, pricer_allocate_k_eq, poster_Accrue_k_eq, payout_Plan_k_eq, payout_Apply_k_eq, pricer_adjust_k_eq]
  all_goals kernel_rfl
noncomputable def pontagelaw21_awake_k (x : (⟨[], []⟩ : Tm).D) : Option (⟨[.pl .bool], []⟩ : Tm).D :=
 optF (none) (pricer_Genesis ((), ())) fun y0 =>
 optF (none) (pricer_AddPoster_k ((y0.1.1, ((I.of .u64 7), ())), ())) fun y1 =>
 optF (none) (params_Genesis ((), ())) fun y2 =>
 optF (none) (pricer_Report_k ((y1.1.1, (y2.1.1, (((I.of .u64 20), ((I.of .u64 0), ((I.of .u64 0), ((I.of .u64 0), ())))), (((I.of .u64 7), ((I.of .u64 0), (((I.of .u64 50), ((I.of .u64 0), ((I.of .u64 0), ((I.of .u64 0), ())))), ()))), ((I.of .u64 0), ()))))), ())) fun y3 =>
 optF (none) (params_Genesis ((), ())) fun y4 =>
 optF (none) (pricer_Report_k ((y1.1.1, (y4.1.1, (((I.of .u64 20), ((I.of .u64 0), ((I.of .u64 0), ((I.of .u64 0), ())))), (((I.of .u64 8), Z_S_api_Payment), ((I.of .u64 0), ()))))), ())) fun y5 =>
 brn (@I.eqb .i64 y1.1.2.1 (I.of .i64 0))
  (brn (@I.eqb .i64 y3.1.2.2.1 (I.of .i64 0))
   (brn (@I.eqb .i64 y5.1.2.2.1 (I.of .i64 8))
    (brn (@I.eqb .i64 (I.ofNat .i64 (@lenL S_api_Payment y3.1.2.1.2.2.1)) (I.of .i64 1))
     (brn (@inB .i64 (I.of .i64 0) (@lenL S_api_Payment y3.1.2.1.2.2.1))
      (brn (Ty.eqb Y_api_Payment (@rdL S_api_Payment Z_S_api_Payment y3.1.2.1.2.2.1 0) ((I.of .u64 7), (((I.of .u64 20), ((I.of .u64 0), ((I.of .u64 0), ((I.of .u64 0), ())))), ())))
       (brn (@I.eqb .i64 (I.ofNat .i64 (@lenL S_api_Poster y3.1.1.2.2.2.2.2.1)) (I.of .i64 1))
        (brn (@inB .i64 (I.of .i64 0) (@lenL S_api_Poster y3.1.1.2.2.2.2.2.1))
         (some (((Ty.eqb u256 (@rdL S_api_Poster Z_S_api_Poster y3.1.1.2.2.2.2.2.1 0).2.1 ((I.of .u64 30), ((I.of .u64 0), ((I.of .u64 0), ((I.of .u64 0), ()))))), ()), ()))
         (none))
        (some ((false, ()), ())))
       (some ((false, ()), ())))
      (none))
     (some ((false, ()), ())))
    (some ((false, ()), ())))
   (some ((false, ()), ())))
  (some ((false, ()), ()))
theorem pontagelaw21_awake_k_eq : pontagelaw21_awake = pontagelaw21_awake_k := by
  funext x
  unfold pontagelaw21_awake pontagelaw21_awake_k
  rw [pricer_AddPoster_k_eq, pricer_Report_k_eq]
  all_goals kernel_rfl
theorem awake21 : pontagelaw21_awake ((), ()) = some ((true, ()), ()) := by
  rw [pontagelaw21_awake_k_eq]
  kernel_rfl
end Sym

/- Pricer: the calls that the laws make; a report exhausts the pool. -/
namespace Sym
open Go
abbrev CT : Type := S_pontagelaw21_Call
abbrev CT.units (e : CT) : I .u64 := e.2.2.1
abbrev CT.pool (e : CT) : U := e.2.2.2.1
abbrev CT.rep (e : CT) : RepT := e.2.2.2.2.1
abbrev CT.wait (e : CT) : I .u64 := e.2.2.2.2.2.1
noncomputable abbrev dC : CT := Z_S_pontagelaw21_Call
theorem rem_nat' (a b : I .u64) (hb : b.nat ≠ 0) : (I.rem a b).nat = a.nat % b.nat := by
  have := nat_val a
  have := nat_val b
  have h := rem_u64 (a := a) (b := b) (by omega)
  have := nat_val (I.rem a b)
  have e : a.val % b.val = ((a.nat % b.nat : Nat) : Int) := by rw [Int.natCast_emod]; congr 1 <;> omega
  omega
theorem add_nat' (a b : I .u64) (h : a.nat + b.nat < 18446744073709551616) : (I.add a b).nat = a.nat + b.nat := by
  have := nat_val a
  have := nat_val b
  have := add_u64 (a := a) (b := b) (by omega)
  have := nat_val (I.add a b)
  omega
theorem pnorm_ok (d : CT) (s : PrT) (now : I .u64) (h : s.last.nat ≤ now.nat) (h2 : now.nat < 1000000) :
    ∃ y, pontagelaw21_normalize ((d, (I.of .i64 0, (s, (now, ())))), ()) = some y ∧ ∃ e : CT, y = ((e, ()), ()) ∧ e.units.nat < 100000 ∧ 1 ≤ e.rep.1.nat ∧ e.rep.1.nat ≤ 5 ∧ s.last.nat ≤ e.rep.upto.nat ∧ e.rep.upto.nat ≤ now.nat + 1 ∧ e.rep.cost.val < BITS128 := by
  obtain ⟨m, hm, _⟩ := pontagelaw0_Mod_ok d.1 (I.of .i64 6) (by decide)
  refine Wp.out (T := fun o => ∃ y, o = some y ∧ ∃ e : CT, y = ((e, ()), ()) ∧ e.units.nat < 100000 ∧ 1 ≤ e.rep.1.nat ∧ e.rep.1.nat ≤ 5 ∧ s.last.nat ≤ e.rep.upto.nat ∧ e.rep.upto.nat ≤ now.nat + 1 ∧ e.rep.cost.val < BITS128) ?_
  unfold pontagelaw21_normalize
  have h1 : (I.of .u64 1).nat = 1 := rfl
  have h2' : (I.of .u64 2).nat = 2 := rfl
  have h5 : (I.of .u64 5).nat = 5 := rfl
  have h6 : (I.of .u64 100000).nat = 100000 := rfl
  have h0 : (I.of .u64 0).nat = 0 := rfl
  have hsub := sub_nat_le' now s.last h
  have hadd := add_nat' (I.sub now s.last) (I.of .u64 2) (by omega)
  have hr : ∀ x : I .u64, (I.rem x (I.add (I.sub now s.last) (I.of .u64 2))).nat < now.nat - s.last.nat + 2 := by
    intro x
    rw [rem_nat' _ _ (by omega), hadd, hsub, h2']
    exact Nat.mod_lt _ (by omega)
  have hu : (I.rem d.units (I.of .u64 100000)).nat < 100000 := by rw [rem_nat' _ _ (by decide), h6]; exact Nat.mod_lt _ (by decide)
  have hf : (I.add (I.of .u64 1) (I.rem d.rep.1 (I.of .u64 5))).nat = 1 + d.rep.1.nat % 5 := by
    have := rem_nat' d.rep.1 (I.of .u64 5) (by decide)
    rw [h5] at this
    rw [add_nat' _ _ (by omega), this, h1]
  have ht : (I.add s.last (I.rem d.rep.upto (I.add (I.sub now s.last) (I.of .u64 2)))).nat = s.last.nat + (I.rem d.rep.upto (I.add (I.sub now s.last) (I.of .u64 2))).nat := add_nat' _ _ (by have := hr d.rep.upto; omega)
  have ht2 := hr d.rep.upto
  refine Wp.optF hm (Wp.brnF rfl (Wp.brnT (iff_nz.2 (by have := nat_val (I.add (I.sub now s.last) (I.of .u64 2)); show (I.add (I.sub now s.last) (I.of .u64 2)).val ≠ 0; omega)) ?_))
  refine Wp.brn (fun _ => ?_) (fun _ => ?_)
  · refine ⟨_, rfl, _, rfl, hu, by show 1 ≤ (I.add _ _).nat; rw [hf]; omega, by show (I.add _ _).nat ≤ 5; rw [hf]; omega, by show _ ≤ (I.add s.last _).nat; rw [ht]; omega, by show (I.add s.last _).nat ≤ _; rw [ht]; omega, ?_⟩
    have hc : (I.rem d.rep.cost.1 (I.of .u64 100000)).nat < 100000 := by rw [rem_nat' _ _ (by decide), h6]; exact Nat.mod_lt _ (by decide)
    show (I.rem d.rep.cost.1 (I.of .u64 100000)).nat + 18446744073709551616 * ((I.of .u64 0).nat + 18446744073709551616 * ((I.of .u64 0).nat + 18446744073709551616 * (I.of .u64 0).nat)) < _
    rw [h0]
    have : BITS128 = 340282366920938463463374607431768211456 := rfl
    omega
  · refine ⟨_, rfl, _, rfl, hu, by show 1 ≤ (I.add _ _).nat; rw [hf]; omega, by show (I.add _ _).nat ≤ 5; rw [hf]; omega, by show _ ≤ (I.add s.last _).nat; rw [ht]; omega, by show (I.add s.last _).nat ≤ _; rw [ht]; omega, ?_⟩
    have l1 := nat_lt d.rep.cost.1
    have l2 := nat_lt d.rep.cost.2.1
    show d.rep.cost.1.nat + 18446744073709551616 * (d.rep.cost.2.1.nat + 18446744073709551616 * ((I.of .u64 0).nat + 18446744073709551616 * (I.of .u64 0).nat)) < 340282366920938463463374607431768211456
    omega
noncomputable def prJ (n : Nat) : PrT := ((I.of .u64 1000000000, (I.of .u64 0, (I.of .u64 0, (I.of .u64 0, ())))), (I.of .u64 0, (I.of .u64 0, (I.of .u64 0, (Z_S_api_Int256, ((List.range n).map fun k => newP (I.of .u64 ((k + 1 : Nat) : Int)), ()))))))
theorem addp1 : pricer_AddPoster ((prJ 0, (I.of .u64 1, ())), ()) = some ((prJ 1, (I.of .i64 0, ())), ()) := by rw [pricer_AddPoster_k_eq]; kernel_rfl
theorem addp2 : pricer_AddPoster ((prJ 1, (I.of .u64 2, ())), ()) = some ((prJ 2, (I.of .i64 0, ())), ()) := by rw [pricer_AddPoster_k_eq]; kernel_rfl
theorem addp3 : pricer_AddPoster ((prJ 2, (I.of .u64 3, ())), ()) = some ((prJ 3, (I.of .i64 0, ())), ()) := by rw [pricer_AddPoster_k_eq]; kernel_rfl
theorem addp4 : pricer_AddPoster ((prJ 3, (I.of .u64 4, ())), ()) = some ((prJ 4, (I.of .i64 0, ())), ()) := by rw [pricer_AddPoster_k_eq]; kernel_rfl
theorem addp5 : pricer_AddPoster ((prJ 4, (I.of .u64 5, ())), ()) = some ((prJ 5, (I.of .i64 0, ())), ()) := by rw [pricer_AddPoster_k_eq]; kernel_rfl
theorem gen_pr : pricer_Genesis ((), ()) = some ((prJ 0, ()), ()) := rfl
theorem addp {j : Nat} (h : j < 5) : pricer_AddPoster ((prJ j, (I.of .u64 ((j + 1 : Nat) : Int), ())), ()) = some ((prJ (j + 1), (I.of .i64 0, ())), ()) := by
  match j, h with
  | 0, _ => exact addp1
  | 1, _ => exact addp2
  | 2, _ => exact addp3
  | 3, _ => exact addp4
  | 4, _ => exact addp5
theorem addp_ltb {j : Nat} (h : j ≤ 5) : I.ltb (I.of .u64 ((j + 1 : Nat) : Int)) (I.of .u64 6) = decide (j < 5) ∧ I.add (I.of .u64 ((j + 1 : Nat) : Int)) (I.of .u64 1) = I.of .u64 ((j + 1 + 1 : Nat) : Int) ∧ (I.of .u64 ((j + 1 : Nat) : Int)).nat = j + 1 := by
  match j, h with
  | 0, _ => exact ⟨rfl, rfl, rfl⟩
  | 1, _ => exact ⟨rfl, rfl, rfl⟩
  | 2, _ => exact ⟨rfl, rfl, rfl⟩
  | 3, _ => exact ⟨rfl, rfl, rfl⟩
  | 4, _ => exact ⟨rfl, rfl, rfl⟩
  | 5, _ => exact ⟨rfl, rfl, rfl⟩
theorem prJ5_valid : prV (prJ 5) = true := by
  have h := PrValid_eq (prJ 5) (by decide)
  have h2 : pricer_Valid ((prJ 5, ()), ()) = some ((true, ()), ()) := by rw [pricer_Valid_k_eq]; kernel_rfl
  rw [h2] at h
  exact congrArg (fun o : Option ((Bool × Unit) × Unit) => match o with | some y => y.1.1 | none => true) h.symm
theorem clock {now : I .u64} {i : Nat} (h : now.nat ≤ 50 * i) (hi : i ≤ 40) (w : I .u64) : (I.add now (I.rem w (I.of .u64 50))).nat ≤ 50 * (i + 1) ∧ now.nat ≤ (I.add now (I.rem w (I.of .u64 50))).nat := by
  have hw : (I.rem w (I.of .u64 50)).nat < 50 := by
    rw [rem_nat' _ _ (by decide), show (I.of .u64 50).nat = 50 from rfl]; exact Nat.mod_lt _ (by decide)
  rw [add_nat' _ _ (by omega)]
  omega
end Sym

/- Pricer: no unit is lost; the order of errors. -/
namespace Sym
open Go
theorem checkS_14 {s : PrT} {p : Prm} {r : RepT} {now : I .u64} (h1 : prV s = true) (h2 : validP p = true) (h3 : atN s.posters r.from' < s.posters.length) (h4 : ¬ (s.last.nat ≤ r.upto.nat ∧ r.upto.nat ≤ now.nat)) : checkS s p r now = I.of .i64 14 := by
  unfold checkS
  rw [if_pos h1, if_pos h2, if_pos h3, if_neg h4]
end Sym

/- Pricer: when a report is accepted. -/
namespace Sym
open Go
theorem applyS_no4 : ∀ (ps : List Pay) (l : List Post), (∀ q ∈ l, (Post.due q).val + (Post.paid q).val < U.top) → (applyS l ps).2 ≠ I.of .i64 4
  | [], l, h => fun e => absurd (congrArg I.val e) (show ¬ (I.of .i64 0).val = (I.of .i64 4).val by decide)
  | y :: ps, l, h => by
    have hne : ∀ a b : I .i64, a.val ≠ b.val → a ≠ b := fun a b h e => h (congrArg I.val e)
    simp only [applyS]
    split
    · rename_i h0
      refine applyS_no4 ps _ ?_
      intro q hq
      unfold settleS at hq
      split at hq
      · split at hq
        · split at hq
          · split at hq
            · rename_i hk h1 h2
              obtain ⟨i, hi, rfl⟩ := mem_rdL dP hq
              have hi : i < (setAt l (atN l y.1) (settled (rdL dP l (atN l y.1)) y.2.1)).length := hi
              rw [setAt_eq, List.length_set] at hi
              rw [rdL_set]
              split
              · have hp := h _ (rdL_mem dP l _ hk)
                show (U.of ((Post.due (rdL dP l (atN l y.1))).val - y.2.1.val)).val + (U.of ((Post.paid (rdL dP l (atN l y.1))).val + y.2.1.val)).val < _
                rw [U.val_of h2, U.val_of (by have := U.lt (Post.due (rdL dP l (atN l y.1))); omega)]
                omega
              · exact h _ (rdL_mem dP l i hi)
            · cases hq
          · cases hq
        · cases hq
      · cases hq
    · unfold settleS
      split
      · split
        · split
          · split
            · exact hne (I.of .i64 0) (I.of .i64 4) (by decide)
            · rename_i hk h1 h2
              have hp := h _ (rdL_mem dP l _ hk)
              exact absurd (by omega) h2
          · exact hne _ _ (by decide)
        · exact hne _ _ (by decide)
      · exact hne _ _ (by decide)
def M107 : Nat := 2 ^ 107
def M131 : Nat := 2 ^ 131
theorem par_pos {p : Prm} (h : validP p = true) : p.rpu.val ≤ 18446744073709551615 := by
  have := validP_iff p |>.1 h 8 (by omega) (by omega)
  unfold okK at this
  have := (of_decide_eq_true this).2
  exact this
theorem next_ok {c : U} {a b : S} {u : I .u64} {p : Prm} (hp : validP p = true) (ha : validB a = true) (hb : validB b = true) (hu : u.nat ≠ 0) (hu2 : u.nat ≤ 4194304)
    (h1 : a.int.natAbs ≤ M107) (h2 : b.int.natAbs ≤ M107) (hc : c.val + M131 < U.top) : (nextS c a b u p).2 = I.of .i64 0 ∧ (nextS c a b u p).1.val ≤ c.val + M131 := by
  have hT : 3 * M131 < U.top := by decide
  have hM : 3 * M107 * 4194304 < M131 := by decide
  generalize hn : a.int = n at h1
  generalize ho : b.int = o at h2
  have d1 : (n - o).natAbs ≤ 2 * M107 := by omega
  have d2 := Int.natAbs_ediv_le_natAbs (-n) ((Prm.eq p).nat : Int)
  rw [Int.natAbs_neg] at d2
  have d3 := Int.natAbs_ediv_le_natAbs (n - o) (u.nat : Int)
  have d4 : (-n / ((Prm.eq p).nat : Int) - (n - o) / (u.nat : Int)).natAbs ≤ 3 * M107 := by omega
  have d5 : ((-n / ((Prm.eq p).nat : Int) - (n - o) / (u.nat : Int)) * (u.nat : Int)).natAbs ≤ 3 * M107 * 4194304 := by
    rw [Int.natAbs_mul, Int.natAbs_natCast]
    exact Nat.mul_le_mul d4 hu2
  have d6 := Int.natAbs_ediv_le_natAbs ((-n / ((Prm.eq p).nat : Int) - (n - o) / (u.nat : Int)) * (u.nat : Int)) ((((Prm.eq p).nat / (Prm.inertia p).nat + u.nat : Nat)) : Int)
  have hd : deltaZ n o u.nat (Prm.eq p).nat (Prm.inertia p).nat = (S.of ((-n / ((Prm.eq p).nat : Int) - (n - o) / (u.nat : Int)) * (u.nat : Int) / (((Prm.eq p).nat / (Prm.inertia p).nat + u.nat : Nat) : Int)), I.of .i64 0) := by
    unfold deltaZ
    rw [if_pos (by omega), if_pos (by omega), if_pos (by omega)]
  generalize (-n / ((Prm.eq p).nat : Int) - (n - o) / (u.nat : Int)) * (u.nat : Int) / (((Prm.eq p).nat / (Prm.inertia p).nat + u.nat : Nat) : Int) = z at d6 hd
  have hz : z.natAbs ≤ M131 := by omega
  have hzt : z.natAbs < U.top := by omega
  unfold nextS
  rw [if_pos hp, if_pos ha, if_pos hb, if_neg hu, deltaS_t hp ha hb hu, hn, ho, hd, if_neg (by rw [show I.neb (I.of .i64 0) (I.of .i64 0) = false from rfl]; simp), clamp_of c hzt]
  split
  · exact ⟨rfl, by show (U.of 0).val ≤ _; rw [show (U.of 0).val = 0 from rfl]; omega⟩
  · have hlt : ((c.val : Int) + z).toNat < U.top := by omega
    rw [errS_lt hlt]
    refine ⟨rfl, ?_⟩
    show (U.of _).val ≤ _
    rw [U.val_of hlt]
    omega
theorem rep_succ {s : PrT} {p : Prm} {pool : U} {r : RepT} {now : I .u64} (h : Chk s p r now) (hw : p.rpu.val * repN s r now < U.top)
    (hf : accFits (rdL dP s.posters (atN s.posters r.from')) r.cost (U.of (p.rpu.val * repN s r now)))
    (hq : ∀ q ∈ repL1 s p r now, (Post.due q).val + (Post.paid q).val < U.top) (hs : sumN ((repL1 s p r now).map dueN) ≤ M107 / 2) (hpo : pool.val ≤ M107 / 2)
    (hu : s.units.nat ≤ 4194304) (hsur : s.surplus.int.natAbs ≤ M107) (hpr : s.price.val + M131 < U.top) : (reportS s p pool r now).2.2.val = 0 := by
  have hcnt := rep_count h
  have ⟨hn1, hn2⟩ := rep_zero_lt h
  have hMt : M107 < U.top := by decide
  have hM2 : M107 / 2 + M107 / 2 = M107 := by decide
  have hA := accrueS_ok (c := r.cost) (w := U.of (p.rpu.val * repN s r now)) (since := I.add s.reports (I.of .u64 1)) h.tab h.fnd (by rw [hcnt]; omega)
  have ht : repTab s p r now = (repL1 s p r now, I.of .i64 0) := by
    unfold repTab accrueS
    rw [if_pos hf]
    rfl
  have hT : TableOk (repL1 s p r now) := by
    rcases hA with ⟨hA, _⟩ | ⟨_, _, hl1, hT⟩
    · have : (repTab s p r now).2 = I.of .i64 4 := hA
      rw [ht] at this
      exact absurd (congrArg I.val this) (show ¬ (I.of .i64 0).val = (I.of .i64 4).val by decide)
    · rw [hl1] at hT; exact hT
  have hap : (applyS (repL1 s p r now) (repPay (repL1 s p r now) pool)).2.val = 0 := by
    rcases rep_apply hT pool with e | e
    · exact absurd e (applyS_no4 _ _ hq)
    · rw [e.1]; rfl
  have hdue : sumN ((applyS (repL1 s p r now) (repPay (repL1 s p r now) pool)).1.map dueN) ≤ M107 / 2 := by
    rcases rep_apply hT pool with e | e
    · exact absurd e (applyS_no4 _ _ hq)
    · have := e.2.2.2.2; omega
  unfold reportS
  rw [if_pos (check_of h), if_pos hw, ht, if_pos (show (I.of .i64 0).val = 0 from rfl)]
  simp only []
  rw [if_pos hap]
  have : (adjustS (repMid s (applyS (repL1 s p r now) (repPay (repL1 s p r now) pool)).1) p pool (repOut s p r now (repPay (repL1 s p r now) pool))).2.val = 0 := by
    unfold adjustS
    have e1 : (repMid s (applyS (repL1 s p r now) (repPay (repL1 s p r now) pool)).1).posters = (applyS (repL1 s p r now) (repPay (repL1 s p r now) pool)).1 := rfl
    rw [e1, if_pos (by omega)]
    have e2 : (repOut s p r now (repPay (repL1 s p r now) pool)).1.nat = repN s r now := hn2
    rw [e2]
    split
    · rfl
    · rename_i hz
      have hsz : ((((pool.val - sumN ((repPay (repL1 s p r now) pool).map amt) : Nat) : Int) - (sumN ((applyS (repL1 s p r now) (repPay (repL1 s p r now) pool)).1.map dueN) : Int))).natAbs ≤ M107 := by omega
      have hN := (next_ok (c := s.price) (a := surpS pool (applyS (repL1 s p r now) (repPay (repL1 s p r now) pool)).1 (repPay (repL1 s p r now) pool)) (b := s.surplus) (u := I.of .u64 (repN s r now : Int)) h.par (S.of_valid (by omega)) h.sur (by rw [hn2]; exact hz) (by rw [hn2]; omega) (by unfold surpS; rw [S.int_of (by omega)]; exact hsz) hsur hpr).1
      rw [if_neg (by
        have : I.neb (nextS s.price (surpS pool (applyS (repL1 s p r now) (repPay (repL1 s p r now) pool)).1 (repPay (repL1 s p r now) pool)) s.surplus (I.of .u64 (repN s r now : Int)) p).2 (I.of .i64 0) = false := by rw [hN]; rfl
        exact fun e => absurd (this.symm.trans e) (by simp))]
      rfl
  rw [if_pos this]
  rfl
end Sym

/- Pricer: the accounts of reports. -/
namespace Sym
open Go
def M101 : Nat := 2 ^ 101
structure AInv (i : Nat) (s : PrT) (now : I .u64) : Prop where
  v : prV s = true
  t : s.last.nat ≤ now.nat
  rp : s.reports.nat ≤ i
  len : s.posters.length = 5
  ad : ∀ k, k < 5 → (Post.addr (rdL dP s.posters k)).nat = k + 1
  due : sumN (s.posters.map dueN) ≤ i * M101
  cst : ∀ q ∈ s.posters, (Post.costs q).val ≤ i * M101 ∧ (Post.rewards q).val ≤ i * M101
  sur : s.surplus.int.natAbs ≤ M107
  pr : s.price.val ≤ 1073741824 + i * M131
theorem ainv0 : AInv 0 (prJ 5) (I.of .u64 0) := by
  refine ⟨prJ5_valid, by decide, by decide, by decide, ?_, ?_, ?_, by show ((0 : Nat) : Int).natAbs ≤ _; decide, ?_⟩
  · intro k hk
    match k, hk with
    | 0, _ => rfl
    | 1, _ => rfl
    | 2, _ => rfl
    | 3, _ => rfl
    | 4, _ => rfl
  · show (Z_U : U).val + ((Z_U : U).val + ((Z_U : U).val + ((Z_U : U).val + ((Z_U : U).val + 0)))) ≤ _
    decide
  · intro q hq
    obtain ⟨k, hk, rfl⟩ := mem_rdL dP hq
    have hk : k < 5 := hk
    match k, hk with
    | 0, _ => exact ⟨Nat.zero_le _, Nat.zero_le _⟩
    | 1, _ => exact ⟨Nat.zero_le _, Nat.zero_le _⟩
    | 2, _ => exact ⟨Nat.zero_le _, Nat.zero_le _⟩
    | 3, _ => exact ⟨Nat.zero_le _, Nat.zero_le _⟩
    | 4, _ => exact ⟨Nat.zero_le _, Nat.zero_le _⟩
  · show (I.of .u64 1000000000).nat + 18446744073709551616 * _ ≤ _
    decide
theorem ainv_up {i : Nat} {s s2 : PrT} {now now' : I .u64} (h : AInv i s now) (hn : now.nat ≤ now'.nat) (e1 : s2.1 = s.1) (e2 : s2.2.2 = s.2.2) : AInv (i + 1) s2 now' := by
  obtain ⟨a1, a2, a3, a4, a5⟩ := s
  obtain ⟨b1, b2, b3⟩ := s2
  have e1 : b1 = a1 := e1
  have e2 : b3 = (a3, a4, a5) := e2
  subst e1 e2
  have h101 : (i + 1) * M101 = i * M101 + M101 := Nat.succ_mul _ _
  have h131 : (i + 1) * M131 = i * M131 + M131 := Nat.succ_mul _ _
  exact ⟨h.v, Nat.le_trans h.t hn, Nat.le_succ_of_le h.rp, h.len, h.ad, Nat.le_trans h.due (by omega), fun q hq => ⟨Nat.le_trans (h.cst q hq).1 (by omega), Nat.le_trans (h.cst q hq).2 (by omega)⟩, h.sur, Nat.le_trans h.pr (by omega)⟩
theorem acc_step {i : Nat} {s : PrT} {p : Prm} {pool : U} {r : RepT} {now now' : I .u64} (h : AInv i s now) (hi : i < 30) (hp : validP p = true) (hn : now.nat ≤ now'.nat) (hu : s.units.nat ≤ 100000 * (i + 1))
    (f1 : 1 ≤ r.1.nat) (f2 : r.1.nat ≤ 5) (hc : r.cost.val ≤ 2 ^ 100) (hpo : pool.val ≤ 2 ^ 100) :
    (reportS s p pool r now').2.2 = I.of .i64 14 ∨ ((reportS s p pool r now').2.2.val = 0 ∧ AInv (i + 1) (reportS s p pool r now').1 now' ∧ (reportS s p pool r now').1.units.nat ≤ s.units.nat) := by
  have hV := prV_t.1 h.v
  have hlen := h.len
  have hf : atN s.posters r.from' < s.posters.length := by
    refine Classical.byContradiction fun hh => ?_
    have := atN_spec hh (r.1.nat - 1) (by omega)
    have h2 := h.ad (r.1.nat - 1) (by omega)
    have e1 := nat_val (Post.addr (rdL dP s.posters (r.1.nat - 1)))
    have e2 := nat_val r.1
    exact this (by show _ = r.1.val; omega)
  have hB : (2 : Nat) ^ 100 < BITS128 := by decide
  by_cases ht : s.last.nat ≤ r.upto.nat ∧ r.upto.nat ≤ now'.nat
  case neg =>
    left
    have : checkS s p r now' = I.of .i64 14 := checkS_14 h.v hp hf ht
    unfold reportS
    rw [this, if_neg (show ¬ (I.of .i64 14).val = 0 by decide)]
  right
  have hC : Chk s p r now' := ⟨hV.1, hV.2.1, hV.2.2, hp, hf, ht.1, ht.2, by omega, by have := h.rp; omega⟩
  have ⟨n1, n2⟩ := rep_zero_lt hC
  have hr := par_pos hp
  have h101 : (i + 1) * M101 = i * M101 + M101 := Nat.succ_mul _ _
  have h131 : (i + 1) * M131 = i * M131 + M131 := Nat.succ_mul _ _
  have hW : p.rpu.val * repN s r now' ≤ 2 ^ 100 := Nat.le_trans (Nat.mul_le_mul hr (show repN s r now' ≤ 4194304 by omega)) (by decide)
  have hMT : 64 * M101 < U.top := by decide
  have hM : (2 : Nat) ^ 100 + 2 ^ 100 = M101 := by decide
  have hM7 : 31 * M101 ≤ M107 / 2 := by decide
  have hi1 : (i + 1) * M101 ≤ 31 * M101 := Nat.mul_le_mul_right _ (by omega)
  have hi2 : (i + 1) * M131 ≤ 31 * M131 := Nat.mul_le_mul_right _ (by omega)
  have hPT : 1073741824 + 40 * M131 < U.top := by decide
  have hWv : (U.of (p.rpu.val * repN s r now')).val = p.rpu.val * repN s r now' := U.val_of (by omega)
  obtain ⟨k, hk⟩ : ∃ k, k = atN s.posters r.from' := ⟨_, rfl⟩
  obtain ⟨q0, hq0⟩ : ∃ q0, q0 = rdL dP s.posters k := ⟨_, rfl⟩
  rw [← hk] at hf
  have hq0m : q0 ∈ s.posters := by rw [hq0]; exact rdL_mem dP _ _ hf
  have hd0 : (Post.due q0).val ≤ i * M101 := by
    have := sumN_take dP dueN hf
    have h2 := sumN_le dueN s.posters (k + 1)
    rw [this, ← hq0] at h2
    have hx : dueN q0 = (Post.due q0).val := rfl
    have := h.due
    omega
  have ⟨hc0, hr0⟩ := h.cst q0 hq0m
  have hfit : accFits (rdL dP s.posters (atN s.posters r.from')) r.cost (U.of (p.rpu.val * repN s r now')) := by
    rw [← hk, ← hq0]
    exact ⟨by rw [hWv]; omega, by omega, by rw [hWv]; omega⟩
  obtain ⟨v, hv⟩ : ∃ v, v = accrued q0 r.cost (U.of (p.rpu.val * repN s r now')) (I.add s.reports (I.of .u64 1)) := ⟨_, rfl⟩
  have hl1 : repL1 s p r now' = setAt s.posters k v := by unfold repL1; rw [← hk, ← hq0, ← hv]
  have hcnt := rep_count hC
  have hT1 : TableOk (repL1 s p r now') := by
    rcases accrueS_ok (c := r.cost) (w := U.of (p.rpu.val * repN s r now')) (since := I.add s.reports (I.of .u64 1)) hC.tab hC.fnd (by rw [hcnt]; omega) with ⟨hA, _⟩ | ⟨_, _, e, hT⟩
    · unfold accrueS at hA
      rw [if_pos hfit] at hA
      exact absurd (congrArg I.val hA) (show ¬ (I.of .i64 0).val = (I.of .i64 4).val by decide)
    · rw [e] at hT; exact hT
  have hvd : dueN v = (Post.due q0).val + (r.cost.val + p.rpu.val * repN s r now') := by
    rw [hv]
    show (U.of ((Post.due q0).val + (r.cost.val + (U.of (p.rpu.val * repN s r now')).val))).val = _
    rw [hWv, U.val_of (by omega)]
  have hvc : (Post.costs v).val = (Post.costs q0).val + r.cost.val := by rw [hv]; exact U.val_of (by omega)
  have hvr : (Post.rewards v).val = (Post.rewards q0).val + p.rpu.val * repN s r now' := by
    rw [hv]
    show (U.of ((Post.rewards q0).val + (U.of (p.rpu.val * repN s r now')).val)).val = _
    rw [hWv, U.val_of (by omega)]
  have hsum := sum_set s.posters k v hf
  rw [← hl1, ← hq0] at hsum
  have hq0d : dueN q0 = (Post.due q0).val := rfl
  have hs1 : sumN ((repL1 s p r now').map dueN) ≤ (i + 1) * M101 := by have := h.due; omega
  have hlen1 : (repL1 s p r now').length = 5 := by rw [hl1, setAt_eq, List.length_set]; exact hlen
  have hcst1 : ∀ q ∈ repL1 s p r now', (Post.costs q).val ≤ (i + 1) * M101 ∧ (Post.rewards q).val ≤ (i + 1) * M101 := by
    intro q hq
    obtain ⟨j, hj, rfl⟩ := mem_rdL dP hq
    rw [hlen1] at hj
    rw [hl1, rdL_set]
    split
    · rw [hvc, hvr]; omega
    · have := h.cst _ (rdL_mem dP s.posters j (by rw [hlen]; exact hj)); omega
  have hqs : ∀ q ∈ repL1 s p r now', (Post.due q).val + (Post.paid q).val < U.top := by
    intro q hq
    have h1 := ((table_iff.1 hT1).2.1 q hq).2.1
    have h2 := hcst1 q hq
    omega
  have h0 := rep_succ (pool := pool) hC (by omega) hfit hqs (by omega) (by have : (2 : Nat) ^ 100 ≤ M107 / 2 := by decide
                                                                           omega) (by omega) h.sur (by have := h.pr; omega)
  refine ⟨h0, ?_⟩
  have hR := rep_ok h0
  generalize (reportS s p pool r now').1 = x at hR ⊢
  generalize (reportS s p pool r now').2.1 = t at hR
  have hxd : sumN (x.posters.map dueN) ≤ (i + 1) * M101 := by have := hR.due; omega
  have h100 : (2 : Nat) ^ 100 ≤ M107 / 2 := by decide
  have hM77 : M107 / 2 + M107 / 2 = M107 := by decide
  have hM7t : M107 < U.top := by decide
  have hsz : ((((pool.val - sumN ((repPay (repL1 s p r now') pool).map amt) : Nat) : Int) - (sumN (x.posters.map dueN) : Int))).natAbs ≤ M107 := by omega
  refine ⟨⟨rep_valid hR, by rw [hR.last]; exact hC.hi, ?_, hR.len.trans hlen, fun j hj => by rw [hR.addr]; exact h.ad j hj, hxd, ?_, ?_, ?_⟩, by rw [hR.units, sub_nat_le' _ _ (by rw [n2]; exact n1)]; omega⟩
  · rw [hR.reports, hcnt]; have := h.rp; omega
  · intro q hq
    obtain ⟨j, hj, rfl⟩ := mem_rdL dP hq
    have hj5 : j < 5 := by rw [hR.len, hlen] at hj; exact hj
    have hat := applyS_at (R := fun a b => Post.costs a = Post.costs b ∧ Post.rewards a = Post.rewards b) (fun _ => ⟨rfl, rfl⟩) (fun _ _ _ a b => ⟨a.1.trans b.1, a.2.trans b.2⟩) (fun _ _ => ⟨rfl, rfl⟩) _ _ hR.ap j
    rw [← hR.posters] at hat
    rw [hat.1, hat.2]
    exact hcst1 _ (rdL_mem dP _ j (by rw [hlen1]; exact hj5))
  · rw [hR.surplus]
    split
    · exact h.sur
    · unfold surpS
      rw [S.int_of (by omega)]
      exact hsz
  · rw [hR.price]
    split
    · have := h.pr; omega
    · rename_i hz
      have hN := (next_ok (c := s.price) (a := surpS pool x.posters (repPay (repL1 s p r now') pool)) (b := s.surplus) (u := I.of .u64 (repN s r now' : Int)) hp (S.of_valid (by omega)) hV.2.2 (by rw [n2]; exact hz) (by rw [n2]; omega) (by unfold surpS; rw [S.int_of (by omega)]; exact hsz) h.sur (by have := h.pr; omega)).2
      have := h.pr
      omega
end Sym

/- Pricer: a report's accounts, the law. -/
namespace Sym
open Go
theorem eqb_uu (a : U) : bnot (Ty.eqb (.arr 4 (.int .u64)) a a) = false := by rw [eqb_self]; rfl
theorem atN_same {l m : List Post} (hlen : l.length = m.length) (h : ∀ i, Post.addr (rdL dP l i) = Post.addr (rdL dP m i)) (a : I .u64) : atN l a = atN m a := by
  by_cases hf : atN m a < m.length
  · refine atN_of (by omega) ?_ ?_
    · rw [h, atN_at hf]; exact iff_eqb.2 rfl
    · intro k hk
      have := List.not_of_lt_findIdx (p := fun p : Post => I.eqb (Post.addr p) a) (xs := m) hk
      rw [h, rdL_eq dP m k (by omega)]
      simpa using this
  · have h1 : atN m a ≤ m.length := List.findIdx_le_length
    rw [show atN m a = m.length by omega, ← hlen]
    refine atN_none fun k hk => niff_eqb.2 ?_
    rw [h]
    exact atN_spec hf k (by omega)
theorem SatAdd_lt {a b : U} (h : a.val + b.val < U.top) : uint256_SaturatingAdd ((a, (b, ())), ()) = some ((U.of (a.val + b.val), ()), ()) := by
  rw [SatAdd_eq a b, Nat.min_eq_left (by omega)]
theorem SatMul_of (a b : U) (h : a.val * b.val < U.top) : uint256_SaturatingMul ((a, b, ()), ()) = some ((U.of (a.val * b.val), ()), ()) := by
  refine Wp.out (T := fun o => o = some ((U.of (a.val * b.val), ()), ())) ?_
  unfold uint256_SaturatingMul
  refine Wp.optF (Mul_ok a b) ?_
  rw [errS_lt h]
  exact Wp.brnT rfl rfl
structure AccOut (s2 : PrT) (p : Prm) (pool : U) (r : RepT) (x : PrT) (t : OutT) (k : Nat) (tot : U) : Prop where
  pl : t.2.2.1.length ≤ 1073741824
  ps : sumN (t.2.2.1.map amt) < U.top
  a1 : uint256_SaturatingAdd ((U.of (sumN (s2.posters.map dueN)), (r.cost, ())), ()) = some ((U.of (sumN (s2.posters.map dueN) + r.cost.val), ()), ())
  a2 : uint256_SaturatingAdd ((U.of (sumN (s2.posters.map dueN) + r.cost.val), (t.2.1, ())), ()) = some ((tot, ()), ())
  a3 : uint256_SaturatingAdd ((U.of (sumN (x.posters.map dueN)), (U.of (sumN (t.2.2.1.map amt)), ())), ()) = some ((tot, ()), ())
  m : uint256_SaturatingMul ((p.rpu, ((t.1, (I.of .u64 0, (I.of .u64 0, (I.of .u64 0, ())))), ())), ()) = some ((t.2.1, ()), ())
  fnd : poster_Find ((x.posters, (r.from', ())), ()) = some ((i6 k, ()), ())
  k1 : k < s2.posters.length
  k2 : k < x.posters.length
  k3 : k < 64
  un : x.units.val = (I.sub s2.units t.1).val
  la : x.last.val = r.upto.val
  rp : x.reports.val = (I.add s2.reports (I.of .u64 1)).val
  b3 : uint256_SaturatingAdd ((Post.costs (rdL dP s2.posters k), (r.cost, ())), ()) = some ((Post.costs (rdL dP x.posters k), ()), ())
  b4 : uint256_SaturatingAdd ((Post.rewards (rdL dP s2.posters k), (t.2.1, ())), ()) = some ((Post.rewards (rdL dP x.posters k), ()), ())
theorem acc_out {i : Nat} {s2 : PrT} {p : Prm} {pool : U} {r : RepT} {now now' : I .u64} {x : PrT} {t : OutT} (hI : AInv i s2 now) (hi : i < 30) (hR : RepOk s2 p pool r now' x t) (hcv : r.cost.val ≤ 2 ^ 100) (hu : s2.units.nat ≤ 4194304) :
    ∃ k tot, AccOut s2 p pool r x t k tot := by
  have hC := hR.chk
  have ⟨n1, n2⟩ := rep_zero_lt hC
  have ht : t = repOut s2 p r now' (repPay (repL1 s2 p r now') pool) := hR.out
  have htp : t.2.2.1 = repPay (repL1 s2 p r now') pool := by rw [ht]; rfl
  have htl : t.2.2.1.length ≤ 64 := by rw [htp]; exact Nat.le_trans (repPay_len _ _) hR.tab1.1
  have hsum := repPay_sum (repL1 s2 p r now') pool
  rw [← htp] at hsum
  have hdue := hR.due
  rw [← htp] at hdue
  have hpl2 := pool.lt
  have hB1 : 64 * M101 < U.top := by decide
  have hiM0 : i * M101 ≤ 31 * M101 := Nat.mul_le_mul_right _ (by omega)
  have hdue2 := hI.due
  have hT2 := hC.tab
  obtain ⟨k, hk⟩ : ∃ k, k = atN s2.posters r.from' := ⟨_, rfl⟩
  have hf := hC.fnd
  rw [← hk] at hf
  have hfit := hR.fits
  rw [← hk] at hfit
  obtain ⟨q0, hq0⟩ : ∃ q0, q0 = rdL dP s2.posters k := ⟨_, rfl⟩
  rw [← hq0] at hfit
  have hw := hR.w
  obtain ⟨W, hWd⟩ : ∃ W, W = p.rpu.val * repN s2 r now' := ⟨_, rfl⟩
  have hrpu := par_pos hC.par
  have hW : W ≤ 2 ^ 100 := by rw [hWd]; exact Nat.le_trans (Nat.mul_le_mul hrpu (show repN s2 r now' ≤ 4194304 by omega)) (by decide)
  have htw : t.2.1 = U.of W := by rw [ht, hWd]; rfl
  have htn : t.1 = I.of .u64 (repN s2 r now' : Int) := by rw [ht]; rfl
  have hl1 : repL1 s2 p r now' = setAt s2.posters k (accrued q0 r.cost (U.of W) (I.add s2.reports (I.of .u64 1))) := by unfold repL1; rw [← hk, ← hq0, ← hWd]
  rw [← hWd] at hw hfit
  have hWv : (U.of W).val = W := U.val_of hw
  obtain ⟨f3, f4, f5⟩ := hfit
  rw [hWv] at f3 f5
  have hss := sum_set s2.posters k (accrued q0 r.cost (U.of W) (I.add s2.reports (I.of .u64 1))) hf
  rw [← hl1, ← hq0] at hss
  have hvd : dueN (accrued q0 r.cost (U.of W) (I.add s2.reports (I.of .u64 1))) = (Post.due q0).val + (r.cost.val + W) := by
    show (U.of ((Post.due q0).val + (r.cost.val + (U.of W).val))).val = _
    rw [hWv, U.val_of (by omega)]
  rw [hvd] at hss
  have hq0d : dueN q0 = (Post.due q0).val := rfl
  have h100 : (2 : Nat) ^ 100 + 2 ^ 100 = M101 := by decide
  have hx := hR.total
  obtain ⟨A, hA⟩ : ∃ A, A = sumN (s2.posters.map dueN) := ⟨_, rfl⟩
  obtain ⟨B, hB⟩ : ∃ B, B = sumN (x.posters.map dueN) := ⟨_, rfl⟩
  obtain ⟨C, hCc⟩ : ∃ C, C = sumN (t.2.2.1.map amt) := ⟨_, rfl⟩
  rw [← hA] at hss hdue2
  rw [← hB] at hx hdue
  rw [← hCc] at hsum hdue
  have hm1 : (U.of A).val = A := U.val_of (by omega)
  have hm2 : (U.of (A + r.cost.val)).val = A + r.cost.val := U.val_of (by omega)
  have hat := applyS_at (R := fun a b => Post.costs a = Post.costs b ∧ Post.rewards a = Post.rewards b) (fun _ => ⟨rfl, rfl⟩) (fun _ _ _ a b => ⟨a.1.trans b.1, a.2.trans b.2⟩) (fun _ _ => ⟨rfl, rfl⟩) _ _ hR.ap k
  rw [← hR.posters, hl1, rdL_set, if_pos ⟨rfl, hf⟩] at hat
  have hax : atN x.posters r.from' = k := by rw [atN_same hR.len hR.addr, ← hk]
  have hkx : k < x.posters.length := by rw [hR.len]; exact hf
  refine ⟨k, U.of (A + r.cost.val + W), by omega, by omega, ?_, ?_, ?_, ?_, ?_, hf, hkx, by have := hT2.1; omega, ?_, by rw [hR.last], by rw [hR.reports], ?_, ?_⟩
  · rw [← hA, SatAdd_lt (by rw [hm1]; omega), hm1]
  · rw [← hA, htw, SatAdd_lt (by rw [hm2, hWv]; omega), hm2, hWv]
  · rw [← hB, ← hCc]
    have e1 : (U.of B).val = B := U.val_of hx
    have e2 : (U.of C).val = C := U.val_of (by omega)
    rw [SatAdd_lt (by rw [e1, e2]; omega), e1, e2, show B + C = A + r.cost.val + W by omega]
  · have e1 : U.val (t.1, (I.of .u64 0, (I.of .u64 0, (I.of .u64 0, ())))) = repN s2 r now' := by
      have := u64U_val t.1
      rw [htn, n2] at this
      rw [htn]; exact this
    have := SatMul_of p.rpu (t.1, (I.of .u64 0, (I.of .u64 0, (I.of .u64 0, ())))) (by rw [e1, ← hWd]; exact hw)
    rw [e1, ← hWd, ← htw] at this
    exact this
  · have hFind := PFind_eq (l := x.posters) r.from' (by have := hR.tab2.1; omega)
    have haI : atI x.posters r.from' = i6 k := by unfold atI; rw [hax, if_pos hkx]
    rw [haI] at hFind
    exact hFind
  · rw [htn, hR.units]
  · rw [hat.1, ← hq0, SatAdd_lt (by omega)]
    rfl
  · rw [hat.2, ← hq0, htw, SatAdd_lt (by rw [hWv]; omega), hWv]
    show _ = some ((U.of ((Post.rewards q0).val + (U.of W).val), ()), ())
    rw [hWv]
set_option maxHeartbeats 1000000 in
theorem accounting_law (l : List CT) (v : V8) (hl : l.length ≤ LIM) : pontagelaw21_PricerAccounting ((l, (v, ())), ()) = some ((true, ()), ()) := by
  refine Wp.out (T := fun o => o = some ((true, ()), ())) ?_
  unfold pontagelaw21_PricerAccounting
  refine Wp.brn (fun _ => Wp.optF awake21 rfl) (fun hc => ?_)
  have hl := few_ltb (n := 30) hl (by omega) hc
  obtain ⟨p, hp, hpv⟩ := ValidParams_ok v
  refine Wp.optF hp (Wp.optF gen_pr ?_)
  refine Wp.iter (fun t => ∃ j, t = ((l, (I.of .u64 ((j + 1 : Nat) : Int), ())), (p, (prJ j, ()))) ∧ j ≤ 5) (fun t => 6 - t.1.2.1.nat) ?_ ⟨0, rfl, by omega⟩ (by rw [K0_eq]; show 6 - _ < _; omega)
  rintro t ⟨j, rfl, hj⟩
  have ⟨a1, a2, a3⟩ := addp_ltb hj
  simp only [a1]
  refine Wp.brn (fun hc => ?_) (fun hc => Wp.done ?_)
  · have hc := of_decide_eq_true hc
    refine Wp.optF (addp hc) ?_
    simp only [a2]
    exact Wp.again ⟨j + 1, rfl, by omega⟩ (by have := (addp_ltb (j := j + 1) (by omega)).2.2; show 6 - (I.of .u64 ((j + 1 + 1 : Nat) : Int)).nat < 6 - (I.of .u64 ((j + 1 : Nat) : Int)).nat; omega)
  have hc := of_decide_eq_false hc
  have hj5 : j = 5 := by omega
  subst hj5
  refine Wp.iter (fun t => ∃ i now s, t = ((l, (now, (i6 i, ()))), (p, (s, ()))) ∧ i ≤ l.length ∧ I.nat now ≤ 50 * i ∧ AInv i s now ∧ (PrT.units s).nat ≤ 100000 * i) (fun t => l.length - t.1.2.2.1.val.toNat) ?_ ⟨0, _, _, rfl, by omega, by decide, ainv0, by decide⟩ (by rw [K0_eq]; show l.length - _ < _; omega)
  rintro t ⟨i, now, s, rfl, hi, hn, hI, huI⟩
  simp only [of64_1, lenL_eq, i6_ofNat, i6_ltb (show i < 9223372036854775808 by omega) (show l.length < 9223372036854775808 by omega), i6_nat (show i < 9223372036854775808 by omega), i6_add (show i + 1 < 9223372036854775808 by omega)]
  refine Wp.brn (fun hc => ?_) (fun _ => Wp.done (Wp.optF awake21 rfl))
  have hc := of_decide_eq_true hc
  have hmi : l.length - (i6 (i + 1)).val.toNat < l.length - (i6 i).val.toNat := by rw [i6_val (by omega), i6_val (by omega)]; omega
  have hin : inB (i6 i) l.length = true := i6_inB hc (by omega)
  refine Wp.brnT hin (Wp.brnT hin ?_)
  have hclk := clock hn (by omega) (CT.wait (rdL dC l i))
  obtain ⟨now', hnow⟩ : ∃ now', now' = I.add now (I.rem (CT.wait (rdL dC l i)) (I.of .u64 50)) := ⟨_, rfl⟩
  rw [← hnow] at hclk
  have hnow' : I.add now (I.rem (rdL Z_S_pontagelaw21_Call l i).2.2.2.2.2.1 (I.of .u64 50)) = now' := hnow.symm
  simp only [hnow']
  refine Wp.call (pnorm_ok (rdL dC l i) s now' (by have := hI.t; omega) (by omega)) ?_
  rintro _ ⟨e, rfl, heu, f1, f2, u1, u2, hcost⟩
  have hV := prV_t.1 hI.v
  have hpl := hV.2.1.1
  refine Wp.optF (AddUnits_eq s e.units (by omega)) ?_
  have hA : addUnitsS s e.units = ((s.price, (I.of .u64 ((s.units.nat + e.units.nat : Nat) : Int), s.2.2)), I.of .i64 0) := by
    unfold addUnitsS
    rw [if_pos hI.v, if_pos (by omega)]
  rw [hA]
  obtain ⟨s2, hs2⟩ : ∃ s2 : PrT, s2 = (s.price, (I.of .u64 ((s.units.nat + e.units.nat : Nat) : Int), s.2.2)) := ⟨_, rfl⟩
  have hu3 : s2.units.nat = s.units.nat + e.units.nat := by subst hs2; exact of_nat (by omega)
  have hI1 : AInv i s2 now := by subst hs2; exact ⟨hI.v, hI.t, hI.rp, hI.len, hI.ad, hI.due, hI.cst, hI.sur, hI.pr⟩
  have hI2 : AInv (i + 1) s2 now' := ainv_up hI1 (by omega) rfl rfl
  have hp2 : s2.posters = s.posters := by subst hs2; rfl
  rw [← hs2]
  have hT2 := (prV_t.1 hI2.v).2.1
  have hB1 : 64 * M101 < U.top := by decide
  have hdue2 : sumN (s2.posters.map dueN) ≤ i * M101 := by rw [hp2]; exact hI.due
  have hiM : (i + 1) * M101 ≤ 31 * M101 := Nat.mul_le_mul_right _ (by omega)
  have hiM0 : i * M101 ≤ 31 * M101 := Nat.mul_le_mul_right _ (by omega)
  have hTD := TotalDue_eq (l := s2.posters) (by have := hT2.1; omega)
  rw [if_pos (tabB_t.2 hT2), errS_lt (n := sumN (s2.posters.map dueN)) (by omega)] at hTD
  refine Wp.optF hTD ?_
  
  have c2 : e.rep.cost.2.2.1.nat = 0 ∧ e.rep.cost.2.2.2.1.nat = 0 := by
    have h : e.rep.cost.1.nat + 18446744073709551616 * (e.rep.cost.2.1.nat + 18446744073709551616 * (e.rep.cost.2.2.1.nat + 18446744073709551616 * e.rep.cost.2.2.2.1.nat)) < 340282366920938463463374607431768211456 := hcost
    omega
  have hz : (I.of .u64 0).nat = 0 := rfl
  have hrm : ∀ x : I .u64, (I.rem x (I.of .u64 68719476736)).nat < 68719476736 := by
    intro x
    rw [rem_nat' _ _ (by decide), show (I.of .u64 68719476736).nat = 68719476736 from rfl]
    exact Nat.mod_lt _ (by decide)
  obtain ⟨cost, hcs⟩ : ∃ cost : U, cost = (e.rep.cost.1, (I.rem e.rep.cost.2.1 (I.of .u64 68719476736), (e.rep.cost.2.2.1, (e.rep.cost.2.2.2.1, ())))) := ⟨_, rfl⟩
  obtain ⟨pool, hpo⟩ : ∃ pool : U, pool = (e.pool.1, (I.rem e.pool.2.1 (I.of .u64 68719476736), (I.of .u64 0, (I.of .u64 0, ())))) := ⟨_, rfl⟩
  have hcv : cost.val ≤ 2 ^ 100 := by
    rw [hcs]
    show e.rep.cost.1.nat + 18446744073709551616 * ((I.rem e.rep.cost.2.1 (I.of .u64 68719476736)).nat + 18446744073709551616 * (e.rep.cost.2.2.1.nat + 18446744073709551616 * e.rep.cost.2.2.2.1.nat)) ≤ 1267650600228229401496703205376
    have := hrm e.rep.cost.2.1
    have := nat_lt e.rep.cost.1
    omega
  have hpv2 : pool.val ≤ 2 ^ 100 := by
    rw [hpo]
    show e.pool.1.nat + 18446744073709551616 * ((I.rem e.pool.2.1 (I.of .u64 68719476736)).nat + 18446744073709551616 * ((I.of .u64 0).nat + 18446744073709551616 * (I.of .u64 0).nat)) ≤ 1267650600228229401496703205376
    have := hrm e.pool.2.1
    have := nat_lt e.pool.1
    rw [hz]
    omega
  obtain ⟨r, hr⟩ : ∃ r : RepT, r = (e.rep.1, (e.rep.2.1, (cost, e.rep.2.2.2))) := ⟨_, rfl⟩
  have hrc : r.cost = cost := by rw [hr]
  have hrf : r.1 = e.rep.1 := by rw [hr]
  have hrep := Report_eq s2 p pool r now' (by have := hT2.1; omega)
  rw [hr, hcs, hpo] at hrep
  refine Wp.optF hrep ?_
  rw [← hcs, ← hpo, ← hr]
  have hacc := acc_step (i := i) (s := s2) (p := p) (pool := pool) (r := r) (now := now) (now' := now') hI1 (by omega) hpv (by omega) (by omega) (by rw [hrf]; exact f1) (by rw [hrf]; exact f2) (by rw [hrc]; exact hcv) hpv2
  have hR := rep_ok (s := s2) (p := p) (pool := pool) (r := r) (now := now')
  generalize reportS s2 p pool r now' = R at hacc hR ⊢
  obtain ⟨x, t, er⟩ := R
  rcases hacc with h14 | ⟨he, hI3, hux⟩
  · have h14 : er = I.of .i64 14 := h14
    subst h14
    exact Wp.brnT rfl (Wp.brnF rfl (Wp.again ⟨i + 1, now', s2, rfl, by omega, by omega, hI2, by omega⟩ hmi))
  have he : er = I.of .i64 0 := i64_zero he
  subst he
  have hR : RepOk s2 p pool r now' x t := hR rfl
  have hI3 : AInv (i + 1) x now' := hI3
  have hux : x.units.nat ≤ s2.units.nat := hux
  refine Wp.brnF rfl ?_
  obtain ⟨k, tot, O⟩ := acc_out hI1 (by omega) hR (by rw [hrc]; exact hcv) (by omega)
  have ha1 := O.a1
  have ha2 := O.a2
  have hfn := O.fnd
  have hb3 := O.b3
  have hk1 := O.k1
  have hk2 := O.k2
  have hk3 := O.k3
  have hun := O.un
  have hla := O.la
  have hrp := O.rp
  rw [hrc] at ha1 ha2
  rw [show r.from' = e.rep.1 from hrf] at hfn
  rw [hcs] at ha1 ha2
  have hTD2 := TotalDue_eq (l := x.posters) (by have := hR.tab2.1; omega)
  rw [if_pos (tabB_t.2 hR.tab2), errS_lt hR.total] at hTD2
  have hPS := PSum_eq (l := t.2.2.1) O.pl
  rw [errS_lt O.ps] at hPS
  have hir : (s2.posters.length ≤ 64) := hT2.1
  have hupto : r.upto = e.rep.upto := by rw [hr]
  rw [hupto] at hla
  refine Wp.optF hPS (Wp.optF hTD2 (Wp.optF ha1 (Wp.optF ha2 (Wp.optF hfn (Wp.jnI (Wp.optF O.a3 (Wp.brnF (eqb_uu _) (Wp.optF O.m (Wp.brnF (eqb_uu _) ?_)))))))))
  refine Wp.brnF (by show I.ltb (i6 k) (I.of .i64 0) = false; rw [of64_0, i6_ltb (by omega) (by omega)]; exact decide_eq_false (by omega)) ?_
  refine Wp.brnF (niff_neb.2 hun) (Wp.brnF (niff_neb.2 hla) (Wp.brnF (niff_neb.2 hrp) ?_))
  have hix : inB (i6 k) x.posters.length = true := i6_inB hk2 (by omega)
  have his : inB (i6 k) s2.posters.length = true := i6_inB hk1 (by omega)
  refine Wp.brnT hix (Wp.brnT his ?_)
  simp only [i6_nat (show k < 9223372036854775808 by omega)]
  refine Wp.optF hb3 (Wp.brnF (eqb_uu _) (Wp.brnT hix (Wp.brnT his (Wp.optF O.b4 (Wp.brnF (eqb_uu _) ?_)))))
  rw [i6_add (by omega)]
  exact Wp.again ⟨i + 1, now', x, rfl, by omega, by omega, hI3, by omega⟩ hmi
end Sym

/- From what a row reads of the arguments to plain values, and from a contract to the row's answer. -/
namespace Sym
open Go
mutual
def argB (P : Program) : Ty → TypeId → Bool
  | .cons a b, id => match P.underlying id with
    | some (.struct fs) => (match fs.toList with
      | f :: r => argB P a f.type && fargB P b r
      | [] => false)
    | _ => false
  | .arr _ t, id => match P.underlying id with
    | some (.array _ e) => argB P t e
    | _ => false
  | .sl t, id => match P.underlying id with
    | some (.slice e) => Nat.ble 1 t.sz && (Nat.ble 1 (P.bytesOf e) && argB P t e)
    | _ => false
  | .opq, _ => false
  | _, _ => true
def fargB (P : Program) : Ty → List Field → Bool
  | .cons a b, f :: r => argB P a f.type && fargB P b r
  | _, _ => true
end
theorem mapM_some {X Y : Type} {f : X → Option Y} : ∀ {l : List X} {r : List Y}, l.mapM f = some r → r.length = l.length ∧ ∀ (i : Nat) (a : X), l[i]? = some a → ∃ b, r[i]? = some b ∧ f a = some b
  | [], r, h => by
    simp only [List.mapM_nil, Option.pure_def, Option.some.injEq] at h
    subst h
    exact ⟨rfl, fun i a h => by simp at h⟩
  | a :: l, r, h => by
    simp only [List.mapM_cons, Option.bind_eq_bind, Option.bind_eq_some_iff, Option.pure_def, Option.some.injEq] at h
    obtain ⟨b, hb, s, hs, rfl⟩ := h
    obtain ⟨h1, h2⟩ := mapM_some hs
    refine ⟨by simp [h1], fun i x hx => ?_⟩
    cases i with
    | zero =>
      simp only [List.getElem?_cons_zero, Option.some.injEq] at hx
      subst hx
      exact ⟨b, by simp, hb⟩
    | succ i =>
      simp only [List.getElem?_cons_succ] at hx
      obtain ⟨y, h3, h4⟩ := h2 i x hx
      exact ⟨y, by simp [h3], h4⟩
theorem mapM_range {Y : Type} {f : Nat → Option Y} {n : Nat} {r : List Y} (h : (List.range n).mapM f = some r) : r.length = n ∧ ∀ i, i < n → ∃ b, r[i]? = some b ∧ f i = some b := by
  obtain ⟨h1, h2⟩ := mapM_some h
  refine ⟨by simpa using h1, fun i hi => h2 i i (by simp [hi])⟩
theorem exists_list {X : Type} : ∀ (n : Nat) (R : Nat → X → Prop), (∀ i, i < n → ∃ x, R i x) → ∃ l : List X, l.length = n ∧ ∀ i x, l[i]? = some x → R i x
  | 0, _, _ => ⟨[], rfl, fun i x h => by simp at h⟩
  | n + 1, R, h => by
    obtain ⟨x, hx⟩ := h 0 (by omega)
    obtain ⟨l, h1, h2⟩ := exists_list n (fun i x => R (i + 1) x) fun i hi => h (i + 1) (by omega)
    refine ⟨x :: l, by simp [h1], fun i y hy => ?_⟩
    cases i with
    | zero => simp only [List.getElem?_cons_zero, Option.some.injEq] at hy; subst hy; exact hx
    | succ i => exact h2 i y (by simpa using hy)
theorem exists_arr {X : Type} {E : X → List Value → Prop} {s : Nat} : ∀ (n : Nat) (cs : List Value), cs.length = n * s → (∀ i, i < n → ∃ x, E x ((cs.drop (i * s)).take s)) → ∃ x, EncArr E n x cs
  | 0, cs, hl, _ => ⟨(), by simp at hl; exact hl⟩
  | n + 1, cs, hl, h => by
    obtain ⟨x, hx⟩ := h 0 (by omega)
    simp only [Nat.zero_mul, List.drop_zero] at hx
    obtain ⟨y, hy⟩ := exists_arr (E := E) (s := s) n (cs.drop s) (by rw [List.length_drop, hl, Nat.succ_mul]; omega) fun i hi => by
      obtain ⟨z, hz⟩ := h (i + 1) (by omega)
      refine ⟨z, ?_⟩
      rw [List.drop_drop, show s + i * s = (i + 1) * s by rw [Nat.succ_mul]; omega]
      exact hz
    exact ⟨(x, y), cs.take s, cs.drop s, (List.take_append_drop s cs).symm, hx, hy⟩
theorem weightsAll_mem {H : Type} {P : Program} {e : TypeId} : ∀ {ds : List (DataW H)} {i : Nat} {d : DataW H}, ds[i]? = some d → ∀ n ∈ d.weights P e, n ∈ DataW.weightsAll P e ds
  | d0 :: ds, 0, d, hd, n, hn => by
    simp only [List.getElem?_cons_zero, Option.some.injEq] at hd
    subst hd
    simp only [DataW.weightsAll, List.mem_append]
    exact .inl hn
  | d0 :: ds, i + 1, d, hd, n, hn => by
    simp only [List.getElem?_cons_succ] at hd
    simp only [DataW.weightsAll, List.mem_append]
    exact .inr (weightsAll_mem hd n hn)
def strOf (s : ByteArray) : List (I .u8) := s.data.toList.map fun b => I.of .u8 b.toNat
theorem bytesOf_strOf (s : ByteArray) : bytesOf (strOf s) = s := by
  unfold bytesOf strOf
  cases s with | mk a =>
  congr 1
  rw [List.map_map]
  have : ((fun c : I .u8 => UInt8.ofNat c.val.toNat) ∘ fun b : UInt8 => I.of .u8 b.toNat) = id := by
    funext b
    simp only [Function.comp, id, I.of, IntKind.wrap, IntKind.bits, IntKind.signed, Bool.false_and, Bool.false_eq_true, if_false]
    have := b.toNat_lt
    rw [show ((b.toNat : Int) % 2 ^ 8) = (b.toNat : Int) by omega, Int.toNat_natCast]
    exact UInt8.ofNat_toNat
  rw [this, List.map_id, Array.toArray_toList]
section
variable {H : Type} {enc : TypeId × Value → H} {P : Program} {W : World} {base : Nat} {spare : Nat → Bool} {held : Bool}
abbrev GW (W : World) : Nat → Prop := fun r => r < W.heap.size
theorem cell_lt {a : Addr} {v : Value} (h : W.cell? a = some v) : a.spot = none ∧ a.block < W.heap.size := by
  unfold World.cell? at h
  split at h
  · rename_i c _ _ hc
    split at h
    · cases h
    · rename_i hs
      refine ⟨by simpa using hs, ?_⟩
      rw [Array.getElem?_eq_some_iff] at hc
      exact hc.1
  · cases h
theorem cells_row {base : Nat} {a : Addr} {n : Nat} {ds : List Value} (h : W.cells? base a n = some ds) : ds.length = n ∧ ∀ j d, ds[j]? = some d → W.cell? (a.add j) = some d := by
  unfold World.cells? at h
  split at h
  · obtain ⟨h1, h2⟩ := mapM_range h
    refine ⟨h1, fun j d hd => ?_⟩
    obtain ⟨b, h3, h4⟩ := h2 j (by rw [← h1]; exact (List.getElem?_eq_some_iff.1 hd).1)
    rw [h3] at hd
    rw [h4, hd]
  · cases h
theorem addr_add {a : Addr} (hs : a.spot = none) (n : Nat) : a.add n = ⟨a.block, a.off + n, none⟩ := by
  unfold Addr.add
  cases a
  simp only at hs
  subst hs
  split
  · rename_i h; subst h; rfl
  · rfl
theorem enc_of_trod : ∀ (t : Ty),
    (∀ fuel id cs (d : DataW H) (p : List MemPlace), TOk P t id → argB P t id = true → DataW.trod enc P W base spare held fuel id cs = some (d, p) → (∀ n ∈ d.weights P id, n ≤ reachBytes) → ∃ x, Enc W (GW W) t x cs) ∧
    (∀ fuel (r : List Field) (o : Nat) (cs : List Value) (xs : List (DataW H × List MemPlace)), FOk P t r o → fargB P t r = true → xs.length = r.length →
      (∀ (i : Nat) (f : Field), r[i]? = some f → DataW.trod enc P W base spare held fuel f.type ((cs.drop f.offset).take (P.cellsOf f.type)) = xs[i]?) →
      (∀ n ∈ DataW.weightsEach P (r.map (·.type)) (xs.map (·.1)), n ≤ reachBytes) → cs.length = o + t.sz → ∃ x, Enc W (GW W) t x (cs.drop o)) := by
  intro t
  have nofld : ∀ t, (∀ a b, t ≠ .cons a b) → t ≠ .nil → ∀ (r : List Field) (o : Nat), ¬ FOk P t r o := by
    intro t h1 h2 r o h
    cases t <;> first | exact h1 _ _ rfl | exact h2 rfl | (cases r <;> exact h.elim)
  induction t with
  | int k =>
    refine ⟨fun fuel id cs d p hT _ h _ => ?_, fun fuel r o cs xs h => (nofld _ (by simp) (by simp) _ _ h).elim⟩
    obtain ⟨n, hcs, _, hw⟩ := DataW.trod_int hT.2 h
    simp only [Lit.wf, Bool.and_eq_true, decide_eq_true_eq] at hw
    exact ⟨(⟨n, wrap_eq_of_range hw⟩ : I k), hcs⟩
  | bool =>
    refine ⟨fun fuel id cs d p hT _ h _ => ?_, fun fuel r o cs xs h => (nofld _ (by simp) (by simp) _ _ h).elim⟩
    obtain ⟨n, hcs, _⟩ := DataW.trod_bool hT.2 h
    exact ⟨n, hcs⟩
  | str =>
    refine ⟨fun fuel id cs d p hT _ h hw => ?_, fun fuel r o cs xs h => (nofld _ (by simp) (by simp) _ _ h).elim⟩
    obtain ⟨s, hcs, hx, _⟩ := DataW.trod_string hT.2 h
    simp only [Prod.mk.injEq] at hx
    obtain ⟨rfl, rfl⟩ := hx
    refine ⟨strOf s, ?_, ?_⟩
    · rw [bytesOf_strOf]; exact hcs
    · have := hw s.data.toList.length (by simp [DataW.weights])
      have h2 : (strOf s).length = s.data.toList.length := List.length_map _
      show (strOf s).length ≤ LIM
      rw [h2]
      simp only [reachBytes, LIM] at *
      omega
  | nil =>
    refine ⟨fun fuel id cs d p hT _ h hw => ?_, fun fuel r o cs xs h _ _ _ _ hl => ⟨(), ?_⟩⟩
    · obtain ⟨xs, n, _, _, hl, _⟩ := DataW.trod_struct hT.2 h
      rw [hT.1] at hl
      exact ⟨(), List.eq_nil_of_length_eq_zero hl⟩
    · show cs.drop o = []
      simp only [Ty.sz, Nat.add_zero] at hl
      rw [List.drop_eq_nil_iff]; omega
  | cons a b iha ihb =>
    refine ⟨fun fuel id cs d p hT hA h hw => ?_, fun fuel r o cs xs hF hA hlen hf hw hl => ?_⟩
    · obtain ⟨hsz, fs, f, r, hu, hfs, hf0, hTa, hFb⟩ := hT
      obtain ⟨xs, n, _, hx, hl, hlen, hfx⟩ := DataW.trod_struct hu h
      simp only [Prod.mk.injEq] at hx
      obtain ⟨rfl, rfl⟩ := hx
      simp only [argB, hu, hfs, Bool.and_eq_true] at hA
      have hfl : ∀ (i : Nat) (g : Field), (f :: r)[i]? = some g → DataW.trod enc P W base spare held n g.type ((cs.drop g.offset).take (P.cellsOf g.type)) = xs[i]? := by
        intro i g hg
        refine hfx i g ?_
        rw [← Array.getElem?_toList, hfs]
        exact hg
      have hlen' : xs.length = r.length + 1 := by rw [hlen, ← Array.length_toList, hfs]; rfl
      match xs, hlen' with
      | y :: ys, hlen' =>
        simp only [DataW.weights, hu, hfs, List.map_cons, DataW.weightsEach, List.mem_append] at hw
        have h0 := hfl 0 f rfl
        simp only [List.getElem?_cons_zero] at h0
        rw [hf0, hTa.size, List.drop_zero] at h0
        obtain ⟨x, hx⟩ := iha.1 n f.type _ y.1 y.2 hTa hA.1 h0 (fun m hm => hw m (.inl hm))
        obtain ⟨z, hz⟩ := ihb.2 n r a.sz cs ys hFb hA.2 (by simpa using hlen') (fun i g hg => by simpa using hfl (i + 1) g hg) (fun m hm => hw m (.inr hm)) (by rw [hl, hsz])
        exact ⟨(x, z), _, _, (List.take_append_drop a.sz cs).symm, hx, hz⟩
    · cases r with
      | nil => exact hF.elim
      | cons f r =>
        obtain ⟨hf0, hTa, hFb⟩ := hF
        simp only [fargB, Bool.and_eq_true] at hA
        match xs, hlen with
        | y :: ys, hlen =>
          simp only [List.map_cons, DataW.weightsEach, List.mem_append] at hw
          have h0 := hf 0 f rfl
          simp only [List.getElem?_cons_zero] at h0
          rw [hf0, hTa.size] at h0
          simp only [Ty.sz] at hl
          obtain ⟨x, hx⟩ := iha.1 fuel f.type _ y.1 y.2 hTa hA.1 h0 (fun m hm => hw m (.inl hm))
          obtain ⟨z, hz⟩ := ihb.2 fuel r (o + a.sz) cs ys hFb hA.2 (by simpa using hlen) (fun i g hg => by simpa using hf (i + 1) g hg) (fun m hm => hw m (.inr hm)) (by omega)
          refine ⟨(x, z), _, _, (List.take_append_drop a.sz (cs.drop o)).symm, hx, ?_⟩
          rw [List.drop_drop]
          exact hz
  | arr n t ih =>
    refine ⟨fun fuel id cs d p hT hA h hw => ?_, fun fuel r o cs xs h => (nofld _ (by simp) (by simp) _ _ h).elim⟩
    obtain ⟨hsz, e, hu, hTe⟩ := hT
    obtain ⟨xs, m, _, hx, hl, hlen, hfx⟩ := DataW.trod_array hu h
    simp only [Prod.mk.injEq] at hx
    obtain ⟨rfl, rfl⟩ := hx
    simp only [argB, hu] at hA
    simp only [DataW.weights, hu] at hw
    refine exists_arr n cs (by rw [hl, hsz]) fun i hi => ?_
    have h0 := hfx i hi
    rw [hTe.size, List.getElem?_eq_getElem (by omega)] at h0
    refine ih.1 m e _ (xs[i]'(by omega)).1 (xs[i]'(by omega)).2 hTe hA h0 fun k hk => hw k (weightsAll_mem (i := i) ?_ k hk)
    rw [List.getElem?_map, List.getElem?_eq_getElem (by omega)]; rfl
  | sl t ih =>
    refine ⟨fun fuel id cs d p hT hA h hw => ?_, fun fuel r o cs xs h => (nofld _ (by simp) (by simp) _ _ h).elim⟩
    obtain ⟨hsz, e, hu, hTe⟩ := hT
    simp only [argB, hu, Bool.and_eq_true] at hA
    obtain ⟨hA1, hA2, hA⟩ := hA
    have hA1 := Nat.le_of_ble_eq_true hA1
    have hA2 := Nat.le_of_ble_eq_true hA2
    rcases DataW.trod_slice hu h with ⟨rfl, _⟩ | ⟨a, len, cap, elems, rest, m, _, rfl, hx, _, hlc, _, hel, hfx, _, _⟩
    · refine ⟨([] : List t.D), none, 0, rfl, Nat.le_refl _, by simp, .inl rfl⟩
    · simp only [Prod.mk.injEq] at hx
      obtain ⟨rfl, rfl⟩ := hx
      simp only [DataW.weights, hu, List.mem_cons, List.mem_append] at hw
      have hb := hw _ (.inl rfl)
      have hlim : len ≤ LIM := by
        have h1 : len ≤ (elems.length + rest.length) * P.bytesOf e := by
          rw [← hel]
          refine Nat.le_trans ?_ (Nat.mul_le_mul_left _ hA2)
          omega
        simp only [List.length_map] at hb
        simp only [reachBytes, LIM] at *
        omega
      have key : ∀ i, i < len → a.spot = none ∧ a.block < W.heap.size ∧ ∃ x ds, Enc W (GW W) t x ds ∧ cellsAt W a.block (a.off + i * t.sz) ds := by
        have one : ∀ i, i < len → ∃ (ds : List Value) (x : t.D), ds.length = t.sz ∧ Enc W (GW W) t x ds ∧ ∀ j d, ds[j]? = some d → W.cell? ((a.add (i * t.sz)).add j) = some d := by
          intro i hi
          have h0 := hfx i hi
          rw [List.getElem?_eq_getElem (by omega)] at h0
          simp only [Option.bind_eq_some_iff] at h0
          obtain ⟨ds, h1, h2⟩ := h0
          obtain ⟨h3, h4⟩ := cells_row h1
          rw [hTe.size] at h3 h4
          obtain ⟨x, hx⟩ := ih.1 m e ds (elems[i]'(by omega)).1 (elems[i]'(by omega)).2 hTe hA h2 fun k hk => hw k (.inr (.inl (weightsAll_mem (i := i) (by rw [List.getElem?_map, List.getElem?_eq_getElem (by omega)]; rfl) k hk)))
          exact ⟨ds, x, h3, hx, h4⟩
        intro i hi
        obtain ⟨ds, x, h1, h2, h3⟩ := one i hi
        obtain ⟨ds0, _, g1, _, g3⟩ := one 0 (by omega)
        have c0 := g3 0 (ds0[0]'(by omega)) (List.getElem?_eq_getElem _)
        simp only [Nat.zero_mul] at c0
        have e0 : (a.add 0).add 0 = a := by simp [Addr.add]
        rw [e0] at c0
        obtain ⟨hs, hlt⟩ := cell_lt c0
        refine ⟨hs, hlt, x, ds, h2, fun j d hd => ?_⟩
        have := h3 j d hd
        rw [addr_add hs, addr_add rfl] at this
        exact this
      obtain ⟨l, hl1, hl2⟩ := exists_list len (fun i x => ∃ ds, Enc W (GW W) t x ds ∧ cellsAt W a.block (a.off + i * t.sz) ds) fun i hi => (key i hi).2.2
      refine ⟨l, some a, cap, ?_, ?_, ?_, ?_⟩
      · show [Value.slice (some a) len cap] = [Value.slice (some a) l.length cap]; rw [hl1]
      · show l.length ≤ cap; omega
      · show l.length ≤ LIM; omega
      · by_cases h0 : len = 0
        · left; show l = []; exact List.eq_nil_of_length_eq_zero (by omega)
        · obtain ⟨h1, h2, _⟩ := key 0 (by omega)
          exact .inr ⟨a, rfl, h1, h2, hl2⟩
  | opq => exact ⟨fun fuel id cs d p hT hA => by simp [argB] at hA, fun fuel r o cs xs h => (nofld _ (by simp) (by simp) _ _ h).elim⟩
end
theorem val_of_ok {P : Program} {W : World} {rr : Reach} {base : Nat} {id : TypeId} {v : Value} {t : Ty} (hT : TOk P t id) (hne : t ≠ .opq) (h : Value.okWide P W rr base id v) : v = mkV t.isAgg v.cells.toList := by
  have agg : (∃ cs, v = .agg cs) → v = mkV true v.cells.toList := by
    rintro ⟨cs, rfl⟩
    show Value.agg cs = .agg _
    congr 1
  cases t with
  | int k => obtain ⟨n, rfl⟩ := Go.WideShapes.okWide_int hT.2 h; rfl
  | bool => obtain ⟨n, rfl⟩ := Go.WideShapes.okWide_bool hT.2 h; rfl
  | str => obtain ⟨n, rfl⟩ := Go.WideShapes.okWide_string hT.2 h; rfl
  | sl t => obtain ⟨_, e, hu, _⟩ := hT; obtain ⟨a, l, c, rfl⟩ := Go.WideShapes.okWide_slice hu h; rfl
  | opq => exact (hne rfl).elim
  | nil => obtain ⟨_, hu⟩ := hT; simp only [Value.okWide, hu] at h; exact agg ⟨_, h.choose_spec.1⟩
  | cons a b => obtain ⟨_, fs, f, r, hu, _⟩ := hT; simp only [Value.okWide, hu] at h; exact agg ⟨_, h.choose_spec.1⟩
  | arr n t => obtain ⟨_, e, hu, _⟩ := hT; simp only [Value.okWide, hu] at h; exact agg ⟨_, h.choose_spec.1⟩
def Arr.all {X : Type} (p : X → Prop) : (n : Nat) → Arr X n → Prop
  | 0, _ => True
  | n + 1, x => p x.1 ∧ Arr.all p n x.2
def Ty.bd : (t : Ty) → t.D → Prop
  | .str, x => (show List (I .u8) from x).length ≤ LIM
  | .cons a b, x => a.bd x.1 ∧ b.bd x.2
  | .arr n t, x => Arr.all t.bd n x
  | .sl t, x => (show List t.D from x).length ≤ LIM ∧ ∀ (i : Nat) (y : t.D), (show List t.D from x)[i]? = some y → t.bd y
  | .int _, _ => True
  | .bool, _ => True
  | .nil, _ => True
  | .opq, _ => True
theorem EncArr_all {X : Type} {E : X → List Value → Prop} {p : X → Prop} (h : ∀ x cs, E x cs → p x) : ∀ (n : Nat) (x : Arr X n) (cs : List Value), EncArr E n x cs → Arr.all p n x
  | 0, _, _, _ => trivial
  | n + 1, x, cs, he => by
    obtain ⟨c1, c2, _, h1, h2⟩ := he
    exact ⟨h _ _ h1, EncArr_all h n x.2 c2 h2⟩
theorem Enc_bd {W : World} {G : Nat → Prop} : ∀ (t : Ty) (x : t.D) (cs : List Value), Enc W G t x cs → t.bd x := by
  intro t
  induction t with
  | int k => intro x cs _; trivial
  | bool => intro x cs _; trivial
  | nil => intro x cs _; trivial
  | opq => intro x cs _; trivial
  | str => intro x cs h; exact h.2
  | cons a b iha ihb => intro x cs h; obtain ⟨c1, c2, _, h1, h2⟩ := h; exact ⟨iha _ _ h1, ihb _ _ h2⟩
  | arr n t ih => intro x cs h; exact EncArr_all (fun x cs => ih x cs) n x cs h
  | sl t ih =>
    intro x cs h
    obtain ⟨a, c, _, _, hl, hx⟩ := h
    refine ⟨hl, fun i y hy => ?_⟩
    rcases hx with hx | ⟨ad, _, _, _, hr⟩
    · rw [hx] at hy; simp at hy
    · obtain ⟨ds, h1, _⟩ := hr i y hy
      exact ih y ds h1
def bdAll : (ts : List Ty) → ShD (ts.map .pl) → Prop
  | [], _ => True
  | t :: ts, x => t.bd x.1 ∧ bdAll ts x.2
def argsB (P : Program) : List Ty → List TypeId → Bool
  | [], [] => true
  | t :: ts, id :: ids => tokB P t id && (argB P t id && (P.readableRec id && (Nat.blt id P.types.size && argsB P ts ids)))
  | _, _ => false
section
variable {H : Type} {enc : TypeId × Value → H} {P : Program} {W : World}
def cx0 (W : World) : Cx := ⟨W, GW W, fun _ => .bool false, []⟩
theorem args_val {rr : Reach} {base : Nat} : ∀ (ts : List Ty) (ids : List TypeId) (vs : List Value) (ds : List (DataW H)) (ps : List MemPlace), argsB P ts ids = true →
    DataW.TrodAll enc P W 0 (fun _ => true) true ids vs ds ps → (∀ (j : Nat) t v, ids[j]? = some t → vs[j]? = some v → Value.okWide P W rr base t v) →
    (∀ n ∈ DataW.weightsEach P ids ds, n ≤ reachBytes) → ds.length = ts.length ∧ ∃ x : ShD (ts.map .pl), bdAll ts x ∧ All2 (VOk (cx0 W)) (mkSlots (ts.map .pl) x) vs
  | [], [], vs, ds, ps, _, hA, _, _ => by
    obtain ⟨rfl, rfl, rfl⟩ := Go.ChangeShapes.trodAll_nil hA
    exact ⟨rfl, (), trivial, trivial⟩
  | [], _ :: _, _, _, _, h, _, _, _ => by cases h
  | _ :: _, [], _, _, _, h, _, _, _ => by cases h
  | t :: ts, id :: ids, vs, ds, ps, h, hA, hv, hw => by
    simp only [argsB, Bool.and_eq_true] at h
    obtain ⟨h1, h2, _, _, h5⟩ := h
    obtain ⟨v, vs', d, ds', p, q, rfl, rfl, rfl, ⟨fuel, hd⟩, hrest⟩ := Go.ChangeShapes.trodAll_cons hA
    simp only [DataW.weightsEach, List.mem_append] at hw
    have hT := (tok_both P t).1 id h1
    obtain ⟨x, hx⟩ := (enc_of_trod t).1 fuel id _ d p hT h2 hd fun n hn => hw n (.inl hn)
    obtain ⟨hl, y, hbd, hy⟩ := args_val ts ids vs' ds' q h5 hrest (fun j t v ht hv' => hv (j + 1) t v (by simpa using ht) (by simpa using hv')) fun n hn => hw n (.inr hn)
    refine ⟨by simp [hl], (x, y), ⟨Enc_bd t x _ hx, hbd⟩, ?_, hy⟩
    refine ⟨_, hx, ?_⟩
    exact val_of_ok hT (by rintro rfl; simp [argB] at h2) (hv 0 id v rfl rfl)
theorem trodAll_below (hl : laidOutB P = true) {W' : World} (hb : Go.RowKit.Below W.heap.size W W') : ∀ (ts : List Ty) (ids : List TypeId) (vs : List Value) (ds : List (DataW H)) (ps : List MemPlace), argsB P ts ids = true →
    DataW.TrodAll enc P W 0 (fun _ => true) true ids vs ds ps → (∀ x ∈ ps, x.block < W.heap.size) → DataW.TrodAll enc P W' 0 (fun b => decide (b < W.heap.size)) true ids vs ds ps
  | [], [], vs, ds, ps, _, hA, _ => by
    obtain ⟨rfl, rfl, rfl⟩ := Go.ChangeShapes.trodAll_nil hA
    exact Go.ChangeShapes.trodAll_mk0
  | [], _ :: _, _, _, _, h, _, _ => by cases h
  | _ :: _, [], _, _, _, h, _, _ => by cases h
  | t :: ts, id :: ids, vs, ds, ps, h, hA, hlt => by
    simp only [argsB, Bool.and_eq_true] at h
    obtain ⟨_, _, h3, h4, h5⟩ := h
    obtain ⟨v, vs', d, ds', p, q, rfl, rfl, rfl, hd, hrest⟩ := Go.ChangeShapes.trodAll_cons hA
    refine ⟨p, q, Go.RowKit.Below.trod hl h3 (Nat.lt_of_succ_le (Nat.le_of_ble_eq_true h4)) hd hb fun x hx => hlt x (by simp [hx]), ?_, rfl⟩
    exact trodAll_below hl hb ts ids vs' ds' q h5 hrest fun x hx => hlt x (by simp [hx])
theorem start0 : Start (cx0 W) := by
  have hu : ∀ b, blkAt (cx0 W).H b = .unborn := fun b => by simp [cx0, blkAt]
  refine ⟨fun b => ?_, fun b b' r h => ?_, fun r hr => ⟨hr, fun b h => ?_⟩⟩
  · unfold BlkOk; rw [hu]; trivial
  · rw [hu] at h; cases h
  · rw [hu] at h; cases h
theorem row_of_con {C : Checked} {f : FuncId} {fn : Func} {s : ChangeSpec} {ts : List Ty} {bt : TypeId} {F : (⟨ts.map .pl, []⟩ : Tm).D → Option (⟨[.pl .bool], []⟩ : Tm).D}
    (hl : laidOutB C.prog = true) (hfn : C.prog.funcs[f]? = some fn) (hbody : fn.body.isSome = true) (hname : (fn.name == "runtime.NumGoroutine") = false)
    (hargs : argsB C.prog ts fn.params.toList = true) (hres : fn.resultTypes = #[bt]) (hbt : C.prog.underlying bt = some .bool) (hvars : s.vars = [])
    (hs : ∀ ds : List (DataW H), ds.length = ts.length → s.fn H ds = { results := [.lit (.bool true)], args := ds })
    (hcon : ConOk C.prog f ⟨⟨ts.map .pl, []⟩, ⟨[.pl .bool], []⟩, F⟩) (hF : ∀ x, bdAll ts x → F (x, ()) = some ((true, ()), ()))
    (base : Nat) (args : Array Value) (ds gs : List (DataW H)) (before : List MemPlace)
    (hval : ∀ (j : Nat) t v, fn.params[j]? = some t → args[j]? = some v → Value.okWide C.prog W .any base t v)
    (hW : DataW.Whole enc C.prog fn.params.toList s.vars false W args.toList ds gs before)
    (hsz : (DataW.weightsEach C.prog (fn.params.toList ++ s.plain.varTypes C.prog) (ds ++ gs)).all (· ≤ reachBytes) = true) :
    Calls C.prog f args W fun e W' => ∃ v, e = .returned v ∧ s.post enc C.prog fn false true false false W args v W' := by
  have hW' := hW
  obtain ⟨p, q, hA, hV, rfl, hfz, hnd⟩ := hW
  rw [hvars] at hV
  obtain ⟨rfl, rfl⟩ := Go.ChangeShapes.trodVars_none hV
  have hvt : s.plain.varTypes C.prog = [] := by simp [DataSpec.varTypes, ChangeSpec.plain, hvars]
  rw [hvt, List.append_nil, List.append_nil, List.all_eq_true] at hsz
  obtain ⟨hlen, x, hbd, hx⟩ := args_val (P := C.prog) ts fn.params.toList args.toList ds p hargs hA
    (fun j t v h1 h2 => hval j t v (by rw [← Array.getElem?_toList]; exact h1) (by rw [← Array.getElem?_toList]; exact h2)) fun n hn => of_decide_eq_true (hsz n hn)
  have key := hcon (x, ()) ((true, ()), ()) (hF x hbd) (cx0 W) args.toList start0 rfl hx
  rw [Array.toArray_toList] at key
  obtain ⟨b, hb⟩ := Option.isSome_iff_exists.1 hbody
  have hent := run_callFunc (args := args) (w := W) hfn hb hname
  rcases key with ⟨v, w', h1, _⟩ | ⟨_, h⟩
  · change (callFunc f args).run C.prog W = _ at h1
    rw [hent] at h1
    cases h1
  · refine h.mono fun e w' hr => ?_
    obtain ⟨v, he, c', hw, hH, hv, hM, _⟩ := hr
    subst he hw
    refine ⟨v, rfl, ?_⟩
    have hown : ∀ r, ¬ ownOf (cx0 W) r := by
      rintro r ⟨b, hb, _⟩
      simp [cx0, blkAt, live] at hb
    have bel : Go.RowKit.Below W.heap.size W c'.w := ⟨hM.os, hM.tape, hM.output, hM.size, fun k hk => hM.frame k hk (hown k)⟩
    obtain ⟨cs, hcs, hv⟩ := hv
    have hcs : cs = [.bool true] := hcs
    subst hcs
    have hv : v = .bool true := hv
    subst hv
    have hfnH := hs ds hlen
    refine ⟨ds, [], _, [], p, [], hW', ?_, ?_, ?_, bel.frame _, fun h => by cases h⟩
    · rw [List.append_nil, hfnH, hres]
      exact Go.ChangeShapes.trodAll_mk1 (Go.RowKit.shut_bool hbt _)
    · rw [List.append_nil, hfnH]
      refine trodAll_below hl bel ts _ _ _ _ hargs hA fun x hx => ?_
      exact DataW.TrodAll.lt hA x hx
    · rw [List.append_nil, hfnH, hvars]
      rfl
end
end Sym
