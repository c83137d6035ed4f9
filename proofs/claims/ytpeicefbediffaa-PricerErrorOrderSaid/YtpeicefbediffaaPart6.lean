/- The given functions with a counted number of rounds: for running them at given values. -/
import Derived.Carry
import Derived.SizedLaws
import Derived.ChangeOld
import Derived.OpenShut
import Derived.Test.YtpeicefbediffaaPart4
import Derived.Test.YtpeicefbediffaaPart5
import Derived.Test.YtpeicefbediffaaPart3
namespace Sym
open Go
abbrev K1 : Nat := 2 ^ 64
noncomputable def poster_sum_k (x : (⟨[.pl u256, .pl u256], []⟩ : Tm).D) : Option (⟨[.pl (.arr 5 (.int .u64))], []⟩ : Tm).D :=
 let a : U := x.1.1
 let b : U := x.1.2.1
 iter (none) (fun x0 =>
   brn (@I.ltb .i64 x0.1.2.1 (I.of .i64 4))
    (brn (@inB .i64 x0.1.2.1 4)
     (brn (@inB .i64 x0.1.2.1 4)
      (optF (.done (none)) (add64F (((@Arr.sel (I .u64) (I.of .u64 0) 4 x0.2.1 (@I.nat .i64 x0.1.2.1)), ((@Arr.sel (I .u64) (I.of .u64 0) 4 x0.2.2.1 (@I.nat .i64 x0.1.2.1)), (x0.1.1, ()))), ())) fun y1 =>
      brn (@inB .i64 x0.1.2.1 5)
       (.again ((y1.1.2.1, ((@I.add .i64 x0.1.2.1 (I.of .i64 1)), ())), (x0.2.1, (x0.2.2.1, (x0.2.2.2.1, ((@Arr.upd (I .u64) 5 x0.2.2.2.2.1 (@I.nat .i64 x0.1.2.1) y1.1.1), ()))))))
       (.done (none)))
      (.done (none)))
     (.done (none)))
    (.done (some (((x0.2.2.2.2.1.1, (x0.2.2.2.2.1.2.1, (x0.2.2.2.2.1.2.2.1, (x0.2.2.2.2.1.2.2.2.1, (x0.1.1, ()))))), ()), ()))))
 K1 (((I.of .u64 0), ((I.of .i64 0), ())), (a, (b, (((I.of .u64 0), Z_U), (((I.of .u64 0), Z_U), ())))))
theorem poster_sum_k_eq : poster_sum = poster_sum_k := by
  funext x
  unfold poster_sum poster_sum_k
  rw [K0_eq]
  all_goals kernel_rfl
noncomputable def poster_Valid_k (x : (⟨[.pl (.sl Y_api_Poster)], []⟩ : Tm).D) : Option (⟨[.pl .bool], []⟩ : Tm).D :=
 let a : (List S_api_Poster) := x.1.1
 iter (none) (fun x0 =>
   brn (@I.ltb .i64 x0.1.2.2.2.1 x0.1.2.2.1)
    (brn (@inB .i64 x0.1.2.2.2.1 (@lenL S_api_Poster x0.1.2.1))
     (jn (fun (x1 : (((List S_api_Poster) × ((List S_api_Poster) × ((I .i64) × ((I .i64) × ((I .i64) × (Bool × (Bool × (Bool × Unit)))))))) × (S_api_Poster × Unit))) =>
       optF (.done (none)) (poster_sum_k ((x1.2.1.2.1, (x1.2.1.2.2.2.2.1, ())), ())) fun y2 =>
       optF (.done (none)) (poster_sum_k ((x1.2.1.2.2.1, (x1.2.1.2.2.2.1, ())), ())) fun y3 =>
       brn (bnot (Ty.eqb (.arr 5 (.int .u64)) y2.1.1 y3.1.1))
        (.done (some ((false, ()), ())))
        (optF (.done (none)) (poster_isZero ((x1.2.1.2.1, ()), ())) fun y4 =>
        brn (bnot (Ty.eqb .bool (@I.eqb .u64 x1.2.1.2.2.2.2.2.1 (I.of .u64 0)) y4.1.1))
         (.done (some ((false, ()), ())))
         (.again ((x1.1.1, (x1.1.2.1, (x1.1.2.2.1, ((@I.add .i64 x1.1.2.2.2.1 (I.of .i64 1)), ())))), ())))) fun j1 =>
     brn (@I.eqb .u64 (@rdL S_api_Poster Z_S_api_Poster x0.1.2.1 (@I.nat .i64 x0.1.2.2.2.1)).1 (I.of .u64 0))
      (.done (some ((false, ()), ())))
      (brn (@I.ltb .i64 (I.of .i64 0) x0.1.2.2.2.1)
       (brn (@inB .i64 (@I.sub .i64 x0.1.2.2.2.1 (I.of .i64 1)) (@lenL S_api_Poster x0.1.1))
        (brn (@I.leb .u64 (@rdL S_api_Poster Z_S_api_Poster x0.1.2.1 (@I.nat .i64 x0.1.2.2.2.1)).1 (@rdL S_api_Poster Z_S_api_Poster x0.1.1 (@I.nat .i64 (@I.sub .i64 x0.1.2.2.2.1 (I.of .i64 1)))).1)
         (.done (some ((false, ()), ())))
         (j1 ((x0.1.1, (x0.1.2.1, (x0.1.2.2.1, (x0.1.2.2.2.1, (x0.1.2.2.2.1, ((@I.ltb .i64 (I.of .i64 0) x0.1.2.2.2.1), (true, ((@I.leb .u64 (@rdL S_api_Poster Z_S_api_Poster x0.1.2.1 (@I.nat .i64 x0.1.2.2.2.1)).1 (@rdL S_api_Poster Z_S_api_Poster x0.1.1 (@I.nat .i64 (@I.sub .i64 x0.1.2.2.2.1 (I.of .i64 1)))).1), ())))))))), ((@rdL S_api_Poster Z_S_api_Poster x0.1.2.1 (@I.nat .i64 x0.1.2.2.2.1)), ()))))
        (.done (none)))
       (j1 ((x0.1.1, (x0.1.2.1, (x0.1.2.2.1, (x0.1.2.2.2.1, (x0.1.2.2.2.1, ((@I.ltb .i64 (I.of .i64 0) x0.1.2.2.2.1), (false, (false, ())))))))), ((@rdL S_api_Poster Z_S_api_Poster x0.1.2.1 (@I.nat .i64 x0.1.2.2.2.1)), ())))))
     (.done (none)))
    (.done (some (((@I.leb .i64 (I.ofNat .i64 (@lenL S_api_Poster x0.1.1)) (I.of .i64 64)), ()), ()))))
 K1 ((a, (a, ((I.ofNat .i64 (@lenL S_api_Poster a)), ((I.of .i64 0), ())))), ())
theorem poster_Valid_k_eq : poster_Valid = poster_Valid_k := by
  funext x
  unfold poster_Valid poster_Valid_k
  rw [K0_eq, poster_sum_k_eq]
  all_goals kernel_rfl
noncomputable def pricer_Valid_k (x : (⟨[.pl Y_api_Pricer], []⟩ : Tm).D) : Option (⟨[.pl .bool], []⟩ : Tm).D :=
 let a : S_api_Pricer := x.1.1
 iter (none) (fun x0 =>
   brn (@I.ltb .i64 x0.1.2.2.1 x0.1.2.1)
    (brn (@inB .i64 x0.1.2.2.1 (@lenL S_api_Poster x0.1.1))
     (brn (@I.ltb .u64 x0.2.1.2.2.2.1 (@rdL S_api_Poster Z_S_api_Poster x0.1.1 (@I.nat .i64 x0.1.2.2.1)).2.2.2.2.2.1)
      (.done (some ((false, ()), ())))
      (.again ((x0.1.1, (x0.1.2.1, ((@I.add .i64 x0.1.2.2.1 (I.of .i64 1)), ()))), (x0.2.1, ()))))
     (.done (none)))
    (.done (optF (none) (poster_Valid_k ((x0.2.1.2.2.2.2.2.1, ()), ())) fun y1 =>
    brn y1.1.1
     (optF (none) (int256_Valid ((x0.2.1.2.2.2.2.1, ()), ())) fun y2 =>
     some ((y2.1.1, ()), ()))
     (some ((false, ()), ())))))
 K1 ((a.2.2.2.2.2.1, ((I.ofNat .i64 (@lenL S_api_Poster a.2.2.2.2.2.1)), ((I.of .i64 0), ()))), (a, ()))
theorem pricer_Valid_k_eq : pricer_Valid = pricer_Valid_k := by
  funext x
  unfold pricer_Valid pricer_Valid_k
  rw [K0_eq, poster_Valid_k_eq]
  all_goals kernel_rfl
noncomputable def poster_Find_k (x : (⟨[.pl (.sl Y_api_Poster), .pl (.int .u64)], []⟩ : Tm).D) : Option (⟨[.pl (.int .i64)], []⟩ : Tm).D :=
 let a : (List S_api_Poster) := x.1.1
 let b : (I .u64) := x.1.2.1
 iter (none) (fun x0 =>
   brn (@I.ltb .i64 x0.1.2.2.2.1 x0.1.2.2.1)
    (brn (@inB .i64 x0.1.2.2.2.1 (@lenL S_api_Poster x0.1.1))
     (brn (@I.eqb .u64 (@rdL S_api_Poster Z_S_api_Poster x0.1.1 (@I.nat .i64 x0.1.2.2.2.1)).1 x0.2.1)
      (.done (some ((x0.1.2.2.2.1, ()), ())))
      (.again ((x0.1.1, (((), x0.1.2.1.2), (x0.1.2.2.1, ((@I.add .i64 x0.1.2.2.2.1 (I.of .i64 1)), ())))), (x0.2.1, ()))))
     (.done (none)))
    (.done (some (((I.of .i64 (-1)), ()), ()))))
 K1 ((a, (((), ()), ((I.ofNat .i64 (@lenL S_api_Poster a)), ((I.of .i64 0), ())))), (b, ()))
theorem poster_Find_k_eq : poster_Find = poster_Find_k := by
  funext x
  unfold poster_Find poster_Find_k
  rw [K0_eq]
  all_goals kernel_rfl
noncomputable def slices_Clone___api_Poster_api_Poster__k (x : (⟨[.pl (.sl Y_api_Poster)], []⟩ : Tm).D) : Option (⟨[.whole 0], [.row Y_api_Poster]⟩ : Tm).D :=
 let a : List S_api_Poster := x.1.1
 brn (fitsLen (lenL a)) (some ((), (a, ()))) none
theorem slices_Clone___api_Poster_api_Poster__k_eq : slices_Clone___api_Poster_api_Poster_ = slices_Clone___api_Poster_api_Poster__k := by
  funext x
  obtain ⟨⟨a, ⟨⟩⟩, ⟨⟩⟩ := x
  cases a with
  | nil => show both _ _ _ = _; exact both_eq rfl
  | cons p l => rfl
noncomputable def poster_Add_k (x : (⟨[.pl (.sl Y_api_Poster), .pl (.int .u64)], []⟩ : Tm).D) : Option (⟨[.pl (.sl Y_api_Poster), .pl (.int .i64)], []⟩ : Tm).D :=
 let a : (List S_api_Poster) := x.1.1
 let b : (I .u64) := x.1.2.1
 jn (fun (x0 : (((List S_api_Poster) × ((I .u64) × Unit)) × Unit)) =>
   jn (fun (x1 : (((List S_api_Poster) × ((I .u64) × ((I .i64) × Unit))) × Unit)) =>
     optF (none) (slices_Clone___api_Poster_api_Poster__k ((x1.1.1, ()), ())) fun y2 =>
     optF (none) (insertF ((x1.1.2.2.1, ()), (y2.2.1, (((x1.1.2.1, (Z_U, (Z_U, (Z_U, (Z_U, ((I.of .u64 0), ())))))) :: []), ())))) fun y3 =>
     some ((y3.2.1, ((I.of .i64 0), ())), ())) fun j1 =>
   iter (none) (fun x2 =>
     brn (@I.ltb .i64 x2.1.2.2.1 (I.ofNat .i64 (@lenL S_api_Poster x2.1.1)))
      (brn (@inB .i64 x2.1.2.2.1 (@lenL S_api_Poster x2.1.1))
       (brn (@I.ltb .u64 (@rdL S_api_Poster Z_S_api_Poster x2.1.1 (@I.nat .i64 x2.1.2.2.1)).1 x2.1.2.1)
        (.again ((x2.1.1, (x2.1.2.1, ((@I.add .i64 x2.1.2.2.1 (I.of .i64 1)), ()))), ()))
        (.done (j1 ((x2.1.1, (x2.1.2.1, (x2.1.2.2.1, ()))), ()))))
       (.done (none)))
      (.done (j1 ((x2.1.1, (x2.1.2.1, (x2.1.2.2.1, ()))), ()))))
   K1 ((x0.1.1, (x0.1.2.1, ((I.of .i64 0), ()))), ())) fun j0 =>
 jn (fun (x1 : (((List S_api_Poster) × ((I .u64) × (Bool × Unit))) × Unit)) =>
   brn x1.1.2.2.1
    (some (([], ((I.of .i64 2), ())), ()))
    (optF (none) (poster_Find_k ((x1.1.1, (x1.1.2.1, ())), ())) fun y2 =>
    brn (@I.leb .i64 (I.of .i64 0) y2.1.1)
     (some (([], ((I.of .i64 9), ())), ()))
     (brn (@I.eqb .i64 (I.ofNat .i64 (@lenL S_api_Poster x1.1.1)) (I.of .i64 64))
      (some (([], ((I.of .i64 7), ())), ()))
      (j0 ((x1.1.1, (x1.1.2.1, ())), ()))))) fun j1 =>
 optF (none) (poster_Valid_k ((a, ()), ())) fun y2 =>
 brn (bnot y2.1.1)
  (j1 ((a, (b, (true, ()))), ()))
  (j1 ((a, (b, ((@I.eqb .u64 b (I.of .u64 0)), ()))), ()))
theorem poster_Add_k_eq : poster_Add = poster_Add_k := by
  funext x
  unfold poster_Add poster_Add_k
  rw [K0_eq, poster_Find_k_eq, poster_Valid_k_eq, slices_Clone___api_Poster_api_Poster__k_eq]
  all_goals kernel_rfl
noncomputable def pricer_AddPoster_k (x : (⟨[.pl Y_api_Pricer, .pl (.int .u64)], []⟩ : Tm).D) : Option (⟨[.pl Y_api_Pricer, .pl (.int .i64)], []⟩ : Tm).D :=
 let a : S_api_Pricer := x.1.1
 let b : (I .u64) := x.1.2.1
 optF (none) (pricer_Valid_k ((a, ()), ())) fun y0 =>
 brn (bnot y0.1.1)
  (some (((Z_U, ((I.of .u64 0), ((I.of .u64 0), ((I.of .u64 0), (Z_S_api_Int256, ([], ())))))), ((I.of .i64 2), ())), ()))
  (optF (none) (poster_Add_k ((a.2.2.2.2.2.1, (b, ())), ())) fun y1 =>
  brn (@I.neb .i64 y1.1.2.1 (I.of .i64 0))
   (some (((Z_U, ((I.of .u64 0), ((I.of .u64 0), ((I.of .u64 0), (Z_S_api_Int256, ([], ())))))), (y1.1.2.1, ())), ()))
   (some (((a.1, (a.2.1, (a.2.2.1, (a.2.2.2.1, (a.2.2.2.2.1, (y1.1.1, a.2.2.2.2.2.2)))))), ((I.of .i64 0), ())), ())))
theorem pricer_AddPoster_k_eq : pricer_AddPoster = pricer_AddPoster_k := by
  funext x
  unfold pricer_AddPoster pricer_AddPoster_k
  rw [pricer_Valid_k_eq, poster_Add_k_eq]
  all_goals kernel_rfl
noncomputable def uint256_BitLen_k (x : (⟨[.pl u256], []⟩ : Tm).D) : Option (⟨[.pl (.int .i64)], []⟩ : Tm).D :=
 let a : U := x.1.1
 iter (none) (fun x0 =>
   brn (@I.leb .i64 (I.of .i64 0) x0.1.1)
    (brn (@inB .i64 x0.1.1 4)
     (brn (@I.neb .u64 (@Arr.sel (I .u64) (I.of .u64 0) 4 x0.2.1 (@I.nat .i64 x0.1.1)) (I.of .u64 0))
      (brn (@inB .i64 x0.1.1 4)
       (optF (.done (none)) (math_bits_Len64 (((@Arr.sel (I .u64) (I.of .u64 0) 4 x0.2.1 (@I.nat .i64 x0.1.1)), ()), ())) fun y1 =>
       .done (some (((@I.add .i64 (@I.mul .i64 (I.of .i64 64) x0.1.1) y1.1.1), ()), ())))
       (.done (none)))
      (.again (((@I.sub .i64 x0.1.1 (I.of .i64 1)), ()), (x0.2.1, ()))))
     (.done (none)))
    (.done (some (((I.of .i64 0), ()), ()))))
 K1 (((I.of .i64 3), ()), (a, ()))
theorem uint256_BitLen_k_eq : uint256_BitLen = uint256_BitLen_k := by
  funext x
  unfold uint256_BitLen uint256_BitLen_k
  rw [K0_eq]
  all_goals kernel_rfl
noncomputable def params_FirstInvalid_k (x : (⟨[.pl Y_api_Params], []⟩ : Tm).D) : Option (⟨[.pl (.int .i64)], []⟩ : Tm).D :=
 let a : S_api_Params := x.1.1
 iter (none) (fun x0 =>
   brn (@I.leb .i64 x0.1.1 (I.of .i64 12))
    (optF (.done (none)) (params_Get ((x0.2.1, (x0.1.1, ())), ())) fun y1 =>
    optF (.done (none)) (params_bounds ((x0.2.1, (x0.1.1, ())), ())) fun y2 =>
    optF (.done (none)) (uint256_FromUint64 ((y2.1.1, ()), ())) fun y3 =>
    optF (.done (none)) (uint256_Cmp ((y1.1.1, (y3.1.1, ())), ())) fun y4 =>
    brn (@I.ltb .i64 y4.1.1 (I.of .i64 0))
     (.done (some ((x0.1.1, ()), ())))
     (optF (.done (none)) (uint256_FromUint64 ((y2.1.2.1, ()), ())) fun y5 =>
     optF (.done (none)) (uint256_Cmp ((y1.1.1, (y5.1.1, ())), ())) fun y6 =>
     brn (@I.ltb .i64 (I.of .i64 0) y6.1.1)
      (.done (some ((x0.1.1, ()), ())))
      (.again (((@I.add .i64 x0.1.1 (I.of .i64 1)), ()), (x0.2.1, ())))))
    (.done (some (((I.of .i64 0), ()), ()))))
 K1 (((I.of .i64 1), ()), (a, ()))
theorem params_FirstInvalid_k_eq : params_FirstInvalid = params_FirstInvalid_k := by
  funext x
  unfold params_FirstInvalid params_FirstInvalid_k
  rw [K0_eq]
  all_goals kernel_rfl
noncomputable def params_Valid_k (x : (⟨[.pl Y_api_Params], []⟩ : Tm).D) : Option (⟨[.pl .bool], []⟩ : Tm).D :=
 let a : S_api_Params := x.1.1
 optF (none) (params_FirstInvalid_k ((a, ()), ())) fun y0 =>
 some (((@I.eqb .i64 y0.1.1 (I.of .i64 0)), ()), ())
theorem params_Valid_k_eq : params_Valid = params_Valid_k := by
  funext x
  unfold params_Valid params_Valid_k
  rw [params_FirstInvalid_k_eq]
  all_goals kernel_rfl
noncomputable def pricer_checkReport_k (x : (⟨[.pl Y_api_Pricer, .pl Y_api_Params, .pl Y_api_Report, .pl (.int .u64)], []⟩ : Tm).D) : Option (⟨[.pl (.int .i64)], []⟩ : Tm).D :=
 let a : S_api_Pricer := x.1.1
 let b : S_api_Params := x.1.2.1
 let c : S_api_Report := x.1.2.2.1
 let d : (I .u64) := x.1.2.2.2.1
 optF (none) (pricer_Valid_k ((a, ()), ())) fun y0 =>
 brn (bnot y0.1.1)
  (some (((I.of .i64 2), ()), ()))
  (optF (none) (params_Valid_k ((b, ()), ())) fun y1 =>
  brn (bnot y1.1.1)
   (some (((I.of .i64 15), ()), ()))
   (optF (none) (poster_Find_k ((a.2.2.2.2.2.1, (c.1, ())), ())) fun y2 =>
   brn (@I.ltb .i64 y2.1.1 (I.of .i64 0))
    (some (((I.of .i64 8), ()), ()))
    (jn (fun (x3 : ((Bool × Unit) × (S_api_Pricer × (S_api_Report × Unit)))) =>
      brn x3.1.1
       (some (((I.of .i64 14), ()), ()))
       (optF (none) (uint256_BitLen_k ((x3.2.2.1.2.2.1, ()), ())) fun y4 =>
       brn (@I.ltb .i64 (I.of .i64 128) y4.1.1)
        (some (((I.of .i64 2), ()), ()))
        (brn (@I.eqb .u64 x3.2.1.2.2.2.1 (I.of .u64 18446744073709551615))
         (some (((I.of .i64 4), ()), ()))
         (some (((I.of .i64 0), ()), ()))))) fun j3 =>
    brn (@I.ltb .u64 c.2.1 a.2.2.1)
     (j3 ((true, ()), (a, (c, ()))))
     (j3 (((@I.ltb .u64 d c.2.1), ()), (a, (c, ())))))))
theorem pricer_checkReport_k_eq : pricer_checkReport = pricer_checkReport_k := by
  funext x
  unfold pricer_checkReport pricer_checkReport_k
  rw [uint256_BitLen_k_eq, poster_Find_k_eq, pricer_Valid_k_eq, params_Valid_k_eq]
  all_goals kernel_rfl
noncomputable def uint256_Mul_k (x : (⟨[.pl u256, .pl u256], []⟩ : Tm).D) : Option (⟨[.pl u256, .pl (.int .i64)], []⟩ : Tm).D :=
 let a : U := x.1.1
 let b : U := x.1.2.1
 iter (none) (fun x0 =>
   brn (@I.ltb .i64 x0.1.1 (I.of .i64 4))
    (iter (.done (none)) (fun x1 =>
      brn (@I.ltb .i64 x1.1.2.2.2.1 (I.of .i64 4))
       (brn (@inB .i64 x1.1.1 4)
        (brn (@inB .i64 x1.1.2.2.2.1 4)
         (optF (.done (.done (none))) (math_bits_Mul64 (((@Arr.sel (I .u64) (I.of .u64 0) 4 x1.2.1 (@I.nat .i64 x1.1.1)), ((@Arr.sel (I .u64) (I.of .u64 0) 4 x1.2.2.1 (@I.nat .i64 x1.1.2.2.2.1)), ())), ())) fun y2 =>
         brn (@I.ltb .i64 (I.of .i64 3) (@I.add .i64 x1.1.1 x1.1.2.2.2.1))
          (brn (@I.neb .u64 (@I.or .u64 y2.1.1 y2.1.2.1) (I.of .u64 0))
           (.done (.done (some ((Z_U, ((I.of .i64 4), ())), ()))))
           (.again ((x1.1.1, (x1.1.2.1, (x1.1.2.2.1, ((@I.add .i64 x1.1.2.2.2.1 (I.of .i64 1)), ())))), (x1.2.1, (x1.2.2.1, (x1.2.2.2.1, (x1.2.2.2.2.1, ())))))))
          (optF (.done (.done (none))) (add64F ((y2.1.2.1, (x1.1.2.1, ((I.of .u64 0), ()))), ())) fun y3 =>
          brn (@inB .i64 (@I.add .i64 x1.1.1 x1.1.2.2.2.1) 4)
           (optF (.done (.done (none))) (add64F (((@Arr.sel (I .u64) (I.of .u64 0) 4 x1.2.2.2.2.1 (@I.nat .i64 (@I.add .i64 x1.1.1 x1.1.2.2.2.1))), (y3.1.1, ((I.of .u64 0), ()))), ())) fun y4 =>
           brn (@inB .i64 (@I.add .i64 x1.1.1 x1.1.2.2.2.1) 4)
            (.again ((x1.1.1, ((@I.add .u64 (@I.add .u64 y2.1.1 y3.1.2.1) y4.1.2.1), (x1.1.2.2.1, ((@I.add .i64 x1.1.2.2.2.1 (I.of .i64 1)), ())))), (x1.2.1, (x1.2.2.1, (x1.2.2.2.1, ((@Arr.upd (I .u64) 4 x1.2.2.2.2.1 (@I.nat .i64 (@I.add .i64 x1.1.1 x1.1.2.2.2.1)) y4.1.1), ()))))))
            (.done (.done (none))))
           (.done (.done (none)))))
         (.done (.done (none))))
        (.done (.done (none))))
       (.done (brn (@I.neb .u64 x1.1.2.1 (I.of .u64 0))
        (.done (some ((Z_U, ((I.of .i64 4), ())), ())))
        (.again (((@I.add .i64 x1.1.2.2.1 (I.of .i64 1)), ()), (x1.2.1, (x1.2.2.1, (x1.2.2.2.1, (x1.2.2.2.2.1, ())))))))))
    K1 ((x0.1.1, ((I.of .u64 0), (x0.1.1, ((I.of .i64 0), ())))), (x0.2.1, (x0.2.2.1, (x0.2.2.2.1, (x0.2.2.2.2.1, ()))))))
    (.done (some ((x0.2.2.2.2.1, ((I.of .i64 0), ())), ()))))
 K1 (((I.of .i64 0), ()), (a, (b, (Z_U, (Z_U, ())))))
theorem uint256_Mul_k_eq : uint256_Mul = uint256_Mul_k := by
  funext x
  unfold uint256_Mul uint256_Mul_k
  rw [K0_eq]
  all_goals kernel_rfl
noncomputable def muldiv_Mul_k (x : (⟨[.pl u256, .pl u256], []⟩ : Tm).D) : Option (⟨[.pl u256, .pl u256], []⟩ : Tm).D :=
 let a : U := x.1.1
 let b : U := x.1.2.1
 iter (none) (fun x0 =>
   brn (@I.ltb .i64 x0.1.1 (I.of .i64 4))
    (iter (.done (none)) (fun x1 =>
      brn (@I.ltb .i64 x1.1.2.2.2.1 (I.of .i64 4))
       (brn (@inB .i64 x1.1.1 4)
        (brn (@inB .i64 x1.1.2.2.2.1 4)
         (optF (.done (.done (none))) (math_bits_Mul64 (((@Arr.sel (I .u64) (I.of .u64 0) 4 x1.2.1 (@I.nat .i64 x1.1.1)), ((@Arr.sel (I .u64) (I.of .u64 0) 4 x1.2.2.1 (@I.nat .i64 x1.1.2.2.2.1)), ())), ())) fun y2 =>
         optF (.done (.done (none))) (add64F ((y2.1.2.1, (x1.1.2.1, ((I.of .u64 0), ()))), ())) fun y3 =>
         brn (@inB .i64 (@I.add .i64 x1.1.1 x1.1.2.2.2.1) 8)
          (optF (.done (.done (none))) (add64F (((@Arr.sel (I .u64) (I.of .u64 0) 8 x1.2.2.2.2.2.1 (@I.nat .i64 (@I.add .i64 x1.1.1 x1.1.2.2.2.1))), (y3.1.1, ((I.of .u64 0), ()))), ())) fun y4 =>
          brn (@inB .i64 (@I.add .i64 x1.1.1 x1.1.2.2.2.1) 8)
           (.again ((x1.1.1, ((@I.add .u64 (@I.add .u64 y2.1.1 y3.1.2.1) y4.1.2.1), (x1.1.2.2.1, ((@I.add .i64 x1.1.2.2.2.1 (I.of .i64 1)), ())))), (x1.2.1, (x1.2.2.1, (x1.2.2.2.1, (x1.2.2.2.2.1, ((@Arr.upd (I .u64) 8 x1.2.2.2.2.2.1 (@I.nat .i64 (@I.add .i64 x1.1.1 x1.1.2.2.2.1)) y4.1.1), ())))))))
           (.done (.done (none))))
          (.done (.done (none))))
         (.done (.done (none))))
        (.done (.done (none))))
       (.done (brn (@inB .i64 (@I.add .i64 x1.1.1 (I.of .i64 4)) 8)
        (.again (((@I.add .i64 x1.1.2.2.1 (I.of .i64 1)), ()), (x1.2.1, (x1.2.2.1, (x1.2.2.2.1, (x1.2.2.2.2.1, ((@Arr.upd (I .u64) 8 x1.2.2.2.2.2.1 (@I.nat .i64 (@I.add .i64 x1.1.1 (I.of .i64 4))) x1.1.2.1), ())))))))
        (.done (none)))))
    K1 ((x0.1.1, ((I.of .u64 0), (x0.1.1, ((I.of .i64 0), ())))), (x0.2.1, (x0.2.2.1, (x0.2.2.2.1, (x0.2.2.2.2.1, (x0.2.2.2.2.2.1, ())))))))
    (.done (some (((@Arr.ofList (I .u64) (I.of .u64 0) 4 (@subL (I .u64) (@Arr.list (I .u64) 8 x0.2.2.2.2.2.1) 0 4)), ((@Arr.ofList (I .u64) (I.of .u64 0) 4 (@subL (I .u64) (@Arr.list (I .u64) 8 x0.2.2.2.2.2.1) 4 4)), ())), ()))))
 K1 (((I.of .i64 0), ()), (a, (b, (Z_U, (Z_U, (((I.of .u64 0), ((I.of .u64 0), ((I.of .u64 0), ((I.of .u64 0), Z_U)))), ()))))))
theorem muldiv_Mul_k_eq : muldiv_Mul = muldiv_Mul_k := by
  funext x
  unfold muldiv_Mul muldiv_Mul_k
  rw [K0_eq]
  all_goals kernel_rfl
noncomputable def muldiv_shiftLeft_k (x : (⟨[.pl u256, .pl (.int .u64)], []⟩ : Tm).D) : Option (⟨[.pl u256, .pl (.int .u64)], []⟩ : Tm).D :=
 let a : U := x.1.1
 let b : (I .u64) := x.1.2.1
 iter (none) (fun x0 =>
   brn (@I.ltb .i64 (I.of .i64 0) x0.1.2.2.1)
    (brn (@inB .i64 x0.1.2.2.1 4)
     (brn (@inB .i64 (@I.sub .i64 x0.1.2.2.1 (I.of .i64 1)) 4)
      (brn (@inB .i64 x0.1.2.2.1 4)
       (.again ((x0.1.1, (x0.1.2.1, ((@I.sub .i64 x0.1.2.2.1 (I.of .i64 1)), ()))), ((@Arr.upd (I .u64) 4 x0.2.1 (@I.nat .i64 x0.1.2.2.1) (@I.or .u64 (@I.shl .u64 .u64 (@Arr.sel (I .u64) (I.of .u64 0) 4 x0.2.1 (@I.nat .i64 x0.1.2.2.1)) (I.of .u64 1)) (@I.shr .u64 .u64 (@Arr.sel (I .u64) (I.of .u64 0) 4 x0.2.1 (@I.nat .i64 (@I.sub .i64 x0.1.2.2.1 (I.of .i64 1)))) (I.of .u64 63)))), (x0.2.2.1, ()))))
       (.done (none)))
      (.done (none)))
     (.done (none)))
    (.done (some ((((@I.or .u64 (@I.shl .u64 .u64 x0.2.1.1 (I.of .u64 1)) x0.1.1), (x0.2.1.2.1, (x0.2.1.2.2.1, (x0.2.1.2.2.2.1, ())))), (x0.1.2.1, ())), ()))))
 K1 ((b, ((@I.shr .u64 .u64 a.2.2.2.1 (I.of .u64 63)), ((I.of .i64 3), ()))), (a, (Z_U, ())))
theorem muldiv_shiftLeft_k_eq : muldiv_shiftLeft = muldiv_shiftLeft_k := by
  funext x
  unfold muldiv_shiftLeft muldiv_shiftLeft_k
  rw [K0_eq]
  all_goals kernel_rfl
noncomputable def muldiv_subWrap_k (x : (⟨[.pl u256, .pl u256], []⟩ : Tm).D) : Option (⟨[.pl u256], []⟩ : Tm).D :=
 let a : U := x.1.1
 let b : U := x.1.2.1
 iter (none) (fun x0 =>
   brn (@I.ltb .i64 x0.1.2.1 (I.of .i64 4))
    (brn (@inB .i64 x0.1.2.1 4)
     (brn (@inB .i64 x0.1.2.1 4)
      (optF (.done (none)) (sub64F (((@Arr.sel (I .u64) (I.of .u64 0) 4 x0.2.1 (@I.nat .i64 x0.1.2.1)), ((@Arr.sel (I .u64) (I.of .u64 0) 4 x0.2.2.1 (@I.nat .i64 x0.1.2.1)), (x0.1.1, ()))), ())) fun y1 =>
      brn (@inB .i64 x0.1.2.1 4)
       (.again ((y1.1.2.1, ((@I.add .i64 x0.1.2.1 (I.of .i64 1)), ())), ((@Arr.upd (I .u64) 4 x0.2.1 (@I.nat .i64 x0.1.2.1) y1.1.1), (x0.2.2.1, (x0.2.2.2.1, ())))))
       (.done (none)))
      (.done (none)))
     (.done (none)))
    (.done (some ((x0.2.1, ()), ()))))
 K1 (((I.of .u64 0), ((I.of .i64 0), ())), (a, (b, (Z_U, ()))))
theorem muldiv_subWrap_k_eq : muldiv_subWrap = muldiv_subWrap_k := by
  funext x
  unfold muldiv_subWrap muldiv_subWrap_k
  rw [K0_eq]
  all_goals kernel_rfl
noncomputable def muldiv_Div512_k (x : (⟨[.pl u256, .pl u256, .pl u256], []⟩ : Tm).D) : Option (⟨[.pl u256, .pl u256, .pl (.int .i64)], []⟩ : Tm).D :=
 let a : U := x.1.1
 let b : U := x.1.2.1
 let c : U := x.1.2.2.1
 brn (Ty.eqb u256 c Z_U)
  (some ((Z_U, (Z_U, ((I.of .i64 5), ()))), ()))
  (optF (none) (uint256_Cmp ((b, (c, ())), ())) fun y0 =>
  brn (@I.leb .i64 (I.of .i64 0) y0.1.1)
   (some ((Z_U, (Z_U, ((I.of .i64 4), ()))), ()))
   (iter (none) (fun x1 =>
     brn (@I.leb .i64 (I.of .i64 0) x1.1.1)
      (brn (@inB .i64 (@I.quo .i64 x1.1.1 (I.of .i64 64)) 4)
       (brn (@I.nn .i64 (@I.rem .i64 x1.1.1 (I.of .i64 64)))
        (optF (.done (none)) (muldiv_shiftLeft_k ((x1.2.2.2.2.1, ((@I.and .u64 (@I.shr .u64 .i64 (@Arr.sel (I .u64) (I.of .u64 0) 4 x1.2.1 (@I.nat .i64 (@I.quo .i64 x1.1.1 (I.of .i64 64)))) (@I.rem .i64 x1.1.1 (I.of .i64 64))) (I.of .u64 1)), ())), ())) fun y2 =>
        jn (fun (x3 : (((I .i64) × (Bool × Unit)) × (U × (U × (U × (U × Unit)))))) =>
          brn x3.1.2.1
           (optF (.done (none)) (muldiv_subWrap_k ((x3.2.2.2.2.1, (x3.2.2.1, ())), ())) fun y4 =>
           brn (@inB .i64 (@I.quo .i64 x3.1.1 (I.of .i64 64)) 4)
            (brn (@I.nn .i64 (@I.rem .i64 x3.1.1 (I.of .i64 64)))
             (brn (@inB .i64 (@I.quo .i64 x3.1.1 (I.of .i64 64)) 4)
              (.again (((@I.sub .i64 x3.1.1 (I.of .i64 1)), ()), (x3.2.1, (x3.2.2.1, ((@Arr.upd (I .u64) 4 x3.2.2.2.1 (@I.nat .i64 (@I.quo .i64 x3.1.1 (I.of .i64 64))) (@I.or .u64 (@Arr.sel (I .u64) (I.of .u64 0) 4 x3.2.2.2.1 (@I.nat .i64 (@I.quo .i64 x3.1.1 (I.of .i64 64)))) (@I.shl .u64 .i64 (I.of .u64 1) (@I.rem .i64 x3.1.1 (I.of .i64 64))))), (y4.1.1, ()))))))
              (.done (none)))
             (.done (none)))
            (.done (none)))
           (.again (((@I.sub .i64 x3.1.1 (I.of .i64 1)), ()), (x3.2.1, (x3.2.2.1, (x3.2.2.2.1, (x3.2.2.2.2.1, ()))))))) fun j3 =>
        brn (@I.eqb .u64 y2.1.2.1 (I.of .u64 1))
         (j3 ((x1.1.1, (true, ())), (x1.2.1, (x1.2.2.1, (x1.2.2.2.1, (y2.1.1, ()))))))
         (optF (.done (none)) (uint256_Cmp ((y2.1.1, (x1.2.2.1, ())), ())) fun y4 =>
         j3 ((x1.1.1, ((@I.leb .i64 (I.of .i64 0) y4.1.1), ())), (x1.2.1, (x1.2.2.1, (x1.2.2.2.1, (y2.1.1, ())))))))
        (.done (none)))
       (.done (none)))
      (.done (some ((x1.2.2.2.1, (x1.2.2.2.2.1, ((I.of .i64 0), ()))), ()))))
   K1 (((I.of .i64 255), ()), (a, (c, (Z_U, (b, ())))))))
theorem muldiv_Div512_k_eq : muldiv_Div512 = muldiv_Div512_k := by
  funext x
  unfold muldiv_Div512 muldiv_Div512_k
  rw [K0_eq, muldiv_shiftLeft_k_eq, muldiv_subWrap_k_eq]
  all_goals kernel_rfl
noncomputable def muldiv_MulDivFloor_k (x : (⟨[.pl u256, .pl u256, .pl u256], []⟩ : Tm).D) : Option (⟨[.pl u256, .pl (.int .i64)], []⟩ : Tm).D :=
 let a : U := x.1.1
 let b : U := x.1.2.1
 let c : U := x.1.2.2.1
 optF (none) (muldiv_Mul_k ((a, (b, ())), ())) fun y0 =>
 optF (none) (muldiv_Div512_k ((y0.1.1, (y0.1.2.1, (c, ()))), ())) fun y1 =>
 some ((y1.1.1, (y1.1.2.2.1, ())), ())
theorem muldiv_MulDivFloor_k_eq : muldiv_MulDivFloor = muldiv_MulDivFloor_k := by
  funext x
  unfold muldiv_MulDivFloor muldiv_MulDivFloor_k
  rw [muldiv_Mul_k_eq, muldiv_Div512_k_eq]
  all_goals kernel_rfl
noncomputable def alloc_Allocate_k (x : (⟨[.pl (.int .u64), .pl (.int .u64), .pl (.int .u64), .pl (.int .u64)], []⟩ : Tm).D) : Option (⟨[.pl (.int .u64), .pl (.int .i64)], []⟩ : Tm).D :=
 let a : (I .u64) := x.1.1
 let b : (I .u64) := x.1.2.1
 let c : (I .u64) := x.1.2.2.1
 let d : (I .u64) := x.1.2.2.2.1
 jn (fun (x0 : (U × Unit)) =>
   optF (none) (uint256_FromUint64 ((x0.1.1, ()), ())) fun y1 =>
   optF (none) (uint256_FromUint64 (((@I.sub .u64 x0.1.2.2.1 x0.1.2.1), ()), ())) fun y2 =>
   optF (none) (uint256_FromUint64 (((@I.sub .u64 x0.1.2.2.2.1 x0.1.2.1), ()), ())) fun y3 =>
   optF (none) (muldiv_MulDivFloor_k ((y1.1.1, (y2.1.1, (y3.1.1, ()))), ())) fun y4 =>
   some ((y4.1.1.1, (y4.1.2.1, ())), ())) fun j0 =>
 jn (fun (x1 : (((I .u64) × ((I .u64) × ((I .u64) × ((I .u64) × (Bool × Unit))))) × Unit)) =>
   brn x1.1.2.2.2.2.1
    (some (((I.of .u64 0), ((I.of .i64 14), ())), ()))
    (brn (@I.eqb .u64 x1.1.2.2.2.1 x1.1.2.1)
     (some ((x1.1.1, ((I.of .i64 0), ())), ()))
     (j0 ((x1.1.1, (x1.1.2.1, (x1.1.2.2.1, (x1.1.2.2.2.1, ())))), ())))) fun j1 =>
 brn (@I.ltb .u64 c b)
  (j1 ((a, (b, (c, (d, (true, ()))))), ()))
  (j1 ((a, (b, (c, (d, ((@I.ltb .u64 d c), ()))))), ()))
theorem alloc_Allocate_k_eq : alloc_Allocate = alloc_Allocate_k := by
  funext x
  unfold alloc_Allocate alloc_Allocate_k
  rw [muldiv_MulDivFloor_k_eq]
  all_goals kernel_rfl
noncomputable def pricer_allocate_k (x : (⟨[.pl Y_api_Pricer, .pl Y_api_Params, .pl Y_api_Report, .pl (.int .u64)], []⟩ : Tm).D) : Option (⟨[.pl Y_pricer_Outcome, .pl (.int .i64)], []⟩ : Tm).D :=
 let a : S_api_Pricer := x.1.1
 let b : S_api_Params := x.1.2.1
 let c : S_api_Report := x.1.2.2.1
 let d : (I .u64) := x.1.2.2.2.1
 optF (none) (alloc_Allocate_k ((a.2.1, (a.2.2.1, (c.2.1, (d, ())))), ())) fun y0 =>
 brn (@I.neb .i64 y0.1.2.1 (I.of .i64 0))
  (some ((((I.of .u64 0), (Z_U, ([], ()))), (y0.1.2.1, ())), ()))
  (optF (none) (uint256_FromUint64 ((y0.1.1, ()), ())) fun y1 =>
  optF (none) (uint256_Mul_k ((b.2.2.2.2.2.2.2.1, (y1.1.1, ())), ())) fun y2 =>
  brn (@I.neb .i64 y2.1.2.1 (I.of .i64 0))
   (some ((((I.of .u64 0), (Z_U, ([], ()))), (y2.1.2.1, ())), ()))
   (some (((y0.1.1, (y2.1.1, ([], ()))), ((I.of .i64 0), ())), ())))
theorem pricer_allocate_k_eq : pricer_allocate = pricer_allocate_k := by
  funext x
  unfold pricer_allocate pricer_allocate_k
  rw [uint256_Mul_k_eq, alloc_Allocate_k_eq]
  all_goals kernel_rfl
noncomputable def poster_Accrue_k (x : (⟨[.pl (.sl Y_api_Poster), .pl (.int .u64), .pl u256, .pl u256, .pl (.int .u64)], []⟩ : Tm).D) : Option (⟨[.pl (.sl Y_api_Poster), .pl (.int .i64)], []⟩ : Tm).D :=
 let a : (List S_api_Poster) := x.1.1
 let b : (I .u64) := x.1.2.1
 let c : U := x.1.2.2.1
 let d : U := x.1.2.2.2.1
 let e : (I .u64) := x.1.2.2.2.2.1
 optF (none) (poster_Find_k ((a, (b, ())), ())) fun y0 =>
 jn (fun (x1 : (((List S_api_Poster) × ((I .u64) × ((I .i64) × Unit))) × (U × (U × Unit)))) =>
   brn (@inB .i64 x1.1.2.2.1 (@lenL S_api_Poster x1.1.1))
    (optF (none) (uint256_Add ((x1.2.1, (x1.2.2.1, ())), ())) fun y2 =>
    optF (none) (uint256_Add (((@rdL S_api_Poster Z_S_api_Poster x1.1.1 (@I.nat .i64 x1.1.2.2.1)).2.1, (y2.1.1, ())), ())) fun y3 =>
    optF (none) (uint256_Add (((@rdL S_api_Poster Z_S_api_Poster x1.1.1 (@I.nat .i64 x1.1.2.2.1)).2.2.1, (x1.2.1, ())), ())) fun y4 =>
    optF (none) (uint256_Add (((@rdL S_api_Poster Z_S_api_Poster x1.1.1 (@I.nat .i64 x1.1.2.2.1)).2.2.2.1, (x1.2.2.1, ())), ())) fun y5 =>
    jn (fun (x6 : (((List S_api_Poster) × ((I .u64) × ((I .i64) × Unit))) × (S_api_Poster × (U × (U × (U × Unit)))))) =>
      jn (fun (x7 : (((List S_api_Poster) × ((I .i64) × Unit)) × (S_api_Poster × (U × (U × (U × Unit)))))) =>
        optF (none) (slices_Clone___api_Poster_api_Poster__k ((x7.1.1, ()), ())) fun y8 =>
        brn (@inB .i64 x7.1.2.1 (@lenL S_api_Poster y8.2.1))
         (some (((@setL S_api_Poster y8.2.1 (@I.nat .i64 x7.1.2.1) (x7.2.1.1, (x7.2.2.1, (x7.2.2.2.1, (x7.2.2.2.2.1, x7.2.1.2.2.2.2))))), ((I.of .i64 0), ())), ()))
         (none)) fun j7 =>
      optF (none) (poster_isZero ((x6.2.1.2.1, ()), ())) fun y8 =>
      brn y8.1.1
       (optF (none) (poster_isZero ((x6.2.2.1, ()), ())) fun y9 =>
       brn (bnot y9.1.1)
        (j7 ((x6.1.1, (x6.1.2.2.1, ())), ((x6.2.1.1, (x6.2.1.2.1, (x6.2.1.2.2.1, (x6.2.1.2.2.2.1, (x6.2.1.2.2.2.2.1, (x6.1.2.1, x6.2.1.2.2.2.2.2.2)))))), (x6.2.2.1, (x6.2.2.2.1, (x6.2.2.2.2.1, ()))))))
        (j7 ((x6.1.1, (x6.1.2.2.1, ())), (x6.2.1, (x6.2.2.1, (x6.2.2.2.1, (x6.2.2.2.2.1, ())))))))
       (j7 ((x6.1.1, (x6.1.2.2.1, ())), (x6.2.1, (x6.2.2.1, (x6.2.2.2.1, (x6.2.2.2.2.1, ()))))))) fun j6 =>
    brn (@I.neb .i64 y2.1.2.1 (I.of .i64 0))
     (some (([], ((I.of .i64 4), ())), ()))
     (brn (@I.neb .i64 y3.1.2.1 (I.of .i64 0))
      (some (([], ((I.of .i64 4), ())), ()))
      (brn (@I.neb .i64 y4.1.2.1 (I.of .i64 0))
       (some (([], ((I.of .i64 4), ())), ()))
       (brn (@I.neb .i64 y5.1.2.1 (I.of .i64 0))
        (some (([], ((I.of .i64 4), ())), ()))
        (j6 ((x1.1.1, (x1.1.2.1, (x1.1.2.2.1, ()))), ((@rdL S_api_Poster Z_S_api_Poster x1.1.1 (@I.nat .i64 x1.1.2.2.1)), (y3.1.1, (y4.1.1, (y5.1.1, ()))))))))))
    (none)) fun j1 =>
 jn (fun (x2 : (((List S_api_Poster) × ((I .u64) × ((I .i64) × (Bool × Unit)))) × (U × (U × Unit)))) =>
   brn x2.1.2.2.2.1
    (some (([], ((I.of .i64 2), ())), ()))
    (brn (@I.ltb .i64 x2.1.2.2.1 (I.of .i64 0))
     (some (([], ((I.of .i64 8), ())), ()))
     (j1 ((x2.1.1, (x2.1.2.1, (x2.1.2.2.1, ()))), (x2.2.1, (x2.2.2.1, ())))))) fun j2 =>
 optF (none) (poster_Valid_k ((a, ()), ())) fun y3 =>
 brn (bnot y3.1.1)
  (j2 ((a, (e, (y0.1.1, (true, ())))), (c, (d, ()))))
  (j2 ((a, (e, (y0.1.1, ((@I.eqb .u64 e (I.of .u64 0)), ())))), (c, (d, ()))))
theorem poster_Accrue_k_eq : poster_Accrue = poster_Accrue_k := by
  funext x
  unfold poster_Accrue poster_Accrue_k
  rw [poster_Find_k_eq, poster_Valid_k_eq, slices_Clone___api_Poster_api_Poster__k_eq]
  all_goals kernel_rfl
noncomputable def container_heap_Push_k (x : (⟨[.iface 116 (.ptr 0 [.fld 0]), .iface 118 (.pl Y_debtqueue_item)], [.box Y_debtqueue_Queue (.pair (.whole 1) (.pl .nil)), .row Y_debtqueue_item]⟩ : Tm).D) : Option (⟨[], [.box Y_debtqueue_Queue (.pair (.whole 1) (.pl .nil)), .row Y_debtqueue_item]⟩ : Tm).D :=
 let b : S_debtqueue_item := x.1.2.1
 let h0 : (Unit × Unit) := x.2.1
 let h1 : (List S_debtqueue_item) := x.2.2.1
 brn (fitsLen (@lenL S_debtqueue_item (@appL S_debtqueue_item h1 (b :: []))))
  (optF (none) (debtqueue_items_Len (((@appL S_debtqueue_item h1 (b :: [])), ()), ())) fun y0 =>
  iter (none) (fun x1 =>
    brn (@I.eqb .i64 (@I.quo .i64 (@I.sub .i64 x1.1.2.1 (I.of .i64 1)) (I.of .i64 2)) x1.1.2.1)
     (.done (some ((), (((), x1.2.1.2), (x1.2.2.1, ())))))
     (optF (.done (none)) (debtqueue_items_Less ((x1.2.2.1, (x1.1.2.1, ((@I.quo .i64 (@I.sub .i64 x1.1.2.1 (I.of .i64 1)) (I.of .i64 2)), ()))), ())) fun y2 =>
     brn (bnot y2.1.1)
      (.done (some ((), (((), x1.2.1.2), (x1.2.2.1, ())))))
      (brn (@inB .i64 x1.1.2.1 (@lenL S_debtqueue_item x1.2.2.1))
       (brn (@inB .i64 (@I.quo .i64 (@I.sub .i64 x1.1.2.1 (I.of .i64 1)) (I.of .i64 2)) (@lenL S_debtqueue_item x1.2.2.1))
        (brn (@inB .i64 (@I.quo .i64 (@I.sub .i64 x1.1.2.1 (I.of .i64 1)) (I.of .i64 2)) (@lenL S_debtqueue_item x1.2.2.1))
         (brn (@inB .i64 x1.1.2.1 (@lenL S_debtqueue_item (@setL S_debtqueue_item x1.2.2.1 (@I.nat .i64 (@I.quo .i64 (@I.sub .i64 x1.1.2.1 (I.of .i64 1)) (I.of .i64 2))) (@rdL S_debtqueue_item Z_S_debtqueue_item x1.2.2.1 (@I.nat .i64 x1.1.2.1)))))
          (.again (((), ((@I.quo .i64 (@I.sub .i64 x1.1.2.1 (I.of .i64 1)) (I.of .i64 2)), ())), (((), x1.2.1.2), ((@setL S_debtqueue_item (@setL S_debtqueue_item x1.2.2.1 (@I.nat .i64 (@I.quo .i64 (@I.sub .i64 x1.1.2.1 (I.of .i64 1)) (I.of .i64 2))) (@rdL S_debtqueue_item Z_S_debtqueue_item x1.2.2.1 (@I.nat .i64 x1.1.2.1))) (@I.nat .i64 x1.1.2.1) (@rdL S_debtqueue_item Z_S_debtqueue_item x1.2.2.1 (@I.nat .i64 (@I.quo .i64 (@I.sub .i64 x1.1.2.1 (I.of .i64 1)) (I.of .i64 2))))), ()))))
          (.done (none)))
         (.done (none)))
        (.done (none)))
       (.done (none)))))
  K1 (((), ((@I.sub .i64 y0.1.1 (I.of .i64 1)), ())), (((), h0.2), ((@appL S_debtqueue_item h1 (b :: [])), ()))))
  (none)
theorem container_heap_Push_k_eq : container_heap_Push = container_heap_Push_k := by
  funext x
  unfold container_heap_Push container_heap_Push_k
  rw [K0_eq]
  all_goals kernel_rfl
noncomputable def debtqueue_New_k (x : (⟨[.pl (.sl Y_api_Poster)], []⟩ : Tm).D) : Option (⟨[.ptr 0 []], [.box Y_debtqueue_Queue (.pair (.whole 1) (.pl .nil)), .row Y_debtqueue_item]⟩ : Tm).D :=
 let a : (List S_api_Poster) := x.1.1
 iter (none) (fun x0 =>
   brn (@I.ltb .i64 x0.1.2.2.1 x0.1.2.1)
    (brn (@inB .i64 x0.1.2.2.1 (@lenL S_api_Poster x0.1.1))
     (brn (bnot (Ty.eqb u256 (@rdL S_api_Poster Z_S_api_Poster x0.1.1 (@I.nat .i64 x0.1.2.2.1)).2.1 Z_U))
      (optF (.done (none)) (container_heap_Push_k (((), (((@rdL S_api_Poster Z_S_api_Poster x0.1.1 (@I.nat .i64 x0.1.2.2.1)), (x0.1.2.2.1, ())), ())), (((), x0.2.1.2), (x0.2.2.1, ())))) fun y1 =>
      .again ((x0.1.1, (x0.1.2.1, ((@I.add .i64 x0.1.2.2.1 (I.of .i64 1)), ()))), (((), y1.2.1.2), (y1.2.2.1, ()))))
      (.again ((x0.1.1, (x0.1.2.1, ((@I.add .i64 x0.1.2.2.1 (I.of .i64 1)), ()))), (((), x0.2.1.2), (x0.2.2.1, ())))))
     (.done (none)))
    (.done (some ((), (((), x0.2.1.2), (x0.2.2.1, ()))))))
 K1 ((a, ((I.ofNat .i64 (@lenL S_api_Poster a)), ((I.of .i64 0), ()))), (((), ()), ([], ())))
theorem debtqueue_New_k_eq : debtqueue_New = debtqueue_New_k := by
  funext x
  unfold debtqueue_New debtqueue_New_k
  rw [K0_eq, container_heap_Push_k_eq]
  all_goals kernel_rfl
noncomputable def debtqueue_Queue_Pop_k (x : (⟨[.ptr 0 []], [.box Y_debtqueue_Queue (.pair (.whole 1) (.pl .nil)), .row Y_debtqueue_item]⟩ : Tm).D) : Option (⟨[.pl Y_api_Poster, .pl .bool], [.box Y_debtqueue_Queue (.pair (.whole 1) (.pl .nil)), .row Y_debtqueue_item]⟩ : Tm).D :=
 let h0 : (Unit × Unit) := x.2.1
 let h1 : (List S_debtqueue_item) := x.2.2.1
 optF (none) (debtqueue_Queue_Peek ((), (((), h0.2), (h1, ())))) fun y0 =>
 brn y0.1.2.1
  (optF (none) (debtqueue_items_Len ((y0.2.2.1, ()), ())) fun y1 =>
  brn (@inB .i64 (@I.sub .i64 y1.1.1 (I.of .i64 1)) (@lenL S_debtqueue_item y0.2.2.1))
   (brn (@inB .i64 (I.of .i64 0) (@lenL S_debtqueue_item y0.2.2.1))
    (brn (@inB .i64 (I.of .i64 0) (@lenL S_debtqueue_item y0.2.2.1))
     (brn (@inB .i64 (@I.sub .i64 y1.1.1 (I.of .i64 1)) (@lenL S_debtqueue_item (@setL S_debtqueue_item y0.2.2.1 0 (@rdL S_debtqueue_item Z_S_debtqueue_item y0.2.2.1 (@I.nat .i64 (@I.sub .i64 y1.1.1 (I.of .i64 1)))))))
      (iter (none) (fun x2 =>
        brn (@I.leb .i64 x2.1.2.2.1 (@I.add .i64 (@I.mul .i64 (I.of .i64 2) x2.1.2.2.2.1) (I.of .i64 1)))
         (.done (brn (@inB .i64 (@I.sub .i64 (I.ofNat .i64 (@lenL S_debtqueue_item x2.2.2.1)) (I.of .i64 1)) (@lenL S_debtqueue_item x2.2.2.1))
          (brn (@inB' .i64 (@I.sub .i64 (I.ofNat .i64 (@lenL S_debtqueue_item x2.2.2.1)) (I.of .i64 1)) (@lenL S_debtqueue_item x2.2.2.1))
           (some ((x2.2.2.2.2.1, (x2.1.2.2.2.2.2.1, ())), (((), x2.2.1.2), ((@subL S_debtqueue_item x2.2.2.1 0 (@I.nat .i64 (@I.sub .i64 (I.ofNat .i64 (@lenL S_debtqueue_item x2.2.2.1)) (I.of .i64 1)))), ()))))
           (none))
          (none)))
         (brn (@I.ltb .i64 (@I.add .i64 (@I.mul .i64 (I.of .i64 2) x2.1.2.2.2.1) (I.of .i64 1)) (I.of .i64 0))
          (.done (brn (@inB .i64 (@I.sub .i64 (I.ofNat .i64 (@lenL S_debtqueue_item x2.2.2.1)) (I.of .i64 1)) (@lenL S_debtqueue_item x2.2.2.1))
           (brn (@inB' .i64 (@I.sub .i64 (I.ofNat .i64 (@lenL S_debtqueue_item x2.2.2.1)) (I.of .i64 1)) (@lenL S_debtqueue_item x2.2.2.1))
            (some ((x2.2.2.2.2.1, (x2.1.2.2.2.2.2.1, ())), (((), x2.2.1.2), ((@subL S_debtqueue_item x2.2.2.1 0 (@I.nat .i64 (@I.sub .i64 (I.ofNat .i64 (@lenL S_debtqueue_item x2.2.2.1)) (I.of .i64 1)))), ()))))
            (none))
           (none)))
          (brn (@I.ltb .i64 (@I.add .i64 (@I.add .i64 (@I.mul .i64 (I.of .i64 2) x2.1.2.2.2.1) (I.of .i64 1)) (I.of .i64 1)) x2.1.2.2.1)
           (optF (.done (none)) (debtqueue_items_Less ((x2.2.2.1, ((@I.add .i64 (@I.add .i64 (@I.mul .i64 (I.of .i64 2) x2.1.2.2.2.1) (I.of .i64 1)) (I.of .i64 1)), ((@I.add .i64 (@I.mul .i64 (I.of .i64 2) x2.1.2.2.2.1) (I.of .i64 1)), ()))), ())) fun y3 =>
           brn y3.1.1
            (optF (.done (none)) (debtqueue_items_Less ((x2.2.2.1, ((@I.add .i64 (@I.add .i64 (@I.mul .i64 (I.of .i64 2) x2.1.2.2.2.1) (I.of .i64 1)) (I.of .i64 1)), (x2.1.2.2.2.1, ()))), ())) fun y4 =>
            brn (bnot y4.1.1)
             (.done (brn (@inB .i64 (@I.sub .i64 (I.ofNat .i64 (@lenL S_debtqueue_item x2.2.2.1)) (I.of .i64 1)) (@lenL S_debtqueue_item x2.2.2.1))
              (brn (@inB' .i64 (@I.sub .i64 (I.ofNat .i64 (@lenL S_debtqueue_item x2.2.2.1)) (I.of .i64 1)) (@lenL S_debtqueue_item x2.2.2.1))
               (some ((x2.2.2.2.2.1, (x2.1.2.2.2.2.2.1, ())), (((), x2.2.1.2), ((@subL S_debtqueue_item x2.2.2.1 0 (@I.nat .i64 (@I.sub .i64 (I.ofNat .i64 (@lenL S_debtqueue_item x2.2.2.1)) (I.of .i64 1)))), ()))))
               (none))
              (none)))
             (brn (@inB .i64 (@I.add .i64 (@I.add .i64 (@I.mul .i64 (I.of .i64 2) x2.1.2.2.2.1) (I.of .i64 1)) (I.of .i64 1)) (@lenL S_debtqueue_item x2.2.2.1))
              (brn (@inB .i64 x2.1.2.2.2.1 (@lenL S_debtqueue_item x2.2.2.1))
               (brn (@inB .i64 x2.1.2.2.2.1 (@lenL S_debtqueue_item x2.2.2.1))
                (brn (@inB .i64 (@I.add .i64 (@I.add .i64 (@I.mul .i64 (I.of .i64 2) x2.1.2.2.2.1) (I.of .i64 1)) (I.of .i64 1)) (@lenL S_debtqueue_item (@setL S_debtqueue_item x2.2.2.1 (@I.nat .i64 x2.1.2.2.2.1) (@rdL S_debtqueue_item Z_S_debtqueue_item x2.2.2.1 (@I.nat .i64 (@I.add .i64 (@I.add .i64 (@I.mul .i64 (I.of .i64 2) x2.1.2.2.2.1) (I.of .i64 1)) (I.of .i64 1)))))))
                 (.again (((), (x2.1.2.1, (x2.1.2.2.1, ((@I.add .i64 (@I.add .i64 (@I.mul .i64 (I.of .i64 2) x2.1.2.2.2.1) (I.of .i64 1)) (I.of .i64 1)), ((), (x2.1.2.2.2.2.2.1, ())))))), (((), x2.2.1.2), ((@setL S_debtqueue_item (@setL S_debtqueue_item x2.2.2.1 (@I.nat .i64 x2.1.2.2.2.1) (@rdL S_debtqueue_item Z_S_debtqueue_item x2.2.2.1 (@I.nat .i64 (@I.add .i64 (@I.add .i64 (@I.mul .i64 (I.of .i64 2) x2.1.2.2.2.1) (I.of .i64 1)) (I.of .i64 1))))) (@I.nat .i64 (@I.add .i64 (@I.add .i64 (@I.mul .i64 (I.of .i64 2) x2.1.2.2.2.1) (I.of .i64 1)) (I.of .i64 1))) (@rdL S_debtqueue_item Z_S_debtqueue_item x2.2.2.1 (@I.nat .i64 x2.1.2.2.2.1))), (x2.2.2.2.1, (x2.2.2.2.2.1, ()))))))
                 (.done (none)))
                (.done (none)))
               (.done (none)))
              (.done (none))))
            (optF (.done (none)) (debtqueue_items_Less ((x2.2.2.1, ((@I.add .i64 (@I.mul .i64 (I.of .i64 2) x2.1.2.2.2.1) (I.of .i64 1)), (x2.1.2.2.2.1, ()))), ())) fun y4 =>
            brn (bnot y4.1.1)
             (.done (brn (@inB .i64 (@I.sub .i64 (I.ofNat .i64 (@lenL S_debtqueue_item x2.2.2.1)) (I.of .i64 1)) (@lenL S_debtqueue_item x2.2.2.1))
              (brn (@inB' .i64 (@I.sub .i64 (I.ofNat .i64 (@lenL S_debtqueue_item x2.2.2.1)) (I.of .i64 1)) (@lenL S_debtqueue_item x2.2.2.1))
               (some ((x2.2.2.2.2.1, (x2.1.2.2.2.2.2.1, ())), (((), x2.2.1.2), ((@subL S_debtqueue_item x2.2.2.1 0 (@I.nat .i64 (@I.sub .i64 (I.ofNat .i64 (@lenL S_debtqueue_item x2.2.2.1)) (I.of .i64 1)))), ()))))
               (none))
              (none)))
             (brn (@inB .i64 (@I.add .i64 (@I.mul .i64 (I.of .i64 2) x2.1.2.2.2.1) (I.of .i64 1)) (@lenL S_debtqueue_item x2.2.2.1))
              (brn (@inB .i64 x2.1.2.2.2.1 (@lenL S_debtqueue_item x2.2.2.1))
               (brn (@inB .i64 x2.1.2.2.2.1 (@lenL S_debtqueue_item x2.2.2.1))
                (brn (@inB .i64 (@I.add .i64 (@I.mul .i64 (I.of .i64 2) x2.1.2.2.2.1) (I.of .i64 1)) (@lenL S_debtqueue_item (@setL S_debtqueue_item x2.2.2.1 (@I.nat .i64 x2.1.2.2.2.1) (@rdL S_debtqueue_item Z_S_debtqueue_item x2.2.2.1 (@I.nat .i64 (@I.add .i64 (@I.mul .i64 (I.of .i64 2) x2.1.2.2.2.1) (I.of .i64 1)))))))
                 (.again (((), (x2.1.2.1, (x2.1.2.2.1, ((@I.add .i64 (@I.mul .i64 (I.of .i64 2) x2.1.2.2.2.1) (I.of .i64 1)), ((), (x2.1.2.2.2.2.2.1, ())))))), (((), x2.2.1.2), ((@setL S_debtqueue_item (@setL S_debtqueue_item x2.2.2.1 (@I.nat .i64 x2.1.2.2.2.1) (@rdL S_debtqueue_item Z_S_debtqueue_item x2.2.2.1 (@I.nat .i64 (@I.add .i64 (@I.mul .i64 (I.of .i64 2) x2.1.2.2.2.1) (I.of .i64 1))))) (@I.nat .i64 (@I.add .i64 (@I.mul .i64 (I.of .i64 2) x2.1.2.2.2.1) (I.of .i64 1))) (@rdL S_debtqueue_item Z_S_debtqueue_item x2.2.2.1 (@I.nat .i64 x2.1.2.2.2.1))), (x2.2.2.2.1, (x2.2.2.2.2.1, ()))))))
                 (.done (none)))
                (.done (none)))
               (.done (none)))
              (.done (none)))))
           (optF (.done (none)) (debtqueue_items_Less ((x2.2.2.1, ((@I.add .i64 (@I.mul .i64 (I.of .i64 2) x2.1.2.2.2.1) (I.of .i64 1)), (x2.1.2.2.2.1, ()))), ())) fun y3 =>
           brn (bnot y3.1.1)
            (.done (brn (@inB .i64 (@I.sub .i64 (I.ofNat .i64 (@lenL S_debtqueue_item x2.2.2.1)) (I.of .i64 1)) (@lenL S_debtqueue_item x2.2.2.1))
             (brn (@inB' .i64 (@I.sub .i64 (I.ofNat .i64 (@lenL S_debtqueue_item x2.2.2.1)) (I.of .i64 1)) (@lenL S_debtqueue_item x2.2.2.1))
              (some ((x2.2.2.2.2.1, (x2.1.2.2.2.2.2.1, ())), (((), x2.2.1.2), ((@subL S_debtqueue_item x2.2.2.1 0 (@I.nat .i64 (@I.sub .i64 (I.ofNat .i64 (@lenL S_debtqueue_item x2.2.2.1)) (I.of .i64 1)))), ()))))
              (none))
             (none)))
            (brn (@inB .i64 (@I.add .i64 (@I.mul .i64 (I.of .i64 2) x2.1.2.2.2.1) (I.of .i64 1)) (@lenL S_debtqueue_item x2.2.2.1))
             (brn (@inB .i64 x2.1.2.2.2.1 (@lenL S_debtqueue_item x2.2.2.1))
              (brn (@inB .i64 x2.1.2.2.2.1 (@lenL S_debtqueue_item x2.2.2.1))
               (brn (@inB .i64 (@I.add .i64 (@I.mul .i64 (I.of .i64 2) x2.1.2.2.2.1) (I.of .i64 1)) (@lenL S_debtqueue_item (@setL S_debtqueue_item x2.2.2.1 (@I.nat .i64 x2.1.2.2.2.1) (@rdL S_debtqueue_item Z_S_debtqueue_item x2.2.2.1 (@I.nat .i64 (@I.add .i64 (@I.mul .i64 (I.of .i64 2) x2.1.2.2.2.1) (I.of .i64 1)))))))
                (.again (((), (x2.1.2.1, (x2.1.2.2.1, ((@I.add .i64 (@I.mul .i64 (I.of .i64 2) x2.1.2.2.2.1) (I.of .i64 1)), ((), (x2.1.2.2.2.2.2.1, ())))))), (((), x2.2.1.2), ((@setL S_debtqueue_item (@setL S_debtqueue_item x2.2.2.1 (@I.nat .i64 x2.1.2.2.2.1) (@rdL S_debtqueue_item Z_S_debtqueue_item x2.2.2.1 (@I.nat .i64 (@I.add .i64 (@I.mul .i64 (I.of .i64 2) x2.1.2.2.2.1) (I.of .i64 1))))) (@I.nat .i64 (@I.add .i64 (@I.mul .i64 (I.of .i64 2) x2.1.2.2.2.1) (I.of .i64 1))) (@rdL S_debtqueue_item Z_S_debtqueue_item x2.2.2.1 (@I.nat .i64 x2.1.2.2.2.1))), (x2.2.2.2.1, (x2.2.2.2.2.1, ()))))))
                (.done (none)))
               (.done (none)))
              (.done (none)))
             (.done (none)))))))
      K1 (((), ((I.of .i64 0), ((@I.sub .i64 y1.1.1 (I.of .i64 1)), ((I.of .i64 0), ((), (y0.1.2.1, ())))))), (((), y0.2.1.2), ((@setL S_debtqueue_item (@setL S_debtqueue_item y0.2.2.1 0 (@rdL S_debtqueue_item Z_S_debtqueue_item y0.2.2.1 (@I.nat .i64 (@I.sub .i64 y1.1.1 (I.of .i64 1))))) (@I.nat .i64 (@I.sub .i64 y1.1.1 (I.of .i64 1))) (@rdL S_debtqueue_item Z_S_debtqueue_item y0.2.2.1 0)), (Z_S_api_Poster, (y0.1.1, ()))))))
      (none))
     (none))
    (none))
   (none))
  (some ((y0.1.1, (y0.1.2.1, ())), (((), y0.2.1.2), (y0.2.2.1, ()))))
theorem debtqueue_Queue_Pop_k_eq : debtqueue_Queue_Pop = debtqueue_Queue_Pop_k := by
  funext x
  unfold debtqueue_Queue_Pop debtqueue_Queue_Pop_k
  rw [K0_eq]
  all_goals kernel_rfl
noncomputable def uint256_Min_k (x : (⟨[.pl u256, .pl (.sl u256)], []⟩ : Tm).D) : Option (⟨[.pl u256], []⟩ : Tm).D :=
 let a : U := x.1.1
 let b : (List U) := x.1.2.1
 iter (none) (fun x0 =>
   brn (@I.ltb .i64 x0.1.2.2.1 x0.1.2.1)
    (brn (@inB .i64 x0.1.2.2.1 (@lenL U x0.1.1))
     (optF (.done (none)) (uint256_Cmp (((@rdL U Z_U x0.1.1 (@I.nat .i64 x0.1.2.2.1)), (x0.2.1, ())), ())) fun y1 =>
     brn (@I.ltb .i64 y1.1.1 (I.of .i64 0))
      (.again ((x0.1.1, (x0.1.2.1, ((@I.add .i64 x0.1.2.2.1 (I.of .i64 1)), ()))), ((@rdL U Z_U x0.1.1 (@I.nat .i64 x0.1.2.2.1)), (x0.2.2.1, ()))))
      (.again ((x0.1.1, (x0.1.2.1, ((@I.add .i64 x0.1.2.2.1 (I.of .i64 1)), ()))), (x0.2.1, (x0.2.2.1, ())))))
     (.done (none)))
    (.done (some ((x0.2.1, ()), ()))))
 K1 ((b, ((I.ofNat .i64 (@lenL U b)), ((I.of .i64 0), ()))), (a, (Z_U, ())))
theorem uint256_Min_k_eq : uint256_Min = uint256_Min_k := by
  funext x
  unfold uint256_Min uint256_Min_k
  rw [K0_eq]
  all_goals kernel_rfl
noncomputable def payout_Plan_k (x : (⟨[.pl (.sl Y_api_Poster), .pl u256], []⟩ : Tm).D) : Option (⟨[.pl (.sl Y_api_Payment), .pl (.int .i64)], []⟩ : Tm).D :=
 let a : (List S_api_Poster) := x.1.1
 let b : U := x.1.2.1
 optF (none) (poster_Valid_k ((a, ()), ())) fun y0 =>
 brn (bnot y0.1.1)
  (some (([], ((I.of .i64 2), ())), ()))
  (optF (none) (debtqueue_New_k ((a, ()), ())) fun y1 =>
  optF (none) (debtqueue_Queue_Pop_k ((), (((), y1.2.1.2), (y1.2.2.1, ())))) fun y2 =>
  iter (none) (fun x3 =>
    jn (fun (x4 : ((U × (U × (Bool × Unit))) × (U × ((List S_api_Payment) × ((Unit × Unit) × ((List S_debtqueue_item) × (S_api_Poster × Unit))))))) =>
      optF (.done (none)) (uint256_Min_k ((x4.2.2.2.2.2.1.2.1, ((x4.2.1 :: []), ())), ())) fun y5 =>
      optF (.done (none)) (uint256_SaturatingSub ((x4.2.1, (y5.1.1, ())), ())) fun y6 =>
      brn (fitsLen (@lenL S_api_Payment (@appL S_api_Payment x4.2.2.1 ((x4.2.2.2.2.2.1.1, (y5.1.1, ())) :: []))))
       (optF (.done (none)) (debtqueue_Queue_Pop_k ((), (((), x4.2.2.2.1.2), (x4.2.2.2.2.1, ())))) fun y7 =>
       .again ((y7.1.2.1, ()), (y6.1.1, ((@appL S_api_Payment x4.2.2.1 ((x4.2.2.2.2.2.1.1, (y5.1.1, ())) :: [])), (((), y7.2.1.2), (y7.2.2.1, (y7.1.1, ())))))))
       (.done (none))) fun j4 =>
    brn x3.1.1
     (brn (bnot (Ty.eqb u256 x3.2.1 Z_U))
      (j4 ((x3.2.1, (Z_U, ((bnot (Ty.eqb u256 x3.2.1 Z_U)), ()))), (x3.2.1, (x3.2.2.1, (((), x3.2.2.2.1.2), (x3.2.2.2.2.1, (x3.2.2.2.2.2.1, ())))))))
      (.done (some ((x3.2.2.1, ((I.of .i64 0), ())), ()))))
     (.done (some ((x3.2.2.1, ((I.of .i64 0), ())), ()))))
  K1 ((y2.1.2.1, ()), (b, ([], (((), y2.2.1.2), (y2.2.2.1, (y2.1.1, ())))))))
theorem payout_Plan_k_eq : payout_Plan = payout_Plan_k := by
  funext x
  unfold payout_Plan payout_Plan_k
  rw [K0_eq, poster_Valid_k_eq, debtqueue_New_k_eq, debtqueue_Queue_Pop_k_eq, uint256_Min_k_eq]
  all_goals kernel_rfl
noncomputable def poster_Settle_k (x : (⟨[.pl (.sl Y_api_Poster), .pl (.int .u64), .pl u256], []⟩ : Tm).D) : Option (⟨[.pl (.sl Y_api_Poster), .pl (.int .i64)], []⟩ : Tm).D :=
 let a : (List S_api_Poster) := x.1.1
 let b : (I .u64) := x.1.2.1
 let c : U := x.1.2.2.1
 optF (none) (poster_Find_k ((a, (b, ())), ())) fun y0 =>
 optF (none) (poster_Valid_k ((a, ()), ())) fun y1 =>
 brn (bnot y1.1.1)
  (some (([], ((I.of .i64 2), ())), ()))
  (brn (@I.ltb .i64 y0.1.1 (I.of .i64 0))
   (some (([], ((I.of .i64 8), ())), ()))
   (brn (@inB .i64 y0.1.1 (@lenL S_api_Poster a))
    (optF (none) (uint256_Sub (((@rdL S_api_Poster Z_S_api_Poster a (@I.nat .i64 y0.1.1)).2.1, (c, ())), ())) fun y2 =>
    brn (@I.neb .i64 y2.1.2.1 (I.of .i64 0))
     (some (([], ((I.of .i64 10), ())), ()))
     (optF (none) (uint256_Add (((@rdL S_api_Poster Z_S_api_Poster a (@I.nat .i64 y0.1.1)).2.2.2.2.1, (c, ())), ())) fun y3 =>
     brn (@I.neb .i64 y3.1.2.1 (I.of .i64 0))
      (some (([], (y3.1.2.1, ())), ()))
      (jn (fun (x4 : (((List S_api_Poster) × ((I .i64) × Unit)) × (S_api_Poster × Unit))) =>
        optF (none) (slices_Clone___api_Poster_api_Poster__k ((x4.1.1, ()), ())) fun y5 =>
        brn (@inB .i64 x4.1.2.1 (@lenL S_api_Poster y5.2.1))
         (some (((@setL S_api_Poster y5.2.1 (@I.nat .i64 x4.1.2.1) x4.2.1), ((I.of .i64 0), ())), ()))
         (none)) fun j4 =>
      optF (none) (poster_isZero ((y2.1.1, ()), ())) fun y5 =>
      brn y5.1.1
       (j4 ((a, (y0.1.1, ())), (((@rdL S_api_Poster Z_S_api_Poster a (@I.nat .i64 y0.1.1)).1, (y2.1.1, ((@rdL S_api_Poster Z_S_api_Poster a (@I.nat .i64 y0.1.1)).2.2.1, ((@rdL S_api_Poster Z_S_api_Poster a (@I.nat .i64 y0.1.1)).2.2.2.1, (y3.1.1, ((I.of .u64 0), (@rdL S_api_Poster Z_S_api_Poster a (@I.nat .i64 y0.1.1)).2.2.2.2.2.2)))))), ())))
       (j4 ((a, (y0.1.1, ())), (((@rdL S_api_Poster Z_S_api_Poster a (@I.nat .i64 y0.1.1)).1, (y2.1.1, ((@rdL S_api_Poster Z_S_api_Poster a (@I.nat .i64 y0.1.1)).2.2.1, ((@rdL S_api_Poster Z_S_api_Poster a (@I.nat .i64 y0.1.1)).2.2.2.1, (y3.1.1, (@rdL S_api_Poster Z_S_api_Poster a (@I.nat .i64 y0.1.1)).2.2.2.2.2))))), ()))))))
    (none)))
theorem poster_Settle_k_eq : poster_Settle = poster_Settle_k := by
  funext x
  unfold poster_Settle poster_Settle_k
  rw [poster_Find_k_eq, poster_Valid_k_eq, slices_Clone___api_Poster_api_Poster__k_eq]
  all_goals kernel_rfl
noncomputable def payout_Apply_k (x : (⟨[.pl (.sl Y_api_Poster), .pl (.sl Y_api_Payment)], []⟩ : Tm).D) : Option (⟨[.pl (.sl Y_api_Poster), .pl (.int .i64)], []⟩ : Tm).D :=
 let a : (List S_api_Poster) := x.1.1
 let b : (List S_api_Payment) := x.1.2.1
 optF (none) (slices_Clone___api_Poster_api_Poster__k ((a, ()), ())) fun y0 =>
 iter (none) (fun x1 =>
   brn (@I.ltb .i64 x1.1.2.2.2.1 x1.1.2.2.1)
    (brn (@inB .i64 x1.1.2.2.2.1 (@lenL S_api_Payment x1.1.2.1))
     (optF (.done (none)) (poster_Settle_k ((x1.1.1, ((@rdL S_api_Payment Z_S_api_Payment x1.1.2.1 (@I.nat .i64 x1.1.2.2.2.1)).1, ((@rdL S_api_Payment Z_S_api_Payment x1.1.2.1 (@I.nat .i64 x1.1.2.2.2.1)).2.1, ()))), ())) fun y2 =>
     brn (@I.neb .i64 y2.1.2.1 (I.of .i64 0))
      (.done (some (([], (y2.1.2.1, ())), ())))
      (.again ((y2.1.1, (x1.1.2.1, (x1.1.2.2.1, ((@I.add .i64 x1.1.2.2.2.1 (I.of .i64 1)), ())))), ())))
     (.done (none)))
    (.done (some ((x1.1.1, ((I.of .i64 0), ())), ()))))
 K1 ((y0.2.1, (b, ((I.ofNat .i64 (@lenL S_api_Payment b)), ((I.of .i64 0), ())))), ())
theorem payout_Apply_k_eq : payout_Apply = payout_Apply_k := by
  funext x
  unfold payout_Apply payout_Apply_k
  rw [K0_eq, slices_Clone___api_Poster_api_Poster__k_eq, poster_Settle_k_eq]
  all_goals kernel_rfl
noncomputable def payout_Sum_k (x : (⟨[.pl (.sl Y_api_Payment)], []⟩ : Tm).D) : Option (⟨[.pl u256, .pl (.int .i64)], []⟩ : Tm).D :=
 let a : (List S_api_Payment) := x.1.1
 iter (none) (fun x0 =>
   brn (@I.ltb .i64 x0.1.2.2.1 x0.1.2.1)
    (brn (@inB .i64 x0.1.2.2.1 (@lenL S_api_Payment x0.1.1))
     (optF (.done (none)) (uint256_Add ((x0.2.2.1, ((@rdL S_api_Payment Z_S_api_Payment x0.1.1 (@I.nat .i64 x0.1.2.2.1)).2.1, ())), ())) fun y1 =>
     brn (@I.neb .i64 y1.1.2.1 (I.of .i64 0))
      (.done (some ((Z_U, (y1.1.2.1, ())), ())))
      (.again ((x0.1.1, (x0.1.2.1, ((@I.add .i64 x0.1.2.2.1 (I.of .i64 1)), ()))), (x0.2.1, (y1.1.1, ())))))
     (.done (none)))
    (.done (some ((x0.2.2.1, ((I.of .i64 0), ())), ()))))
 K1 ((a, ((I.ofNat .i64 (@lenL S_api_Payment a)), ((I.of .i64 0), ()))), (Z_U, (Z_U, ())))
theorem payout_Sum_k_eq : payout_Sum = payout_Sum_k := by
  funext x
  unfold payout_Sum payout_Sum_k
  rw [K0_eq]
  all_goals kernel_rfl
noncomputable def poster_TotalDue_k (x : (⟨[.pl (.sl Y_api_Poster)], []⟩ : Tm).D) : Option (⟨[.pl u256, .pl (.int .i64)], []⟩ : Tm).D :=
 let a : (List S_api_Poster) := x.1.1
 optF (none) (poster_Valid_k ((a, ()), ())) fun y0 =>
 brn (bnot y0.1.1)
  (some ((Z_U, ((I.of .i64 2), ())), ()))
  (iter (none) (fun x1 =>
    brn (@I.ltb .i64 x1.1.2.2.1 x1.1.2.1)
     (brn (@inB .i64 x1.1.2.2.1 (@lenL S_api_Poster x1.1.1))
      (optF (.done (none)) (uint256_Add ((x1.2.2.1, ((@rdL S_api_Poster Z_S_api_Poster x1.1.1 (@I.nat .i64 x1.1.2.2.1)).2.1, ())), ())) fun y2 =>
      brn (@I.neb .i64 y2.1.2.1 (I.of .i64 0))
       (.done (some ((Z_U, (y2.1.2.1, ())), ())))
       (.again ((x1.1.1, (x1.1.2.1, ((@I.add .i64 x1.1.2.2.1 (I.of .i64 1)), ()))), (x1.2.1, (y2.1.1, ())))))
      (.done (none)))
     (.done (some ((x1.2.2.1, ((I.of .i64 0), ())), ()))))
  K1 ((a, ((I.ofNat .i64 (@lenL S_api_Poster a)), ((I.of .i64 0), ()))), (Z_U, (Z_U, ()))))
theorem poster_TotalDue_k_eq : poster_TotalDue = poster_TotalDue_k := by
  funext x
  unfold poster_TotalDue poster_TotalDue_k
  rw [K0_eq, poster_Valid_k_eq]
  all_goals kernel_rfl
noncomputable def muldiv_DivMod_k (x : (⟨[.pl u256, .pl u256], []⟩ : Tm).D) : Option (⟨[.pl u256, .pl u256, .pl (.int .i64)], []⟩ : Tm).D :=
 let a : U := x.1.1
 let b : U := x.1.2.1
 optF (none) (muldiv_Div512_k ((a, (Z_U, (b, ()))), ())) fun y0 =>
 some ((y0.1.1, (y0.1.2.1, (y0.1.2.2.1, ()))), ())
theorem muldiv_DivMod_k_eq : muldiv_DivMod = muldiv_DivMod_k := by
  funext x
  unfold muldiv_DivMod muldiv_DivMod_k
  rw [muldiv_Div512_k_eq]
  all_goals kernel_rfl
noncomputable def int256_DivFloor_k (x : (⟨[.pl Y_api_Int256, .pl u256], []⟩ : Tm).D) : Option (⟨[.pl Y_api_Int256, .pl (.int .i64)], []⟩ : Tm).D :=
 let a : S_api_Int256 := x.1.1
 let b : U := x.1.2.1
 optF (none) (int256_Valid ((a, ()), ())) fun y0 =>
 brn (bnot y0.1.1)
  (some ((Z_S_api_Int256, ((I.of .i64 2), ())), ()))
  (optF (none) (muldiv_DivMod_k ((a.2.1, (b, ())), ())) fun y1 =>
  brn (@I.neb .i64 y1.1.2.2.1 (I.of .i64 0))
   (some ((Z_S_api_Int256, (y1.1.2.2.1, ())), ()))
   (jn (fun (x2 : ((Bool × Unit) × (S_api_Int256 × (S_api_Int256 × (U × Unit))))) =>
     brn x2.1.1
      (optF (none) (uint256_FromUint64 (((I.of .u64 1), ()), ())) fun y3 =>
      optF (none) (uint256_Add ((x2.2.2.2.1, (y3.1.1, ())), ())) fun y4 =>
      optF (none) (int256_New ((x2.2.1.1, (y4.1.1, ())), ())) fun y5 =>
      some ((y5.1.1, ((I.of .i64 0), ())), ()))
      (optF (none) (int256_New ((x2.2.1.1, (x2.2.2.2.1, ())), ())) fun y3 =>
      some ((y3.1.1, ((I.of .i64 0), ())), ()))) fun j2 =>
   brn a.1
    (j2 (((bnot (Ty.eqb u256 y1.1.2.1 Z_U)), ()), (a, (Z_S_api_Int256, (y1.1.1, ())))))
    (j2 ((false, ()), (a, (Z_S_api_Int256, (y1.1.1, ())))))))
theorem int256_DivFloor_k_eq : int256_DivFloor = int256_DivFloor_k := by
  funext x
  unfold int256_DivFloor int256_DivFloor_k
  rw [muldiv_DivMod_k_eq]
  all_goals kernel_rfl
noncomputable def int256_Mul_k (x : (⟨[.pl Y_api_Int256, .pl Y_api_Int256], []⟩ : Tm).D) : Option (⟨[.pl Y_api_Int256, .pl (.int .i64)], []⟩ : Tm).D :=
 let a : S_api_Int256 := x.1.1
 let b : S_api_Int256 := x.1.2.1
 jn (fun (x0 : (Unit × (S_api_Int256 × (S_api_Int256 × (S_api_Int256 × Unit))))) =>
   optF (none) (uint256_Mul_k ((x0.2.1.2.1, (x0.2.2.1.2.1, ())), ())) fun y1 =>
   brn (@I.neb .i64 y1.1.2.1 (I.of .i64 0))
    (some ((Z_S_api_Int256, (y1.1.2.1, ())), ()))
    (optF (none) (int256_New (((bnot (Ty.eqb .bool x0.2.1.1 x0.2.2.1.1)), (y1.1.1, ())), ())) fun y2 =>
    some ((y2.1.1, ((I.of .i64 0), ())), ()))) fun j0 =>
 optF (none) (int256_Valid ((a, ()), ())) fun y1 =>
 brn (bnot y1.1.1)
  (some ((Z_S_api_Int256, ((I.of .i64 2), ())), ()))
  (optF (none) (int256_Valid ((b, ()), ())) fun y2 =>
  brn (bnot y2.1.1)
   (some ((Z_S_api_Int256, ((I.of .i64 2), ())), ()))
   (j0 ((), (a, (b, (Z_S_api_Int256, ()))))))
theorem int256_Mul_k_eq : int256_Mul = int256_Mul_k := by
  funext x
  unfold int256_Mul int256_Mul_k
  rw [uint256_Mul_k_eq]
  all_goals kernel_rfl
noncomputable def l1price_Delta_k (x : (⟨[.pl Y_api_Int256, .pl Y_api_Int256, .pl (.int .u64), .pl Y_api_Params], []⟩ : Tm).D) : Option (⟨[.pl Y_api_Int256, .pl (.int .i64)], []⟩ : Tm).D :=
 let a : S_api_Int256 := x.1.1
 let b : S_api_Int256 := x.1.2.1
 let c : (I .u64) := x.1.2.2.1
 let d : S_api_Params := x.1.2.2.2.1
 jn (fun (x0 : (((I .u64) × Unit) × (S_api_Int256 × (S_api_Int256 × (S_api_Params × (S_api_Int256 × Unit)))))) =>
   optF (none) (int256_Neg ((x0.2.1, ()), ())) fun y1 =>
   optF (none) (uint256_FromUint64 ((x0.2.2.2.1.2.2.2.2.2.2.2.2.1, ()), ())) fun y2 =>
   optF (none) (int256_DivFloor_k ((y1.1.1, (y2.1.1, ())), ())) fun y3 =>
   optF (none) (int256_Sub ((x0.2.1, (x0.2.2.1, ())), ())) fun y4 =>
   brn (@I.neb .i64 y4.1.2.1 (I.of .i64 0))
    (some ((Z_S_api_Int256, (y4.1.2.1, ())), ()))
    (optF (none) (uint256_FromUint64 ((x0.1.1, ()), ())) fun y5 =>
    optF (none) (int256_DivFloor_k ((y4.1.1, (y5.1.1, ())), ())) fun y6 =>
    optF (none) (int256_Sub ((y3.1.1, (y6.1.1, ())), ())) fun y7 =>
    brn (@I.neb .i64 y7.1.2.1 (I.of .i64 0))
     (some ((Z_S_api_Int256, (y7.1.2.1, ())), ()))
     (optF (none) (uint256_FromUint64 ((x0.1.1, ()), ())) fun y8 =>
     optF (none) (int256_Mul_k ((y7.1.1, ((false, (y8.1.1, ())), ())), ())) fun y9 =>
     brn (@I.neb .i64 y9.1.2.1 (I.of .i64 0))
      (some ((Z_S_api_Int256, (y9.1.2.1, ())), ()))
      (brn (@I.nz .u64 x0.2.2.2.1.2.2.2.2.2.2.2.2.2.1)
       (optF (none) (uint256_FromUint64 (((@I.quo .u64 x0.2.2.2.1.2.2.2.2.2.2.2.2.1 x0.2.2.2.1.2.2.2.2.2.2.2.2.2.1), ()), ())) fun y10 =>
       optF (none) (uint256_FromUint64 ((x0.1.1, ()), ())) fun y11 =>
       optF (none) (uint256_SaturatingAdd ((y10.1.1, (y11.1.1, ())), ())) fun y12 =>
       optF (none) (int256_DivFloor_k ((y9.1.1, (y12.1.1, ())), ())) fun y13 =>
       some ((y13.1.1, (y13.1.2.1, ())), ()))
       (none))))) fun j0 =>
 optF (none) (params_Valid_k ((d, ()), ())) fun y1 =>
 brn (bnot y1.1.1)
  (some ((Z_S_api_Int256, ((I.of .i64 15), ())), ()))
  (optF (none) (int256_Valid ((a, ()), ())) fun y2 =>
  brn (bnot y2.1.1)
   (some ((Z_S_api_Int256, ((I.of .i64 2), ())), ()))
   (optF (none) (int256_Valid ((b, ()), ())) fun y3 =>
   brn (bnot y3.1.1)
    (some ((Z_S_api_Int256, ((I.of .i64 2), ())), ()))
    (brn (@I.eqb .u64 c (I.of .u64 0))
     (some ((Z_S_api_Int256, ((I.of .i64 2), ())), ()))
     (j0 ((c, ()), (a, (b, (d, (Z_S_api_Int256, ())))))))))
theorem l1price_Delta_k_eq : l1price_Delta = l1price_Delta_k := by
  funext x
  unfold l1price_Delta l1price_Delta_k
  rw [params_Valid_k_eq, int256_DivFloor_k_eq, int256_Mul_k_eq]
  all_goals kernel_rfl
noncomputable def l1price_Next_k (x : (⟨[.pl u256, .pl Y_api_Int256, .pl Y_api_Int256, .pl (.int .u64), .pl Y_api_Params], []⟩ : Tm).D) : Option (⟨[.pl u256, .pl (.int .i64)], []⟩ : Tm).D :=
 let a : U := x.1.1
 let b : S_api_Int256 := x.1.2.1
 let c : S_api_Int256 := x.1.2.2.1
 let d : (I .u64) := x.1.2.2.2.1
 let e : S_api_Params := x.1.2.2.2.2.1
 jn (fun (x0 : (((I .u64) × Unit) × (U × (S_api_Int256 × (S_api_Int256 × (S_api_Params × (U × Unit))))))) =>
   optF (none) (l1price_Delta_k ((x0.2.2.1, (x0.2.2.2.1, (x0.1.1, (x0.2.2.2.2.1, ())))), ())) fun y1 =>
   brn (@I.neb .i64 y1.1.2.1 (I.of .i64 0))
    (some ((Z_U, (y1.1.2.1, ())), ()))
    (optF (none) (int256_AddClamped ((x0.2.1, (y1.1.1, ())), ())) fun y2 =>
    some ((y2.1.1, (y2.1.2.1, ())), ()))) fun j0 =>
 optF (none) (params_Valid_k ((e, ()), ())) fun y1 =>
 brn (bnot y1.1.1)
  (some ((Z_U, ((I.of .i64 15), ())), ()))
  (jn (fun (x2 : (((I .u64) × (Bool × Unit)) × (U × (S_api_Int256 × (S_api_Int256 × (S_api_Params × (U × Unit))))))) =>
    brn x2.1.2.1
     (some ((Z_U, ((I.of .i64 2), ())), ()))
     (brn (@I.eqb .u64 x2.1.1 (I.of .u64 0))
      (some ((x2.2.1, ((I.of .i64 0), ())), ()))
      (j0 ((x2.1.1, ()), (x2.2.1, (x2.2.2.1, (x2.2.2.2.1, (x2.2.2.2.2.1, (x2.2.2.2.2.2.1, ()))))))))) fun j2 =>
  optF (none) (int256_Valid ((b, ()), ())) fun y3 =>
  brn (bnot y3.1.1)
   (j2 ((d, (true, ())), (a, (b, (c, (e, (Z_U, ())))))))
   (optF (none) (int256_Valid ((c, ()), ())) fun y4 =>
   j2 ((d, ((bnot y4.1.1), ())), (a, (b, (c, (e, (Z_U, ()))))))))
theorem l1price_Next_k_eq : l1price_Next = l1price_Next_k := by
  funext x
  unfold l1price_Next l1price_Next_k
  rw [params_Valid_k_eq, l1price_Delta_k_eq]
  all_goals kernel_rfl
noncomputable def pricer_adjust_k (x : (⟨[.pl Y_api_Pricer, .pl Y_api_Params, .pl u256, .pl Y_pricer_Outcome], []⟩ : Tm).D) : Option (⟨[.pl Y_api_Pricer, .pl (.int .i64)], []⟩ : Tm).D :=
 let a : S_api_Pricer := x.1.1
 let b : S_api_Params := x.1.2.1
 let c : U := x.1.2.2.1
 let d : S_pricer_Outcome := x.1.2.2.2.1
 optF (none) (payout_Sum_k ((d.2.2.1, ()), ())) fun y0 =>
 brn (@I.neb .i64 y0.1.2.1 (I.of .i64 0))
  (some (((Z_U, ((I.of .u64 0), ((I.of .u64 0), ((I.of .u64 0), (Z_S_api_Int256, ([], ())))))), (y0.1.2.1, ())), ()))
  (optF (none) (poster_TotalDue_k ((a.2.2.2.2.2.1, ()), ())) fun y1 =>
  brn (@I.neb .i64 y1.1.2.1 (I.of .i64 0))
   (some (((Z_U, ((I.of .u64 0), ((I.of .u64 0), ((I.of .u64 0), (Z_S_api_Int256, ([], ())))))), (y1.1.2.1, ())), ()))
   (brn (@I.eqb .u64 d.1 (I.of .u64 0))
    (some ((a, ((I.of .i64 0), ())), ()))
    (optF (none) (uint256_SaturatingSub ((c, (y0.1.1, ())), ())) fun y2 =>
    optF (none) (l1price_Surplus ((y2.1.1, (y1.1.1, ())), ())) fun y3 =>
    optF (none) (l1price_Next_k ((a.1, (y3.1.1, (a.2.2.2.2.1, (d.1, (b, ()))))), ())) fun y4 =>
    brn (@I.neb .i64 y4.1.2.1 (I.of .i64 0))
     (some (((Z_U, ((I.of .u64 0), ((I.of .u64 0), ((I.of .u64 0), (Z_S_api_Int256, ([], ())))))), (y4.1.2.1, ())), ()))
     (some (((y4.1.1, (a.2.1, (a.2.2.1, (a.2.2.2.1, (y3.1.1, a.2.2.2.2.2))))), ((I.of .i64 0), ())), ())))))
theorem pricer_adjust_k_eq : pricer_adjust = pricer_adjust_k := by
  funext x
  unfold pricer_adjust pricer_adjust_k
  rw [payout_Sum_k_eq, poster_TotalDue_k_eq, l1price_Next_k_eq]
  all_goals kernel_rfl
noncomputable def pricer_Report_k (x : (⟨[.pl Y_api_Pricer, .pl Y_api_Params, .pl u256, .pl Y_api_Report, .pl (.int .u64)], []⟩ : Tm).D) : Option (⟨[.pl Y_api_Pricer, .pl Y_pricer_Outcome, .pl (.int .i64)], []⟩ : Tm).D :=
 let a : S_api_Pricer := x.1.1
 let b : S_api_Params := x.1.2.1
 let c : U := x.1.2.2.1
 let d : S_api_Report := x.1.2.2.2.1
 let e : (I .u64) := x.1.2.2.2.2.1
 optF (none) (pricer_checkReport_k ((a, (b, (d, (e, ())))), ())) fun y0 =>
 brn (@I.neb .i64 y0.1.1 (I.of .i64 0))
  (some (((Z_U, ((I.of .u64 0), ((I.of .u64 0), ((I.of .u64 0), (Z_S_api_Int256, ([], ())))))), (((I.of .u64 0), (Z_U, ([], ()))), (y0.1.1, ()))), ()))
  (optF (none) (pricer_allocate_k ((a, (b, (d, (e, ())))), ())) fun y1 =>
  jn (fun (x2 : (((I .i64) × Unit) × (S_api_Pricer × (S_api_Params × (U × (S_api_Report × (S_api_Pricer × (S_pricer_Outcome × (S_pricer_Outcome × Unit))))))))) =>
    jn (fun (x3 : (((I .i64) × Unit) × (S_api_Pricer × (S_api_Params × (U × (S_api_Report × (S_api_Pricer × (S_pricer_Outcome × (S_pricer_Outcome × Unit))))))))) =>
      jn (fun (x4 : (((I .i64) × Unit) × (S_api_Pricer × (S_api_Params × (U × (S_api_Report × (S_api_Pricer × (S_pricer_Outcome × (S_pricer_Outcome × Unit))))))))) =>
        jn (fun (x5 : (((I .i64) × Unit) × (S_api_Pricer × (S_api_Report × (S_api_Pricer × (S_pricer_Outcome × (S_pricer_Outcome × Unit))))))) =>
          brn (@I.neb .i64 x5.1.1 (I.of .i64 0))
           (some (((Z_U, ((I.of .u64 0), ((I.of .u64 0), ((I.of .u64 0), (Z_S_api_Int256, ([], ())))))), (((I.of .u64 0), (Z_U, ([], ()))), (x5.1.1, ()))), ()))
           (some (((x5.2.1.1, ((@I.sub .u64 x5.2.1.2.1 x5.2.2.2.2.2.1.1), (x5.2.2.1.2.1, x5.2.1.2.2.2))), (x5.2.2.2.2.2.1, ((I.of .i64 0), ()))), ()))) fun j5 =>
        brn (@I.eqb .i64 x4.1.1 (I.of .i64 0))
         (optF (none) (pricer_adjust_k ((x4.2.1, (x4.2.2.1, (x4.2.2.2.1, (x4.2.2.2.2.2.2.2.1, ())))), ())) fun y6 =>
         j5 ((y6.1.2.1, ()), (y6.1.1, (x4.2.2.2.2.1, (x4.2.2.2.2.2.1, (x4.2.2.2.2.2.2.1, (x4.2.2.2.2.2.2.2.1, ())))))))
         (j5 ((x4.1.1, ()), (x4.2.1, (x4.2.2.2.2.1, (x4.2.2.2.2.2.1, (x4.2.2.2.2.2.2.1, (x4.2.2.2.2.2.2.2.1, ())))))))) fun j4 =>
      brn (@I.eqb .i64 x3.1.1 (I.of .i64 0))
       (optF (none) (payout_Apply_k ((x3.2.1.2.2.2.2.2.1, (x3.2.2.2.2.2.2.2.1.2.2.1, ())), ())) fun y5 =>
       j4 ((y5.1.2.1, ()), ((x3.2.1.1, (x3.2.1.2.1, (x3.2.1.2.2.1, (x3.2.1.2.2.2.1, (x3.2.1.2.2.2.2.1, (y5.1.1, x3.2.1.2.2.2.2.2.2)))))), (x3.2.2.1, (x3.2.2.2.1, (x3.2.2.2.2.1, (x3.2.2.2.2.2.1, (x3.2.2.2.2.2.2.1, (x3.2.2.2.2.2.2.2.1, ())))))))))
       (j4 ((x3.1.1, ()), (x3.2.1, (x3.2.2.1, (x3.2.2.2.1, (x3.2.2.2.2.1, (x3.2.2.2.2.2.1, (x3.2.2.2.2.2.2.1, (x3.2.2.2.2.2.2.2.1, ())))))))))) fun j3 =>
    brn (@I.eqb .i64 x2.1.1 (I.of .i64 0))
     (optF (none) (payout_Plan_k ((x2.2.1.2.2.2.2.2.1, (x2.2.2.2.1, ())), ())) fun y4 =>
     j3 ((y4.1.2.1, ()), (x2.2.1, (x2.2.2.1, (x2.2.2.2.1, (x2.2.2.2.2.1, (x2.2.2.2.2.2.1, (x2.2.2.2.2.2.2.1, ((x2.2.2.2.2.2.2.2.1.1, (x2.2.2.2.2.2.2.2.1.2.1, (y4.1.1, x2.2.2.2.2.2.2.2.1.2.2.2))), ())))))))))
     (j3 ((x2.1.1, ()), (x2.2.1, (x2.2.2.1, (x2.2.2.2.1, (x2.2.2.2.2.1, (x2.2.2.2.2.2.1, (x2.2.2.2.2.2.2.1, (x2.2.2.2.2.2.2.2.1, ())))))))))) fun j2 =>
  brn (@I.eqb .i64 y1.1.2.1 (I.of .i64 0))
   (optF (none) (poster_Accrue_k ((a.2.2.2.2.2.1, (d.1, (d.2.2.1, (y1.1.1.2.1, ((@I.add .u64 a.2.2.2.1 (I.of .u64 1)), ()))))), ())) fun y3 =>
   j2 ((y3.1.2.1, ()), ((a.1, (a.2.1, (a.2.2.1, ((@I.add .u64 a.2.2.2.1 (I.of .u64 1)), (a.2.2.2.2.1, (y3.1.1, a.2.2.2.2.2.2)))))), (b, (c, (d, ((Z_U, ((I.of .u64 0), ((I.of .u64 0), ((I.of .u64 0), (Z_S_api_Int256, ([], ())))))), (((I.of .u64 0), (Z_U, ([], ()))), (y1.1.1, ())))))))))
   (j2 ((y1.1.2.1, ()), (a, (b, (c, (d, ((Z_U, ((I.of .u64 0), ((I.of .u64 0), ((I.of .u64 0), (Z_S_api_Int256, ([], ())))))), (((I.of .u64 0), (Z_U, ([], ()))), (y1.1.1, ()))))))))))
theorem pricer_Report_k_eq : pricer_Report = pricer_Report_k := by
  funext x
  unfold pricer_Report pricer_Report_k
  rw [pricer_checkReport_k_eq, pricer_allocate_k_eq, poster_Accrue_k_eq, payout_Plan_k_eq, payout_Apply_k_eq, pricer_adjust_k_eq]
  all_goals kernel_rfl
noncomputable def pontagelaw21_awake_k (x : (⟨[], []⟩ : Tm).D) : Option (⟨[.pl .bool], []⟩ : Tm).D :=
 optF (none) (pricer_Genesis ((), ())) fun y0 =>
 optF (none) (pricer_AddPoster_k ((y0.1.1, ((I.of .u64 7), ())), ())) fun y1 =>
 optF (none) (params_Genesis ((), ())) fun y2 =>
 optF (none) (pricer_Report_k ((y1.1.1, (y2.1.1, (((I.of .u64 20), ((I.of .u64 0), ((I.of .u64 0), ((I.of .u64 0), ())))), (((I.of .u64 7), ((I.of .u64 0), (((I.of .u64 50), ((I.of .u64 0), ((I.of .u64 0), ((I.of .u64 0), ())))), ()))), ((I.of .u64 0), ()))))), ())) fun y3 =>
 optF (none) (params_Genesis ((), ())) fun y4 =>
 optF (none) (pricer_Report_k ((y1.1.1, (y4.1.1, (((I.of .u64 20), ((I.of .u64 0), ((I.of .u64 0), ((I.of .u64 0), ())))), (((I.of .u64 8), Z_S_api_Payment), ((I.of .u64 0), ()))))), ())) fun y5 =>
 brn (@I.eqb .i64 y1.1.2.1 (I.of .i64 0))
  (brn (@I.eqb .i64 y3.1.2.2.1 (I.of .i64 0))
   (brn (@I.eqb .i64 y5.1.2.2.1 (I.of .i64 8))
    (brn (@I.eqb .i64 (I.ofNat .i64 (@lenL S_api_Payment y3.1.2.1.2.2.1)) (I.of .i64 1))
     (brn (@inB .i64 (I.of .i64 0) (@lenL S_api_Payment y3.1.2.1.2.2.1))
      (brn (Ty.eqb Y_api_Payment (@rdL S_api_Payment Z_S_api_Payment y3.1.2.1.2.2.1 0) ((I.of .u64 7), (((I.of .u64 20), ((I.of .u64 0), ((I.of .u64 0), ((I.of .u64 0), ())))), ())))
       (brn (@I.eqb .i64 (I.ofNat .i64 (@lenL S_api_Poster y3.1.1.2.2.2.2.2.1)) (I.of .i64 1))
        (brn (@inB .i64 (I.of .i64 0) (@lenL S_api_Poster y3.1.1.2.2.2.2.2.1))
         (some (((Ty.eqb u256 (@rdL S_api_Poster Z_S_api_Poster y3.1.1.2.2.2.2.2.1 0).2.1 ((I.of .u64 30), ((I.of .u64 0), ((I.of .u64 0), ((I.of .u64 0), ()))))), ()), ()))
         (none))
        (some ((false, ()), ())))
       (some ((false, ()), ())))
      (none))
     (some ((false, ()), ())))
    (some ((false, ()), ())))
   (some ((false, ()), ())))
  (some ((false, ()), ()))
theorem pontagelaw21_awake_k_eq : pontagelaw21_awake = pontagelaw21_awake_k := by
  funext x
  unfold pontagelaw21_awake pontagelaw21_awake_k
  rw [pricer_AddPoster_k_eq, pricer_Report_k_eq]
  all_goals kernel_rfl
theorem awake21 : pontagelaw21_awake ((), ()) = some ((true, ()), ()) := by
  rw [pontagelaw21_awake_k_eq]
  kernel_rfl
end Sym

/- Pricer: the calls that the laws make; a report exhausts the pool. -/
namespace Sym
open Go
abbrev CT : Type := S_pontagelaw21_Call
abbrev CT.units (e : CT) : I .u64 := e.2.2.1
abbrev CT.rep (e : CT) : RepT := e.2.2.2.2.1
noncomputable def prJ (n : Nat) : PrT := ((I.of .u64 1000000000, (I.of .u64 0, (I.of .u64 0, (I.of .u64 0, ())))), (I.of .u64 0, (I.of .u64 0, (I.of .u64 0, (Z_S_api_Int256, ((List.range n).map fun k => newP (I.of .u64 ((k + 1 : Nat) : Int)), ()))))))
theorem gen_pr : pricer_Genesis ((), ()) = some ((prJ 0, ()), ()) := rfl
end Sym

/- Pricer: no unit is lost; the order of errors. -/
namespace Sym
open Go
noncomputable def prT3 (last : I .u64) : PrT := ((I.of .u64 1000000000, (I.of .u64 0, (I.of .u64 0, (I.of .u64 0, ())))), (I.of .u64 0, (last, (I.of .u64 0, (Z_S_api_Int256, ([newP (I.of .u64 3)], ()))))))
theorem add3 : pricer_AddPoster ((prJ 0, (I.of .u64 3, ())), ()) = some ((prT3 (I.of .u64 0), (I.of .i64 0, ())), ()) := by rw [pricer_AddPoster_k_eq]; kernel_rfl
theorem prT3_valid (last : I .u64) : prV (prT3 last) = true := by
  have h := PrValid_eq (prT3 (I.of .u64 0)) (by decide)
  have h2 : pricer_Valid ((prT3 (I.of .u64 0), ()), ()) = some ((true, ()), ()) := by rw [pricer_Valid_k_eq]; kernel_rfl
  rw [h2] at h
  have : prV (prT3 (I.of .u64 0)) = true := congrArg (fun o : Option ((Bool × Unit) × Unit) => match o with | some y => y.1.1 | none => true) h.symm
  exact this
theorem checkS_14 {s : PrT} {p : Prm} {r : RepT} {now : I .u64} (h1 : prV s = true) (h2 : validP p = true) (h3 : atN s.posters r.from' < s.posters.length) (h4 : ¬ (s.last.nat ≤ r.upto.nat ∧ r.upto.nat ≤ now.nat)) : checkS s p r now = I.of .i64 14 := by
  unfold checkS
  rw [if_pos h1, if_pos h2, if_pos h3, if_neg h4]
theorem checkS_2 {s : PrT} {p : Prm} {r : RepT} {now : I .u64} (h1 : prV s = true) (h2 : validP p = true) (h3 : atN s.posters r.from' < s.posters.length) (h4 : s.last.nat ≤ r.upto.nat ∧ r.upto.nat ≤ now.nat) (h5 : ¬ r.cost.val < BITS128) : checkS s p r now = I.of .i64 2 := by
  unfold checkS
  rw [if_pos h1, if_pos h2, if_pos h3, if_pos h4, if_neg h5]
theorem checkS_0 {s : PrT} {p : Prm} {r : RepT} {now : I .u64} (h1 : prV s = true) (h2 : validP p = true) (h3 : atN s.posters r.from' < s.posters.length) (h4 : s.last.nat ≤ r.upto.nat ∧ r.upto.nat ≤ now.nat) (h5 : r.cost.val < BITS128) (h6 : s.reports.nat ≠ 18446744073709551615) : checkS s p r now = I.of .i64 0 := by
  unfold checkS
  rw [if_pos h1, if_pos h2, if_pos h3, if_pos h4, if_pos h5, if_neg h6]
theorem rep_plain {s : PrT} {p : Prm} {pool : U} {r : RepT} {now : I .u64} (h : Chk s p r now) (hu : s.units.nat = 0) (hp : pool.val = 0)
    (hf : accFits (rdL dP s.posters (atN s.posters r.from')) r.cost (U.of 0)) (hs : sumN ((repL1 s p r now).map dueN) < U.top) : (reportS s p pool r now).2.2.val = 0 := by
  have hn : repN s r now = 0 := by
    have := (rep_zero_lt h).1
    omega
  have hw : p.rpu.val * repN s r now = 0 := by rw [hn]; rfl
  have ht : repTab s p r now = (repL1 s p r now, I.of .i64 0) := by
    unfold repTab accrueS
    rw [if_pos (by rw [hw]; exact hf)]
    rfl
  have hpay : ∀ l, repPay l pool = [] := fun l => by unfold repPay; rw [hp, planS_zero]
  unfold reportS
  rw [if_pos (check_of h), if_pos (by rw [hw]; decide), ht]
  simp only [hpay]
  rw [if_pos (show (I.of .i64 0).val = 0 from rfl), if_pos (show (applyS (repL1 s p r now) []).2.val = 0 from rfl)]
  have : (adjustS (repMid s (applyS (repL1 s p r now) []).1) p pool (repOut s p r now [])).2.val = 0 := by
    unfold adjustS
    rw [if_pos (by exact hs), if_pos (by show (I.of .u64 (repN s r now : Int)).nat = 0; rw [hn]; rfl)]
    rfl
  rw [if_pos this]
  rfl
noncomputable def errE (late great : Bool) : I .i64 := if late = true then I.of .i64 14 else if great = true then I.of .i64 2 else I.of .i64 0
theorem rep3_err (a upto now last : I .u64) (cost : U) (late great : Bool) (h1 : late = decide (¬ (last.nat ≤ upto.nat ∧ upto.nat ≤ now.nat))) (h2 : great = decide (¬ cost.val < BITS128)) :
    (reportS (prT3 last) genP Z_U (a, (upto, (cost, ()))) now).2.2 = if a.nat = 3 then errE late great else I.of .i64 8 := by
  have hV := prT3_valid last
  have hz := zU_of
  have e0 : (Z_U : U).val = 0 := rfl
  by_cases ha : a.nat = 3
  · have ha' : a = I.of .u64 3 := by have := nat_val a; exact I.ext' (by show a.val = 3; omega)
    subst ha'
    have hat : atN (prT3 last).posters (I.of .u64 3) = 0 := rfl
    rw [if_pos ha]
    by_cases hl : last.nat ≤ upto.nat ∧ upto.nat ≤ now.nat
    case neg =>
      have hc : checkS (prT3 last) genP (I.of .u64 3, (upto, (cost, ()))) now = I.of .i64 14 := checkS_14 hV genP_valid (by show 0 < 1; decide) hl
      unfold reportS errE
      rw [hc, if_neg (by decide), if_pos (by rw [h1]; exact decide_eq_true hl)]
    by_cases hcst : cost.val < BITS128
    case neg =>
      have hc : checkS (prT3 last) genP (I.of .u64 3, (upto, (cost, ()))) now = I.of .i64 2 := checkS_2 hV genP_valid (by show 0 < 1; decide) hl hcst
      unfold reportS errE
      rw [hc, if_neg (by decide), if_neg (by rw [h1, decide_eq_false (by simpa using hl)]; simp), if_pos (by rw [h2]; exact decide_eq_true hcst)]
    have hc : checkS (prT3 last) genP (I.of .u64 3, (upto, (cost, ()))) now = I.of .i64 0 := checkS_0 hV genP_valid (by show 0 < 1; decide) hl hcst (by show (0 : Nat) ≠ _; decide)
    have hC := check_zero (by rw [hc]; rfl)
    have hB : BITS128 < U.top := by decide
    have hw : genP.rpu.val * repN (prT3 last) (I.of .u64 3, (upto, (cost, ()))) now = 0 := by
      have h3 : repN (prT3 last) (I.of .u64 3, (upto, (cost, ()))) now ≤ (prT3 last).units.nat := (rep_zero_lt hC).1
      have h4 : (prT3 last).units.nat = 0 := rfl
      rw [show repN (prT3 last) (I.of .u64 3, (upto, (cost, ()))) now = 0 by omega]; rfl
    have hfit : accFits (rdL dP (prT3 last).posters (atN (prT3 last).posters (I.of .u64 3))) cost (U.of 0) := by
      rw [hat]
      have h0 : (U.of 0).val = 0 := rfl
      refine ⟨?_, ?_, ?_⟩
      · show (Z_U : U).val + (cost.val + (U.of 0).val) < _; omega
      · show (Z_U : U).val + cost.val < _; omega
      · show (Z_U : U).val + (U.of 0).val < _; rw [e0, h0]; decide
    have hr : (reportS (prT3 last) genP Z_U (I.of .u64 3, (upto, (cost, ()))) now).2.2.val = 0 := by
      refine rep_plain hC rfl rfl hfit ?_
      unfold repL1
      rw [hw]
      show (U.of ((Z_U : U).val + (cost.val + (U.of 0).val))).val + 0 < _
      have h0 : (U.of 0).val = 0 := rfl
      rw [U.val_of (by omega)]
      omega
    rw [i64_zero hr]
    unfold errE
    rw [if_neg (by rw [h1, decide_eq_false (by simpa using hl)]; simp), if_neg (by rw [h2, decide_eq_false (by simpa using hcst)]; simp)]
  · rw [if_neg ha]
    have hat : atN (prT3 last).posters a = 1 := atN_none (l := [newP (I.of .u64 3)]) fun k hk => by
      have : k = 0 := by simp at hk; omega
      subst this
      show I.eqb (I.of .u64 3) a = false
      rw [eqb_nat]
      exact decide_eq_false (fun h => ha h.symm)
    have hc : checkS (prT3 last) genP (a, (upto, (cost, ()))) now = I.of .i64 8 := by
      unfold checkS
      rw [if_pos hV, if_pos genP_valid, if_neg (by show ¬ atN (prT3 last).posters a < 1; rw [hat]; decide)]
    unfold reportS
    rw [hc, if_neg (by decide)]
theorem zP_invalid : validP (Z_S_api_Params : Prm) = false := by
  have h := PrmValid_eq (Z_S_api_Params : Prm)
  have h2 : params_Valid (((Z_S_api_Params : Prm), ()), ()) = some ((false, ()), ()) := by rw [params_Valid_k_eq]; kernel_rfl
  rw [h2] at h
  exact congrArg (fun o : Option ((Bool × Unit) × Unit) => match o with | some y => y.1.1 | none => false) h.symm
theorem errorOrder_law (a upto now last : I .u64) (cost : U) : pontagelaw21_PricerErrorOrder ((a, (upto, (now, (cost, (last, ()))))), ()) = some ((true, ()), ()) := by
  refine Wp.out (T := fun o => o = some ((true, ()), ())) ?_
  unfold pontagelaw21_PricerErrorOrder
  refine Wp.optF gen_pr (Wp.optF add3 (Wp.optF Genesis_eq ?_))
  refine Wp.optF (Report_eq (prT3 last) genP Z_U (a, (upto, (cost, ()))) now (by show 1 ≤ _; decide)) ?_
  refine Wp.optF (Report_eq (prT3 last) genP Z_U (I.of .u64 3, (upto, (cost, ()))) now (by show 1 ≤ _; decide)) ?_
  refine Wp.optF (Report_eq (prT3 last) (Z_S_api_Params : Prm) Z_U (a, (upto, (cost, ()))) now (by show 1 ≤ _; decide)) ?_
  have h5 : (reportS (prT3 last) (Z_S_api_Params : Prm) Z_U (a, (upto, (cost, ()))) now).2.2 = I.of .i64 15 := by
    have hc : checkS (prT3 last) (Z_S_api_Params : Prm) (a, (upto, (cost, ()))) now = I.of .i64 15 := by
      unfold checkS
      rw [if_pos (prT3_valid last), if_neg (by rw [zP_invalid]; simp)]
    unfold reportS
    rw [hc, if_neg (by decide)]
  rw [h5]
  obtain ⟨great, hg⟩ : ∃ great, great = decide (¬ cost.val < BITS128) := ⟨_, rfl⟩
  have key : ∀ late : Bool, late = decide (¬ (last.nat ≤ upto.nat ∧ upto.nat ≤ now.nat)) → (reportS (prT3 last) genP Z_U (a, (upto, (cost, ()))) now).2.2 = (if a.nat = 3 then errE late great else I.of .i64 8) ∧ (reportS (prT3 last) genP Z_U (I.of .u64 3, (upto, (cost, ()))) now).2.2 = errE late great := by
    intro late hl
    exact ⟨rep3_err a upto now last cost late great hl hg, rep3_err (I.of .u64 3) upto now last cost late great hl hg⟩
  have ha : I.neb a (I.of .u64 3) = decide (a.nat ≠ 3) := by
    have := nat_val a
    by_cases h : a.nat = 3
    · rw [decide_eq_false (by simpa using h)]; exact niff_neb.2 (by show a.val = 3; omega)
    · rw [decide_eq_true h]; exact iff_neb.2 (by show a.val ≠ 3; omega)
  have fin : ∀ late : Bool, late = decide (¬ (last.nat ≤ upto.nat ∧ upto.nat ≤ now.nat)) → ∀ (e3 e4 : I .i64), e3 = (if a.nat = 3 then errE late great else I.of .i64 8) → e4 = errE late great → True := fun _ _ _ _ _ _ => trivial
  refine Wp.jnI ?_
  obtain ⟨y, hy, k, rfl, hB, hk⟩ := BitLen_ok cost
  have hbit : I.ltb (I.of .i64 128) (i6 k) = great := by rw [bits_le hB hk, hg]
  obtain ⟨b3, hb3⟩ : ∃ b3, b3 = decide (a.nat ≠ 3) := ⟨_, rfl⟩
  refine Wp.brn (fun hc => ?_) (fun hc => ?_)
  · have hl : true = decide (¬ (last.nat ≤ upto.nat ∧ upto.nat ≤ now.nat)) := by
      rw [ltb_nat] at hc
      have := of_decide_eq_true hc
      exact (decide_eq_true (by omega)).symm
    have ⟨k1, k2⟩ := key true hl
    rw [k1, k2]
    refine Wp.optF hy ?_
    simp only [ha, hbit]
    by_cases h3 : a.nat = 3
    · rw [if_pos h3, decide_eq_false (by simpa using h3)]
      exact Wp.brnT rfl (Wp.brnT rfl (Wp.brnF rfl (Wp.brnT rfl (Wp.brnF rfl (Wp.brnT rfl (Wp.brnT rfl (Wp.optF awake21 rfl)))))))
    · rw [if_neg h3, decide_eq_true h3]
      exact Wp.brnT rfl (Wp.brnT rfl (Wp.brnF rfl (Wp.brnT rfl (Wp.brnF rfl (Wp.brnT rfl (Wp.brnT rfl (Wp.optF awake21 rfl)))))))
  · obtain ⟨late, hlt⟩ : ∃ late, late = I.ltb now upto := ⟨_, rfl⟩
    have hl : late = decide (¬ (last.nat ≤ upto.nat ∧ upto.nat ≤ now.nat)) := by
      rw [ltb_nat] at hc hlt
      have := of_decide_eq_false hc
      rw [hlt, decide_eq_decide]
      omega
    have ⟨k1, k2⟩ := key late hl
    rw [k1, k2, ← hlt]
    refine Wp.optF hy ?_
    simp only [ha, hbit]
    clear hl hlt key k1 k2 hbit hB hy hg
    by_cases h3 : a.nat = 3
    · rw [if_pos h3, decide_eq_false (by simpa using h3)]
      cases late <;> cases great
      · exact Wp.brnT rfl (Wp.brnT rfl (Wp.brnT rfl (Wp.brnT rfl (Wp.brnT rfl (Wp.brnT rfl (Wp.brnT rfl (Wp.optF awake21 rfl)))))))
      · exact Wp.brnT rfl (Wp.brnT rfl (Wp.brnT rfl (Wp.brnT rfl (Wp.brnT rfl (Wp.brnT rfl (Wp.brnT rfl (Wp.optF awake21 rfl)))))))
      · exact Wp.brnT rfl (Wp.brnT rfl (Wp.brnF rfl (Wp.brnT rfl (Wp.brnF rfl (Wp.brnT rfl (Wp.brnT rfl (Wp.optF awake21 rfl)))))))
      · exact Wp.brnT rfl (Wp.brnT rfl (Wp.brnF rfl (Wp.brnT rfl (Wp.brnF rfl (Wp.brnT rfl (Wp.brnT rfl (Wp.optF awake21 rfl)))))))
    · rw [if_neg h3, decide_eq_true h3]
      cases late <;> cases great
      · exact Wp.brnT rfl (Wp.brnT rfl (Wp.brnT rfl (Wp.brnT rfl (Wp.brnT rfl (Wp.brnT rfl (Wp.brnT rfl (Wp.optF awake21 rfl)))))))
      · exact Wp.brnT rfl (Wp.brnT rfl (Wp.brnT rfl (Wp.brnT rfl (Wp.brnT rfl (Wp.brnT rfl (Wp.brnT rfl (Wp.optF awake21 rfl)))))))
      · exact Wp.brnT rfl (Wp.brnT rfl (Wp.brnF rfl (Wp.brnT rfl (Wp.brnF rfl (Wp.brnT rfl (Wp.brnT rfl (Wp.optF awake21 rfl)))))))
      · exact Wp.brnT rfl (Wp.brnT rfl (Wp.brnF rfl (Wp.brnT rfl (Wp.brnF rfl (Wp.brnT rfl (Wp.brnT rfl (Wp.optF awake21 rfl)))))))
end Sym

/- From what a row reads of the arguments to plain values, and from a contract to the row's answer. -/
namespace Sym
open Go
mutual
def argB (P : Program) : Ty → TypeId → Bool
  | .cons a b, id => match P.underlying id with
    | some (.struct fs) => (match fs.toList with
      | f :: r => argB P a f.type && fargB P b r
      | [] => false)
    | _ => false
  | .arr _ t, id => match P.underlying id with
    | some (.array _ e) => argB P t e
    | _ => false
  | .sl t, id => match P.underlying id with
    | some (.slice e) => Nat.ble 1 t.sz && (Nat.ble 1 (P.bytesOf e) && argB P t e)
    | _ => false
  | .opq, _ => false
  | _, _ => true
def fargB (P : Program) : Ty → List Field → Bool
  | .cons a b, f :: r => argB P a f.type && fargB P b r
  | _, _ => true
end
theorem mapM_some {X Y : Type} {f : X → Option Y} : ∀ {l : List X} {r : List Y}, l.mapM f = some r → r.length = l.length ∧ ∀ (i : Nat) (a : X), l[i]? = some a → ∃ b, r[i]? = some b ∧ f a = some b
  | [], r, h => by
    simp only [List.mapM_nil, Option.pure_def, Option.some.injEq] at h
    subst h
    exact ⟨rfl, fun i a h => by simp at h⟩
  | a :: l, r, h => by
    simp only [List.mapM_cons, Option.bind_eq_bind, Option.bind_eq_some_iff, Option.pure_def, Option.some.injEq] at h
    obtain ⟨b, hb, s, hs, rfl⟩ := h
    obtain ⟨h1, h2⟩ := mapM_some hs
    refine ⟨by simp [h1], fun i x hx => ?_⟩
    cases i with
    | zero =>
      simp only [List.getElem?_cons_zero, Option.some.injEq] at hx
      subst hx
      exact ⟨b, by simp, hb⟩
    | succ i =>
      simp only [List.getElem?_cons_succ] at hx
      obtain ⟨y, h3, h4⟩ := h2 i x hx
      exact ⟨y, by simp [h3], h4⟩
theorem mapM_range {Y : Type} {f : Nat → Option Y} {n : Nat} {r : List Y} (h : (List.range n).mapM f = some r) : r.length = n ∧ ∀ i, i < n → ∃ b, r[i]? = some b ∧ f i = some b := by
  obtain ⟨h1, h2⟩ := mapM_some h
  refine ⟨by simpa using h1, fun i hi => h2 i i (by simp [hi])⟩
theorem exists_list {X : Type} : ∀ (n : Nat) (R : Nat → X → Prop), (∀ i, i < n → ∃ x, R i x) → ∃ l : List X, l.length = n ∧ ∀ i x, l[i]? = some x → R i x
  | 0, _, _ => ⟨[], rfl, fun i x h => by simp at h⟩
  | n + 1, R, h => by
    obtain ⟨x, hx⟩ := h 0 (by omega)
    obtain ⟨l, h1, h2⟩ := exists_list n (fun i x => R (i + 1) x) fun i hi => h (i + 1) (by omega)
    refine ⟨x :: l, by simp [h1], fun i y hy => ?_⟩
    cases i with
    | zero => simp only [List.getElem?_cons_zero, Option.some.injEq] at hy; subst hy; exact hx
    | succ i => exact h2 i y (by simpa using hy)
theorem exists_arr {X : Type} {E : X → List Value → Prop} {s : Nat} : ∀ (n : Nat) (cs : List Value), cs.length = n * s → (∀ i, i < n → ∃ x, E x ((cs.drop (i * s)).take s)) → ∃ x, EncArr E n x cs
  | 0, cs, hl, _ => ⟨(), by simp at hl; exact hl⟩
  | n + 1, cs, hl, h => by
    obtain ⟨x, hx⟩ := h 0 (by omega)
    simp only [Nat.zero_mul, List.drop_zero] at hx
    obtain ⟨y, hy⟩ := exists_arr (E := E) (s := s) n (cs.drop s) (by rw [List.length_drop, hl, Nat.succ_mul]; omega) fun i hi => by
      obtain ⟨z, hz⟩ := h (i + 1) (by omega)
      refine ⟨z, ?_⟩
      rw [List.drop_drop, show s + i * s = (i + 1) * s by rw [Nat.succ_mul]; omega]
      exact hz
    exact ⟨(x, y), cs.take s, cs.drop s, (List.take_append_drop s cs).symm, hx, hy⟩
theorem weightsAll_mem {H : Type} {P : Program} {e : TypeId} : ∀ {ds : List (DataW H)} {i : Nat} {d : DataW H}, ds[i]? = some d → ∀ n ∈ d.weights P e, n ∈ DataW.weightsAll P e ds
  | d0 :: ds, 0, d, hd, n, hn => by
    simp only [List.getElem?_cons_zero, Option.some.injEq] at hd
    subst hd
    simp only [DataW.weightsAll, List.mem_append]
    exact .inl hn
  | d0 :: ds, i + 1, d, hd, n, hn => by
    simp only [List.getElem?_cons_succ] at hd
    simp only [DataW.weightsAll, List.mem_append]
    exact .inr (weightsAll_mem hd n hn)
def strOf (s : ByteArray) : List (I .u8) := s.data.toList.map fun b => I.of .u8 b.toNat
theorem bytesOf_strOf (s : ByteArray) : bytesOf (strOf s) = s := by
  unfold bytesOf strOf
  cases s with | mk a =>
  congr 1
  rw [List.map_map]
  have : ((fun c : I .u8 => UInt8.ofNat c.val.toNat) ∘ fun b : UInt8 => I.of .u8 b.toNat) = id := by
    funext b
    simp only [Function.comp, id, I.of, IntKind.wrap, IntKind.bits, IntKind.signed, Bool.false_and, Bool.false_eq_true, if_false]
    have := b.toNat_lt
    rw [show ((b.toNat : Int) % 2 ^ 8) = (b.toNat : Int) by omega, Int.toNat_natCast]
    exact UInt8.ofNat_toNat
  rw [this, List.map_id, Array.toArray_toList]
section
variable {H : Type} {enc : TypeId × Value → H} {P : Program} {W : World} {base : Nat} {spare : Nat → Bool} {held : Bool}
abbrev GW (W : World) : Nat → Prop := fun r => r < W.heap.size
theorem cell_lt {a : Addr} {v : Value} (h : W.cell? a = some v) : a.spot = none ∧ a.block < W.heap.size := by
  unfold World.cell? at h
  split at h
  · rename_i c _ _ hc
    split at h
    · cases h
    · rename_i hs
      refine ⟨by simpa using hs, ?_⟩
      rw [Array.getElem?_eq_some_iff] at hc
      exact hc.1
  · cases h
theorem cells_row {base : Nat} {a : Addr} {n : Nat} {ds : List Value} (h : W.cells? base a n = some ds) : ds.length = n ∧ ∀ j d, ds[j]? = some d → W.cell? (a.add j) = some d := by
  unfold World.cells? at h
  split at h
  · obtain ⟨h1, h2⟩ := mapM_range h
    refine ⟨h1, fun j d hd => ?_⟩
    obtain ⟨b, h3, h4⟩ := h2 j (by rw [← h1]; exact (List.getElem?_eq_some_iff.1 hd).1)
    rw [h3] at hd
    rw [h4, hd]
  · cases h
theorem addr_add {a : Addr} (hs : a.spot = none) (n : Nat) : a.add n = ⟨a.block, a.off + n, none⟩ := by
  unfold Addr.add
  cases a
  simp only at hs
  subst hs
  split
  · rename_i h; subst h; rfl
  · rfl
theorem enc_of_trod : ∀ (t : Ty),
    (∀ fuel id cs (d : DataW H) (p : List MemPlace), TOk P t id → argB P t id = true → DataW.trod enc P W base spare held fuel id cs = some (d, p) → (∀ n ∈ d.weights P id, n ≤ reachBytes) → ∃ x, Enc W (GW W) t x cs) ∧
    (∀ fuel (r : List Field) (o : Nat) (cs : List Value) (xs : List (DataW H × List MemPlace)), FOk P t r o → fargB P t r = true → xs.length = r.length →
      (∀ (i : Nat) (f : Field), r[i]? = some f → DataW.trod enc P W base spare held fuel f.type ((cs.drop f.offset).take (P.cellsOf f.type)) = xs[i]?) →
      (∀ n ∈ DataW.weightsEach P (r.map (·.type)) (xs.map (·.1)), n ≤ reachBytes) → cs.length = o + t.sz → ∃ x, Enc W (GW W) t x (cs.drop o)) := by
  intro t
  have nofld : ∀ t, (∀ a b, t ≠ .cons a b) → t ≠ .nil → ∀ (r : List Field) (o : Nat), ¬ FOk P t r o := by
    intro t h1 h2 r o h
    cases t <;> first | exact h1 _ _ rfl | exact h2 rfl | (cases r <;> exact h.elim)
  induction t with
  | int k =>
    refine ⟨fun fuel id cs d p hT _ h _ => ?_, fun fuel r o cs xs h => (nofld _ (by simp) (by simp) _ _ h).elim⟩
    obtain ⟨n, hcs, _, hw⟩ := DataW.trod_int hT.2 h
    simp only [Lit.wf, Bool.and_eq_true, decide_eq_true_eq] at hw
    exact ⟨(⟨n, wrap_eq_of_range hw⟩ : I k), hcs⟩
  | bool =>
    refine ⟨fun fuel id cs d p hT _ h _ => ?_, fun fuel r o cs xs h => (nofld _ (by simp) (by simp) _ _ h).elim⟩
    obtain ⟨n, hcs, _⟩ := DataW.trod_bool hT.2 h
    exact ⟨n, hcs⟩
  | str =>
    refine ⟨fun fuel id cs d p hT _ h hw => ?_, fun fuel r o cs xs h => (nofld _ (by simp) (by simp) _ _ h).elim⟩
    obtain ⟨s, hcs, hx, _⟩ := DataW.trod_string hT.2 h
    simp only [Prod.mk.injEq] at hx
    obtain ⟨rfl, rfl⟩ := hx
    refine ⟨strOf s, ?_, ?_⟩
    · rw [bytesOf_strOf]; exact hcs
    · have := hw s.data.toList.length (by simp [DataW.weights])
      have h2 : (strOf s).length = s.data.toList.length := List.length_map _
      show (strOf s).length ≤ LIM
      rw [h2]
      simp only [reachBytes, LIM] at *
      omega
  | nil =>
    refine ⟨fun fuel id cs d p hT _ h hw => ?_, fun fuel r o cs xs h _ _ _ _ hl => ⟨(), ?_⟩⟩
    · obtain ⟨xs, n, _, _, hl, _⟩ := DataW.trod_struct hT.2 h
      rw [hT.1] at hl
      exact ⟨(), List.eq_nil_of_length_eq_zero hl⟩
    · show cs.drop o = []
      simp only [Ty.sz, Nat.add_zero] at hl
      rw [List.drop_eq_nil_iff]; omega
  | cons a b iha ihb =>
    refine ⟨fun fuel id cs d p hT hA h hw => ?_, fun fuel r o cs xs hF hA hlen hf hw hl => ?_⟩
    · obtain ⟨hsz, fs, f, r, hu, hfs, hf0, hTa, hFb⟩ := hT
      obtain ⟨xs, n, _, hx, hl, hlen, hfx⟩ := DataW.trod_struct hu h
      simp only [Prod.mk.injEq] at hx
      obtain ⟨rfl, rfl⟩ := hx
      simp only [argB, hu, hfs, Bool.and_eq_true] at hA
      have hfl : ∀ (i : Nat) (g : Field), (f :: r)[i]? = some g → DataW.trod enc P W base spare held n g.type ((cs.drop g.offset).take (P.cellsOf g.type)) = xs[i]? := by
        intro i g hg
        refine hfx i g ?_
        rw [← Array.getElem?_toList, hfs]
        exact hg
      have hlen' : xs.length = r.length + 1 := by rw [hlen, ← Array.length_toList, hfs]; rfl
      match xs, hlen' with
      | y :: ys, hlen' =>
        simp only [DataW.weights, hu, hfs, List.map_cons, DataW.weightsEach, List.mem_append] at hw
        have h0 := hfl 0 f rfl
        simp only [List.getElem?_cons_zero] at h0
        rw [hf0, hTa.size, List.drop_zero] at h0
        obtain ⟨x, hx⟩ := iha.1 n f.type _ y.1 y.2 hTa hA.1 h0 (fun m hm => hw m (.inl hm))
        obtain ⟨z, hz⟩ := ihb.2 n r a.sz cs ys hFb hA.2 (by simpa using hlen') (fun i g hg => by simpa using hfl (i + 1) g hg) (fun m hm => hw m (.inr hm)) (by rw [hl, hsz])
        exact ⟨(x, z), _, _, (List.take_append_drop a.sz cs).symm, hx, hz⟩
    · cases r with
      | nil => exact hF.elim
      | cons f r =>
        obtain ⟨hf0, hTa, hFb⟩ := hF
        simp only [fargB, Bool.and_eq_true] at hA
        match xs, hlen with
        | y :: ys, hlen =>
          simp only [List.map_cons, DataW.weightsEach, List.mem_append] at hw
          have h0 := hf 0 f rfl
          simp only [List.getElem?_cons_zero] at h0
          rw [hf0, hTa.size] at h0
          simp only [Ty.sz] at hl
          obtain ⟨x, hx⟩ := iha.1 fuel f.type _ y.1 y.2 hTa hA.1 h0 (fun m hm => hw m (.inl hm))
          obtain ⟨z, hz⟩ := ihb.2 fuel r (o + a.sz) cs ys hFb hA.2 (by simpa using hlen) (fun i g hg => by simpa using hf (i + 1) g hg) (fun m hm => hw m (.inr hm)) (by omega)
          refine ⟨(x, z), _, _, (List.take_append_drop a.sz (cs.drop o)).symm, hx, ?_⟩
          rw [List.drop_drop]
          exact hz
  | arr n t ih =>
    refine ⟨fun fuel id cs d p hT hA h hw => ?_, fun fuel r o cs xs h => (nofld _ (by simp) (by simp) _ _ h).elim⟩
    obtain ⟨hsz, e, hu, hTe⟩ := hT
    obtain ⟨xs, m, _, hx, hl, hlen, hfx⟩ := DataW.trod_array hu h
    simp only [Prod.mk.injEq] at hx
    obtain ⟨rfl, rfl⟩ := hx
    simp only [argB, hu] at hA
    simp only [DataW.weights, hu] at hw
    refine exists_arr n cs (by rw [hl, hsz]) fun i hi => ?_
    have h0 := hfx i hi
    rw [hTe.size, List.getElem?_eq_getElem (by omega)] at h0
    refine ih.1 m e _ (xs[i]'(by omega)).1 (xs[i]'(by omega)).2 hTe hA h0 fun k hk => hw k (weightsAll_mem (i := i) ?_ k hk)
    rw [List.getElem?_map, List.getElem?_eq_getElem (by omega)]; rfl
  | sl t ih =>
    refine ⟨fun fuel id cs d p hT hA h hw => ?_, fun fuel r o cs xs h => (nofld _ (by simp) (by simp) _ _ h).elim⟩
    obtain ⟨hsz, e, hu, hTe⟩ := hT
    simp only [argB, hu, Bool.and_eq_true] at hA
    obtain ⟨hA1, hA2, hA⟩ := hA
    have hA1 := Nat.le_of_ble_eq_true hA1
    have hA2 := Nat.le_of_ble_eq_true hA2
    rcases DataW.trod_slice hu h with ⟨rfl, _⟩ | ⟨a, len, cap, elems, rest, m, _, rfl, hx, _, hlc, _, hel, hfx, _, _⟩
    · refine ⟨([] : List t.D), none, 0, rfl, Nat.le_refl _, by simp, .inl rfl⟩
    · simp only [Prod.mk.injEq] at hx
      obtain ⟨rfl, rfl⟩ := hx
      simp only [DataW.weights, hu, List.mem_cons, List.mem_append] at hw
      have hb := hw _ (.inl rfl)
      have hlim : len ≤ LIM := by
        have h1 : len ≤ (elems.length + rest.length) * P.bytesOf e := by
          rw [← hel]
          refine Nat.le_trans ?_ (Nat.mul_le_mul_left _ hA2)
          omega
        simp only [List.length_map] at hb
        simp only [reachBytes, LIM] at *
        omega
      have key : ∀ i, i < len → a.spot = none ∧ a.block < W.heap.size ∧ ∃ x ds, Enc W (GW W) t x ds ∧ cellsAt W a.block (a.off + i * t.sz) ds := by
        have one : ∀ i, i < len → ∃ (ds : List Value) (x : t.D), ds.length = t.sz ∧ Enc W (GW W) t x ds ∧ ∀ j d, ds[j]? = some d → W.cell? ((a.add (i * t.sz)).add j) = some d := by
          intro i hi
          have h0 := hfx i hi
          rw [List.getElem?_eq_getElem (by omega)] at h0
          simp only [Option.bind_eq_some_iff] at h0
          obtain ⟨ds, h1, h2⟩ := h0
          obtain ⟨h3, h4⟩ := cells_row h1
          rw [hTe.size] at h3 h4
          obtain ⟨x, hx⟩ := ih.1 m e ds (elems[i]'(by omega)).1 (elems[i]'(by omega)).2 hTe hA h2 fun k hk => hw k (.inr (.inl (weightsAll_mem (i := i) (by rw [List.getElem?_map, List.getElem?_eq_getElem (by omega)]; rfl) k hk)))
          exact ⟨ds, x, h3, hx, h4⟩
        intro i hi
        obtain ⟨ds, x, h1, h2, h3⟩ := one i hi
        obtain ⟨ds0, _, g1, _, g3⟩ := one 0 (by omega)
        have c0 := g3 0 (ds0[0]'(by omega)) (List.getElem?_eq_getElem _)
        simp only [Nat.zero_mul] at c0
        have e0 : (a.add 0).add 0 = a := by simp [Addr.add]
        rw [e0] at c0
        obtain ⟨hs, hlt⟩ := cell_lt c0
        refine ⟨hs, hlt, x, ds, h2, fun j d hd => ?_⟩
        have := h3 j d hd
        rw [addr_add hs, addr_add rfl] at this
        exact this
      obtain ⟨l, hl1, hl2⟩ := exists_list len (fun i x => ∃ ds, Enc W (GW W) t x ds ∧ cellsAt W a.block (a.off + i * t.sz) ds) fun i hi => (key i hi).2.2
      refine ⟨l, some a, cap, ?_, ?_, ?_, ?_⟩
      · show [Value.slice (some a) len cap] = [Value.slice (some a) l.length cap]; rw [hl1]
      · show l.length ≤ cap; omega
      · show l.length ≤ LIM; omega
      · by_cases h0 : len = 0
        · left; show l = []; exact List.eq_nil_of_length_eq_zero (by omega)
        · obtain ⟨h1, h2, _⟩ := key 0 (by omega)
          exact .inr ⟨a, rfl, h1, h2, hl2⟩
  | opq => exact ⟨fun fuel id cs d p hT hA => by simp [argB] at hA, fun fuel r o cs xs h => (nofld _ (by simp) (by simp) _ _ h).elim⟩
end
theorem val_of_ok {P : Program} {W : World} {rr : Reach} {base : Nat} {id : TypeId} {v : Value} {t : Ty} (hT : TOk P t id) (hne : t ≠ .opq) (h : Value.okWide P W rr base id v) : v = mkV t.isAgg v.cells.toList := by
  have agg : (∃ cs, v = .agg cs) → v = mkV true v.cells.toList := by
    rintro ⟨cs, rfl⟩
    show Value.agg cs = .agg _
    congr 1
  cases t with
  | int k => obtain ⟨n, rfl⟩ := Go.WideShapes.okWide_int hT.2 h; rfl
  | bool => obtain ⟨n, rfl⟩ := Go.WideShapes.okWide_bool hT.2 h; rfl
  | str => obtain ⟨n, rfl⟩ := Go.WideShapes.okWide_string hT.2 h; rfl
  | sl t => obtain ⟨_, e, hu, _⟩ := hT; obtain ⟨a, l, c, rfl⟩ := Go.WideShapes.okWide_slice hu h; rfl
  | opq => exact (hne rfl).elim
  | nil => obtain ⟨_, hu⟩ := hT; simp only [Value.okWide, hu] at h; exact agg ⟨_, h.choose_spec.1⟩
  | cons a b => obtain ⟨_, fs, f, r, hu, _⟩ := hT; simp only [Value.okWide, hu] at h; exact agg ⟨_, h.choose_spec.1⟩
  | arr n t => obtain ⟨_, e, hu, _⟩ := hT; simp only [Value.okWide, hu] at h; exact agg ⟨_, h.choose_spec.1⟩
def Arr.all {X : Type} (p : X → Prop) : (n : Nat) → Arr X n → Prop
  | 0, _ => True
  | n + 1, x => p x.1 ∧ Arr.all p n x.2
def Ty.bd : (t : Ty) → t.D → Prop
  | .str, x => (show List (I .u8) from x).length ≤ LIM
  | .cons a b, x => a.bd x.1 ∧ b.bd x.2
  | .arr n t, x => Arr.all t.bd n x
  | .sl t, x => (show List t.D from x).length ≤ LIM ∧ ∀ (i : Nat) (y : t.D), (show List t.D from x)[i]? = some y → t.bd y
  | .int _, _ => True
  | .bool, _ => True
  | .nil, _ => True
  | .opq, _ => True
theorem EncArr_all {X : Type} {E : X → List Value → Prop} {p : X → Prop} (h : ∀ x cs, E x cs → p x) : ∀ (n : Nat) (x : Arr X n) (cs : List Value), EncArr E n x cs → Arr.all p n x
  | 0, _, _, _ => trivial
  | n + 1, x, cs, he => by
    obtain ⟨c1, c2, _, h1, h2⟩ := he
    exact ⟨h _ _ h1, EncArr_all h n x.2 c2 h2⟩
theorem Enc_bd {W : World} {G : Nat → Prop} : ∀ (t : Ty) (x : t.D) (cs : List Value), Enc W G t x cs → t.bd x := by
  intro t
  induction t with
  | int k => intro x cs _; trivial
  | bool => intro x cs _; trivial
  | nil => intro x cs _; trivial
  | opq => intro x cs _; trivial
  | str => intro x cs h; exact h.2
  | cons a b iha ihb => intro x cs h; obtain ⟨c1, c2, _, h1, h2⟩ := h; exact ⟨iha _ _ h1, ihb _ _ h2⟩
  | arr n t ih => intro x cs h; exact EncArr_all (fun x cs => ih x cs) n x cs h
  | sl t ih =>
    intro x cs h
    obtain ⟨a, c, _, _, hl, hx⟩ := h
    refine ⟨hl, fun i y hy => ?_⟩
    rcases hx with hx | ⟨ad, _, _, _, hr⟩
    · rw [hx] at hy; simp at hy
    · obtain ⟨ds, h1, _⟩ := hr i y hy
      exact ih y ds h1
def bdAll : (ts : List Ty) → ShD (ts.map .pl) → Prop
  | [], _ => True
  | t :: ts, x => t.bd x.1 ∧ bdAll ts x.2
def argsB (P : Program) : List Ty → List TypeId → Bool
  | [], [] => true
  | t :: ts, id :: ids => tokB P t id && (argB P t id && (P.readableRec id && (Nat.blt id P.types.size && argsB P ts ids)))
  | _, _ => false
section
variable {H : Type} {enc : TypeId × Value → H} {P : Program} {W : World}
def cx0 (W : World) : Cx := ⟨W, GW W, fun _ => .bool false, []⟩
theorem args_val {rr : Reach} {base : Nat} : ∀ (ts : List Ty) (ids : List TypeId) (vs : List Value) (ds : List (DataW H)) (ps : List MemPlace), argsB P ts ids = true →
    DataW.TrodAll enc P W 0 (fun _ => true) true ids vs ds ps → (∀ (j : Nat) t v, ids[j]? = some t → vs[j]? = some v → Value.okWide P W rr base t v) →
    (∀ n ∈ DataW.weightsEach P ids ds, n ≤ reachBytes) → ds.length = ts.length ∧ ∃ x : ShD (ts.map .pl), bdAll ts x ∧ All2 (VOk (cx0 W)) (mkSlots (ts.map .pl) x) vs
  | [], [], vs, ds, ps, _, hA, _, _ => by
    obtain ⟨rfl, rfl, rfl⟩ := Go.ChangeShapes.trodAll_nil hA
    exact ⟨rfl, (), trivial, trivial⟩
  | [], _ :: _, _, _, _, h, _, _, _ => by cases h
  | _ :: _, [], _, _, _, h, _, _, _ => by cases h
  | t :: ts, id :: ids, vs, ds, ps, h, hA, hv, hw => by
    simp only [argsB, Bool.and_eq_true] at h
    obtain ⟨h1, h2, _, _, h5⟩ := h
    obtain ⟨v, vs', d, ds', p, q, rfl, rfl, rfl, ⟨fuel, hd⟩, hrest⟩ := Go.ChangeShapes.trodAll_cons hA
    simp only [DataW.weightsEach, List.mem_append] at hw
    have hT := (tok_both P t).1 id h1
    obtain ⟨x, hx⟩ := (enc_of_trod t).1 fuel id _ d p hT h2 hd fun n hn => hw n (.inl hn)
    obtain ⟨hl, y, hbd, hy⟩ := args_val ts ids vs' ds' q h5 hrest (fun j t v ht hv' => hv (j + 1) t v (by simpa using ht) (by simpa using hv')) fun n hn => hw n (.inr hn)
    refine ⟨by simp [hl], (x, y), ⟨Enc_bd t x _ hx, hbd⟩, ?_, hy⟩
    refine ⟨_, hx, ?_⟩
    exact val_of_ok hT (by rintro rfl; simp [argB] at h2) (hv 0 id v rfl rfl)
theorem trodAll_below (hl : laidOutB P = true) {W' : World} (hb : Go.RowKit.Below W.heap.size W W') : ∀ (ts : List Ty) (ids : List TypeId) (vs : List Value) (ds : List (DataW H)) (ps : List MemPlace), argsB P ts ids = true →
    DataW.TrodAll enc P W 0 (fun _ => true) true ids vs ds ps → (∀ x ∈ ps, x.block < W.heap.size) → DataW.TrodAll enc P W' 0 (fun b => decide (b < W.heap.size)) true ids vs ds ps
  | [], [], vs, ds, ps, _, hA, _ => by
    obtain ⟨rfl, rfl, rfl⟩ := Go.ChangeShapes.trodAll_nil hA
    exact Go.ChangeShapes.trodAll_mk0
  | [], _ :: _, _, _, _, h, _, _ => by cases h
  | _ :: _, [], _, _, _, h, _, _ => by cases h
  | t :: ts, id :: ids, vs, ds, ps, h, hA, hlt => by
    simp only [argsB, Bool.and_eq_true] at h
    obtain ⟨_, _, h3, h4, h5⟩ := h
    obtain ⟨v, vs', d, ds', p, q, rfl, rfl, rfl, hd, hrest⟩ := Go.ChangeShapes.trodAll_cons hA
    refine ⟨p, q, Go.RowKit.Below.trod hl h3 (Nat.lt_of_succ_le (Nat.le_of_ble_eq_true h4)) hd hb fun x hx => hlt x (by simp [hx]), ?_, rfl⟩
    exact trodAll_below hl hb ts ids vs' ds' q h5 hrest fun x hx => hlt x (by simp [hx])
theorem start0 : Start (cx0 W) := by
  have hu : ∀ b, blkAt (cx0 W).H b = .unborn := fun b => by simp [cx0, blkAt]
  refine ⟨fun b => ?_, fun b b' r h => ?_, fun r hr => ⟨hr, fun b h => ?_⟩⟩
  · unfold BlkOk; rw [hu]; trivial
  · rw [hu] at h; cases h
  · rw [hu] at h; cases h
theorem row_of_con {C : Checked} {f : FuncId} {fn : Func} {s : ChangeSpec} {ts : List Ty} {bt : TypeId} {F : (⟨ts.map .pl, []⟩ : Tm).D → Option (⟨[.pl .bool], []⟩ : Tm).D}
    (hl : laidOutB C.prog = true) (hfn : C.prog.funcs[f]? = some fn) (hbody : fn.body.isSome = true) (hname : (fn.name == "runtime.NumGoroutine") = false)
    (hargs : argsB C.prog ts fn.params.toList = true) (hres : fn.resultTypes = #[bt]) (hbt : C.prog.underlying bt = some .bool) (hvars : s.vars = [])
    (hs : ∀ ds : List (DataW H), ds.length = ts.length → s.fn H ds = { results := [.lit (.bool true)], args := ds })
    (hcon : ConOk C.prog f ⟨⟨ts.map .pl, []⟩, ⟨[.pl .bool], []⟩, F⟩) (hF : ∀ x, bdAll ts x → F (x, ()) = some ((true, ()), ()))
    (base : Nat) (args : Array Value) (ds gs : List (DataW H)) (before : List MemPlace)
    (hval : ∀ (j : Nat) t v, fn.params[j]? = some t → args[j]? = some v → Value.okWide C.prog W .any base t v)
    (hW : DataW.Whole enc C.prog fn.params.toList s.vars false W args.toList ds gs before)
    (hsz : (DataW.weightsEach C.prog (fn.params.toList ++ s.plain.varTypes C.prog) (ds ++ gs)).all (· ≤ reachBytes) = true) :
    Calls C.prog f args W fun e W' => ∃ v, e = .returned v ∧ s.post enc C.prog fn false true false false W args v W' := by
  have hW' := hW
  obtain ⟨p, q, hA, hV, rfl, hfz, hnd⟩ := hW
  rw [hvars] at hV
  obtain ⟨rfl, rfl⟩ := Go.ChangeShapes.trodVars_none hV
  have hvt : s.plain.varTypes C.prog = [] := by simp [DataSpec.varTypes, ChangeSpec.plain, hvars]
  rw [hvt, List.append_nil, List.append_nil, List.all_eq_true] at hsz
  obtain ⟨hlen, x, hbd, hx⟩ := args_val (P := C.prog) ts fn.params.toList args.toList ds p hargs hA
    (fun j t v h1 h2 => hval j t v (by rw [← Array.getElem?_toList]; exact h1) (by rw [← Array.getElem?_toList]; exact h2)) fun n hn => of_decide_eq_true (hsz n hn)
  have key := hcon (x, ()) ((true, ()), ()) (hF x hbd) (cx0 W) args.toList start0 rfl hx
  rw [Array.toArray_toList] at key
  obtain ⟨b, hb⟩ := Option.isSome_iff_exists.1 hbody
  have hent := run_callFunc (args := args) (w := W) hfn hb hname
  rcases key with ⟨v, w', h1, _⟩ | ⟨_, h⟩
  · change (callFunc f args).run C.prog W = _ at h1
    rw [hent] at h1
    cases h1
  · refine h.mono fun e w' hr => ?_
    obtain ⟨v, he, c', hw, hH, hv, hM, _⟩ := hr
    subst he hw
    refine ⟨v, rfl, ?_⟩
    have hown : ∀ r, ¬ ownOf (cx0 W) r := by
      rintro r ⟨b, hb, _⟩
      simp [cx0, blkAt, live] at hb
    have bel : Go.RowKit.Below W.heap.size W c'.w := ⟨hM.os, hM.tape, hM.output, hM.size, fun k hk => hM.frame k hk (hown k)⟩
    obtain ⟨cs, hcs, hv⟩ := hv
    have hcs : cs = [.bool true] := hcs
    subst hcs
    have hv : v = .bool true := hv
    subst hv
    have hfnH := hs ds hlen
    refine ⟨ds, [], _, [], p, [], hW', ?_, ?_, ?_, bel.frame _, fun h => by cases h⟩
    · rw [List.append_nil, hfnH, hres]
      exact Go.ChangeShapes.trodAll_mk1 (Go.RowKit.shut_bool hbt _)
    · rw [List.append_nil, hfnH]
      refine trodAll_below hl bel ts _ _ _ _ hargs hA fun x hx => ?_
      exact DataW.TrodAll.lt hA x hx
    · rw [List.append_nil, hfnH, hvars]
      rfl
end
end Sym
