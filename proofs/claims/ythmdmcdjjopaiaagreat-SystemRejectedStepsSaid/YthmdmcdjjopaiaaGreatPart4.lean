/- The given functions as plain functions, as the printer told them. -/
import Derived.Shelf.Spec.SlicesInsertGrow
import Derived.Shelf.SlBodiesN
import Derived.Shelf.SlGeneric
import Derived.Shelf.RegionOpenPlain
import Derived.WalkKit
import Derived.Deep.LoopGhost
import Derived.Deep.RegionLaw
import Derived.Lib.Walk
import Derived.Sort.WalkB12
import Derived.Lib.SliceRun
import Derived.Test.YthmdmcdjjopaiaaGreatPart3
namespace Sym
open Go
noncomputable section
def KS_0001020203030303_256_633d86:List (I .u8):=bytesL [0,1,2,2,3,3,3,3,4,4,4,4,4,4,4,4,5,5,5,5,5,5,5,5,5,5,5,5,5,5,5,5,6,6,6,6,6,6,6,6,6,6,6,6,6,6,6,6,6,6,6,6,6,6,6,6,6,6,6,6,6,6,6,6,7,7,7,7,7,7,7,7,7,7,7,7,7,7,7,7,7,7,7,7,7,7,7,7,7,7,7,7,7,7,7,7,7,7,7,7,7,7,7,7,7,7,7,7,7,7,7,7,7,7,7,7,7,7,7,7,7,7,7,7,7,7,7,7,8,8,8,8,8,8,8,8,8,8,8,8,8,8,8,8,8,8,8,8,8,8,8,8,8,8,8,8,8,8,8,8,8,8,8,8,8,8,8,8,8,8,8,8,8,8,8,8,8,8,8,8,8,8,8,8,8,8,8,8,8,8,8,8,8,8,8,8,8,8,8,8,8,8,8,8,8,8,8,8,8,8,8,8,8,8,8,8,8,8,8,8,8,8,8,8,8,8,8,8,8,8,8,8,8,8,8,8,8,8,8,8,8,8,8,8,8,8,8,8,8,8,8,8,8,8,8,8]
abbrev S_api_Int256:Type:=Bool × (U × Unit)
noncomputable abbrev Z_S_api_Int256:S_api_Int256:=(false,(Z_U,()))
abbrev S_api_Report:Type:=(I .u64) × a0D
abbrev S_pricer_Outcome:Type:=(I .u64) × (U × ((List a0D) × Unit))
abbrev a1R:Type:=(I .u64) × ((I .u64) × ((I .u64) × (U × ((I .u64) × (U × ((I .u64) × (U × U)))))))
noncomputable abbrev Z_S_api_Params:a1R:=((I.of .u64 0),((I.of .u64 0),((I.of .u64 0),(Z_U,((I.of .u64 0),(Z_U,((I.of .u64 0),(Z_U,Z_U))))))))
abbrev S_api_Pricer:Type:=U × ((I .u64) × ((I .u64) × ((I .u64) × (S_api_Int256 × ((List a0E) × Unit)))))
abbrev a0O:Ty:=.cons .bool (.cons a1A .nil)
abbrev a0P:Ty:=.cons (.int .u64) (.cons a1A .nil)
abbrev a0J:Ty:=.cons (.int .u64) a0P
abbrev Y_runtime_boundsError:Ty:=.cons (.int .i64) (.cons (.int .i64) (.cons .bool (.cons (.int .u8) .nil)))
abbrev a1N:Ty:=.cons (.int .u64) (.cons a1A (.cons (.sl a0P) .nil))
abbrev a0L:Ty:=.cons (.int .u64) (.cons a1A (.cons a1A (.cons a1A (.cons a1A (.cons (.int .u64) .nil)))))
abbrev a1Q:Ty:=.cons a0L (.cons (.int .i64) .nil)
abbrev Y_debtqueue_Queue:Ty:=.cons (.sl a1Q) .nil
abbrev a0I:Ty:=.cons (.int .u64) (.cons (.int .u64) (.cons (.int .u64) (.cons a1A (.cons (.int .u64) (.cons a1A (.cons (.int .u64) (.cons a1A (.cons (.int .u64) (.cons (.int .u64) (.cons (.int .u64) (.cons (.int .u64) .nil)))))))))))
abbrev a0N:Ty:=.cons a1A (.cons (.int .u64) (.cons (.int .u64) (.cons (.int .u64) (.cons a0O (.cons (.sl a0L) .nil)))))
def pricer_Genesis (K:Nat) (x:(⟨[],[]⟩:Tm).D):Option (⟨[.pl a0N],[]⟩:Tm).D :=
 optF none (a0Q K ((I.of .u64 1000000000,()),())) fun y0=>some (((y0.1.1,(I.of .u64 0,(I.of .u64 0,(I.of .u64 0,(Z_S_api_Int256,([],())))))),()),())
def pricer_Valid (K:Nat) (x:(⟨[.pl a0N],[]⟩:Tm).D):Option (⟨[.pl .bool],[]⟩:Tm).D :=
 let a:S_api_Pricer:=x.1.1
 iter none (fun x0=>brn (I.ltb x0.1.2.2.1 x0.1.2.1) (brn (inB x0.1.2.2.1 (@a1I a0E x0.1.1)) (brn (I.ltb x0.2.1.2.2.2.1 (@rdL a0E a1E x0.1.1 (I.nat x0.1.2.2.1)).2.2.2.2.2.1) (.done (some ((false,()),()))) (.again ((x0.1.1,(x0.1.2.1,((I.add x0.1.2.2.1 (I.of .i64 1)),()))),(x0.2.1,())))) (.done none)) (.done (optF none (poster_Valid K ((x0.2.1.2.2.2.2.2.1,()),())) fun y1=>brn y1.1.1 (optF none (int256_Valid K ((x0.2.1.2.2.2.2.1,()),())) fun y2=>some ((y2.1.1,()),())) (some ((false,()),()))))) K ((a.2.2.2.2.2.1,((I.ofNat .i64 (@a1I a0E a.2.2.2.2.2.1)),(I.of .i64 0,()))),(a,()))
def poster_Add (K:Nat) (x:(⟨[.pl (.sl a0L),.pl (.int .u64)],[]⟩:Tm).D):Option (⟨[.pl (.sl a0L),.pl (.int .i64)],[]⟩:Tm).D :=
 let a:(List a0E):=x.1.1
 let b:(I .u64):=x.1.2.1
 jn (fun (x0:(((List a0E) × ((I .u64) × Unit)) × Unit))=>jn (fun (x1:(((List a0E) × ((I .u64) × ((I .i64) × Unit))) × Unit))=>optF none (a0S K ((x1.1.1,()),())) fun y2=>optF none (insertF ((x1.1.2.2.1,()),(y2.2.1,(((x1.1.2.1,(Z_U,(Z_U,(Z_U,(Z_U,(I.of .u64 0,()))))))::[]),())))) fun y3=>some ((y3.2.1,(I.of .i64 0,())),())) fun j1=>iter none (fun x2=>brn (I.ltb x2.1.2.2.1 (I.ofNat .i64 (@a1I a0E x2.1.1))) (brn (inB x2.1.2.2.1 (@a1I a0E x2.1.1)) (brn (I.ltb (@rdL a0E a1E x2.1.1 (I.nat x2.1.2.2.1)).1 x2.1.2.1) (.again ((x2.1.1,(x2.1.2.1,((I.add x2.1.2.2.1 (I.of .i64 1)),()))),())) (.done (j1 ((x2.1.1,(x2.1.2.1,(x2.1.2.2.1,()))),())))) (.done none)) (.done (j1 ((x2.1.1,(x2.1.2.1,(x2.1.2.2.1,()))),())))) K ((x0.1.1,(x0.1.2.1,(I.of .i64 0,()))),())) fun j0=>jn (fun (x1:(((List a0E) × ((I .u64) × (Bool × Unit))) × Unit))=>brn x1.1.2.2.1 (some (([],(I.of .i64 2,())),())) (optF none (poster_Find K ((x1.1.1,(x1.1.2.1,())),())) fun y2=>brn (I.leb (I.of .i64 0) y2.1.1) (some (([],(I.of .i64 9,())),())) (brn (I.eqb (I.ofNat .i64 (@a1I a0E x1.1.1)) (I.of .i64 64)) (some (([],(I.of .i64 7,())),())) (j0 ((x1.1.1,(x1.1.2.1,())),()))))) fun j1=>optF none (poster_Valid K ((a,()),())) fun y2=>brn (bnot y2.1.1) (j1 ((a,(b,(true,()))),())) (j1 ((a,(b,((I.eqb b (I.of .u64 0)),()))),()))
def pricer_AddPoster (K:Nat) (x:(⟨[.pl a0N,.pl (.int .u64)],[]⟩:Tm).D):Option (⟨[.pl a0N,.pl (.int .i64)],[]⟩:Tm).D :=
 let a:S_api_Pricer:=x.1.1
 let b:(I .u64):=x.1.2.1
 optF none (pricer_Valid K ((a,()),())) fun y0=>brn (bnot y0.1.1) (some (((Z_U,(I.of .u64 0,(I.of .u64 0,(I.of .u64 0,(Z_S_api_Int256,([],())))))),(I.of .i64 2,())),())) (optF none (poster_Add K ((a.2.2.2.2.2.1,(b,())),())) fun y1=>brn (I.neb y1.1.2.1 (I.of .i64 0)) (some (((Z_U,(I.of .u64 0,(I.of .u64 0,(I.of .u64 0,(Z_S_api_Int256,([],())))))),(y1.1.2.1,())),())) (some (((a.1,(a.2.1,(a.2.2.1,(a.2.2.2.1,(a.2.2.2.2.1,(y1.1.1,a.2.2.2.2.2.2)))))),(I.of .i64 0,())),())))
def math_bits_Len64 (K:Nat) (x:(⟨[.pl (.int .u64)],[]⟩:Tm).D):Option (⟨[.pl (.int .i64)],[]⟩:Tm).D :=
 let a:(I .u64):=x.1.1
 jn (fun (x0:(((I .u64) × ((I .i64) × Unit)) × Unit))=>jn (fun (x1:(((I .u64) × ((I .i64) × Unit)) × Unit))=>brn (I.leb (I.of .u64 256) x1.1.1) (brn (inB (I.conv (k:=.u64) .u8 (I.shr x1.1.1 (I.of .u64 8))) 256) (some (((I.add (I.add x1.1.2.1 (I.of .i64 8)) (I.conv (k:=.u8) .i64 (@rdL (I .u8) (I.of .u8 0) KS_0001020203030303_256_633d86 (I.nat (I.conv (k:=.u64) .u8 (I.shr x1.1.1 (I.of .u64 8))))))),()),())) none) (brn (inB (I.conv (k:=.u64) .u8 x1.1.1) 256) (some (((I.add x1.1.2.1 (I.conv (k:=.u8) .i64 (@rdL (I .u8) (I.of .u8 0) KS_0001020203030303_256_633d86 (I.nat (I.conv (k:=.u64) .u8 x1.1.1))))),()),())) none)) fun j1=>brn (I.leb (I.of .u64 65536) x0.1.1) (j1 (((I.shr x0.1.1 (I.of .u64 16)),((I.add x0.1.2.1 (I.of .i64 16)),())),())) (j1 ((x0.1.1,(x0.1.2.1,())),()))) fun j0=>brn (I.leb (I.of .u64 4294967296) a) (j0 (((I.shr a (I.of .u64 32)),(I.of .i64 32,())),())) (j0 ((a,(I.of .i64 0,())),()))
def uint256_BitLen (K:Nat) (x:(⟨[.pl a1A],[]⟩:Tm).D):Option (⟨[.pl (.int .i64)],[]⟩:Tm).D :=
 let a:U:=x.1.1
 iter none (fun x0=>brn (I.leb (I.of .i64 0) x0.1.1) (brn (inB x0.1.1 4) (brn (I.neb (@Arr.sel (I .u64) (I.of .u64 0) 4 x0.2.1 (I.nat x0.1.1)) (I.of .u64 0)) (brn (inB x0.1.1 4) (optF (.done none) (math_bits_Len64 K (((@Arr.sel (I .u64) (I.of .u64 0) 4 x0.2.1 (I.nat x0.1.1)),()),())) fun y1=>.done (some (((I.add (I.mul (I.of .i64 64) x0.1.1) y1.1.1),()),()))) (.done none)) (.again (((I.sub x0.1.1 (I.of .i64 1)),()),(x0.2.1,())))) (.done none)) (.done (some ((I.of .i64 0,()),())))) K ((I.of .i64 3,()),(a,()))
def pricer_checkReport (K:Nat) (x:(⟨[.pl a0N,.pl a0I,.pl a0J,.pl (.int .u64)],[]⟩:Tm).D):Option (⟨[.pl (.int .i64)],[]⟩:Tm).D :=
 let a:S_api_Pricer:=x.1.1
 let b:a1R:=x.1.2.1
 let c:S_api_Report:=x.1.2.2.1
 let d:(I .u64):=x.1.2.2.2.1
 optF none (pricer_Valid K ((a,()),())) fun y0=>brn (bnot y0.1.1) (some ((I.of .i64 2,()),())) (optF none (params_Valid K ((b,()),())) fun y1=>brn (bnot y1.1.1) (some ((I.of .i64 15,()),())) (optF none (poster_Find K ((a.2.2.2.2.2.1,(c.1,())),())) fun y2=>brn (I.ltb y2.1.1 (I.of .i64 0)) (some ((I.of .i64 8,()),())) (jn (fun (x3:((Bool × Unit) × (S_api_Pricer × (S_api_Report × Unit))))=>brn x3.1.1 (some ((I.of .i64 14,()),())) (optF none (uint256_BitLen K ((x3.2.2.1.2.2.1,()),())) fun y4=>brn (I.ltb (I.of .i64 128) y4.1.1) (some ((I.of .i64 2,()),())) (brn (I.eqb x3.2.1.2.2.2.1 (I.of .u64 18446744073709551615)) (some ((I.of .i64 4,()),())) (some ((I.of .i64 0,()),()))))) fun j3=>brn (I.ltb c.2.1 a.2.2.1) (j3 ((true,()),(a,(c,())))) (j3 (((I.ltb d c.2.1),()),(a,(c,())))))))
def alloc_Allocate (K:Nat) (x:(⟨[.pl (.int .u64),.pl (.int .u64),.pl (.int .u64),.pl (.int .u64)],[]⟩:Tm).D):Option (⟨[.pl (.int .u64),.pl (.int .i64)],[]⟩:Tm).D :=
 let a:(I .u64):=x.1.1
 let b:(I .u64):=x.1.2.1
 let c:(I .u64):=x.1.2.2.1
 let d:(I .u64):=x.1.2.2.2.1
 jn (fun (x0:(U × Unit))=>optF none (a0Q K ((x0.1.1,()),())) fun y1=>optF none (a0Q K (((I.sub x0.1.2.2.1 x0.1.2.1),()),())) fun y2=>optF none (a0Q K (((I.sub x0.1.2.2.2.1 x0.1.2.1),()),())) fun y3=>optF none (muldiv_MulDivFloor K ((y1.1.1,(y2.1.1,(y3.1.1,()))),())) fun y4=>some ((y4.1.1.1,(y4.1.2.1,())),())) fun j0=>jn (fun (x1:(((I .u64) × ((I .u64) × ((I .u64) × ((I .u64) × (Bool × Unit))))) × Unit))=>brn x1.1.2.2.2.2.1 (some ((I.of .u64 0,(I.of .i64 14,())),())) (brn (I.eqb x1.1.2.2.2.1 x1.1.2.1) (some ((x1.1.1,(I.of .i64 0,())),())) (j0 ((x1.1.1,(x1.1.2.1,(x1.1.2.2.1,(x1.1.2.2.2.1,())))),())))) fun j1=>brn (I.ltb c b) (j1 ((a,(b,(c,(d,(true,()))))),())) (j1 ((a,(b,(c,(d,((I.ltb d c),()))))),()))
def pricer_allocate (K:Nat) (x:(⟨[.pl a0N,.pl a0I,.pl a0J,.pl (.int .u64)],[]⟩:Tm).D):Option (⟨[.pl a1N,.pl (.int .i64)],[]⟩:Tm).D :=
 let a:S_api_Pricer:=x.1.1
 let b:a1R:=x.1.2.1
 let c:S_api_Report:=x.1.2.2.1
 let d:(I .u64):=x.1.2.2.2.1
 optF none (alloc_Allocate K ((a.2.1,(a.2.2.1,(c.2.1,(d,())))),())) fun y0=>brn (I.neb y0.1.2.1 (I.of .i64 0)) (some (((I.of .u64 0,(Z_U,([],()))),(y0.1.2.1,())),())) (optF none (a0Q K ((y0.1.1,()),())) fun y1=>optF none (uint256_Mul K ((b.2.2.2.2.2.2.2.1,(y1.1.1,())),())) fun y2=>brn (I.neb y2.1.2.1 (I.of .i64 0)) (some (((I.of .u64 0,(Z_U,([],()))),(y2.1.2.1,())),())) (some (((y0.1.1,(y2.1.1,([],()))),(I.of .i64 0,())),())))
def poster_Accrue (K:Nat) (x:(⟨[.pl (.sl a0L),.pl (.int .u64),.pl a1A,.pl a1A,.pl (.int .u64)],[]⟩:Tm).D):Option (⟨[.pl (.sl a0L),.pl (.int .i64)],[]⟩:Tm).D :=
 let a:(List a0E):=x.1.1
 let b:(I .u64):=x.1.2.1
 let c:U:=x.1.2.2.1
 let d:U:=x.1.2.2.2.1
 let e:(I .u64):=x.1.2.2.2.2.1
 optF none (poster_Find K ((a,(b,())),())) fun y0=>jn (fun (x1:(((List a0E) × ((I .u64) × ((I .i64) × Unit))) × (U × (U × Unit))))=>brn (inB x1.1.2.2.1 (@a1I a0E x1.1.1)) (optF none (uint256_Add ((x1.2.1,(x1.2.2.1,())),())) fun y2=>optF none (uint256_Add (((@rdL a0E a1E x1.1.1 (I.nat x1.1.2.2.1)).2.1,(y2.1.1,())),())) fun y3=>optF none (uint256_Add (((@rdL a0E a1E x1.1.1 (I.nat x1.1.2.2.1)).2.2.1,(x1.2.1,())),())) fun y4=>optF none (uint256_Add (((@rdL a0E a1E x1.1.1 (I.nat x1.1.2.2.1)).2.2.2.1,(x1.2.2.1,())),())) fun y5=>jn (fun (x6:(((List a0E) × ((I .u64) × ((I .i64) × Unit))) × (a0E × (U × (U × (U × Unit))))))=>jn (fun (x7:(((List a0E) × ((I .i64) × Unit)) × (a0E × (U × (U × (U × Unit))))))=>optF none (a0S K ((x7.1.1,()),())) fun y8=>brn (inB x7.1.2.1 (@a1I a0E y8.2.1)) (some (((@setL a0E y8.2.1 (I.nat x7.1.2.1) (x7.2.1.1,(x7.2.2.1,(x7.2.2.2.1,(x7.2.2.2.2.1,x7.2.1.2.2.2.2))))),(I.of .i64 0,())),())) none) fun j7=>optF none (poster_isZero K ((x6.2.1.2.1,()),())) fun y8=>brn y8.1.1 (optF none (poster_isZero K ((x6.2.2.1,()),())) fun y9=>brn (bnot y9.1.1) (j7 ((x6.1.1,(x6.1.2.2.1,())),((x6.2.1.1,(x6.2.1.2.1,(x6.2.1.2.2.1,(x6.2.1.2.2.2.1,(x6.2.1.2.2.2.2.1,(x6.1.2.1,x6.2.1.2.2.2.2.2.2)))))),(x6.2.2.1,(x6.2.2.2.1,(x6.2.2.2.2.1,())))))) (j7 ((x6.1.1,(x6.1.2.2.1,())),(x6.2.1,(x6.2.2.1,(x6.2.2.2.1,(x6.2.2.2.2.1,()))))))) (j7 ((x6.1.1,(x6.1.2.2.1,())),(x6.2.1,(x6.2.2.1,(x6.2.2.2.1,(x6.2.2.2.2.1,()))))))) fun j6=>brn (I.neb y2.1.2.1 (I.of .i64 0)) (some (([],(I.of .i64 4,())),())) (brn (I.neb y3.1.2.1 (I.of .i64 0)) (some (([],(I.of .i64 4,())),())) (brn (I.neb y4.1.2.1 (I.of .i64 0)) (some (([],(I.of .i64 4,())),())) (brn (I.neb y5.1.2.1 (I.of .i64 0)) (some (([],(I.of .i64 4,())),())) (j6 ((x1.1.1,(x1.1.2.1,(x1.1.2.2.1,()))),((@rdL a0E a1E x1.1.1 (I.nat x1.1.2.2.1)),(y3.1.1,(y4.1.1,(y5.1.1,())))))))))) none) fun j1=>jn (fun (x2:(((List a0E) × ((I .u64) × ((I .i64) × (Bool × Unit)))) × (U × (U × Unit))))=>brn x2.1.2.2.2.1 (some (([],(I.of .i64 2,())),())) (brn (I.ltb x2.1.2.2.1 (I.of .i64 0)) (some (([],(I.of .i64 8,())),())) (j1 ((x2.1.1,(x2.1.2.1,(x2.1.2.2.1,()))),(x2.2.1,(x2.2.2.1,())))))) fun j2=>optF none (poster_Valid K ((a,()),())) fun y3=>brn (bnot y3.1.1) (j2 ((a,(e,(y0.1.1,(true,())))),(c,(d,())))) (j2 ((a,(e,(y0.1.1,((I.eqb e (I.of .u64 0)),())))),(c,(d,()))))
def pricer_adjust (K:Nat) (x:(⟨[.pl a0N,.pl a0I,.pl a1A,.pl a1N],[]⟩:Tm).D):Option (⟨[.pl a0N,.pl (.int .i64)],[]⟩:Tm).D :=
 let a:S_api_Pricer:=x.1.1
 let b:a1R:=x.1.2.1
 let c:U:=x.1.2.2.1
 let d:S_pricer_Outcome:=x.1.2.2.2.1
 optF none (payout_Sum K ((d.2.2.1,()),())) fun y0=>brn (I.neb y0.1.2.1 (I.of .i64 0)) (some (((Z_U,(I.of .u64 0,(I.of .u64 0,(I.of .u64 0,(Z_S_api_Int256,([],())))))),(y0.1.2.1,())),())) (optF none (poster_TotalDue K ((a.2.2.2.2.2.1,()),())) fun y1=>brn (I.neb y1.1.2.1 (I.of .i64 0)) (some (((Z_U,(I.of .u64 0,(I.of .u64 0,(I.of .u64 0,(Z_S_api_Int256,([],())))))),(y1.1.2.1,())),())) (brn (I.eqb d.1 (I.of .u64 0)) (some ((a,(I.of .i64 0,())),())) (optF none (uint256_SaturatingSub K ((c,(y0.1.1,())),())) fun y2=>optF none (l1price_Surplus K ((y2.1.1,(y1.1.1,())),())) fun y3=>optF none (l1price_Next K ((a.1,(y3.1.1,(a.2.2.2.2.1,(d.1,(b,()))))),())) fun y4=>brn (I.neb y4.1.2.1 (I.of .i64 0)) (some (((Z_U,(I.of .u64 0,(I.of .u64 0,(I.of .u64 0,(Z_S_api_Int256,([],())))))),(y4.1.2.1,())),())) (some (((y4.1.1,(a.2.1,(a.2.2.1,(a.2.2.2.1,(y3.1.1,a.2.2.2.2.2))))),(I.of .i64 0,())),())))))
def pricer_Report (K:Nat) (x:(⟨[.pl a0N,.pl a0I,.pl a1A,.pl a0J,.pl (.int .u64)],[]⟩:Tm).D):Option (⟨[.pl a0N,.pl a1N,.pl (.int .i64)],[]⟩:Tm).D :=
 let a:S_api_Pricer:=x.1.1
 let b:a1R:=x.1.2.1
 let c:U:=x.1.2.2.1
 let d:S_api_Report:=x.1.2.2.2.1
 let e:(I .u64):=x.1.2.2.2.2.1
 optF none (pricer_checkReport K ((a,(b,(d,(e,())))),())) fun y0=>brn (I.neb y0.1.1 (I.of .i64 0)) (some (((Z_U,(I.of .u64 0,(I.of .u64 0,(I.of .u64 0,(Z_S_api_Int256,([],())))))),((I.of .u64 0,(Z_U,([],()))),(y0.1.1,()))),())) (optF none (pricer_allocate K ((a,(b,(d,(e,())))),())) fun y1=>jn (fun (x2:(((I .i64) × Unit) × (S_api_Pricer × (a1R × (U × (S_api_Report × (S_api_Pricer × (S_pricer_Outcome × (S_pricer_Outcome × Unit)))))))))=>jn (fun (x3:(((I .i64) × Unit) × (S_api_Pricer × (a1R × (U × (S_api_Report × (S_api_Pricer × (S_pricer_Outcome × (S_pricer_Outcome × Unit)))))))))=>jn (fun (x4:(((I .i64) × Unit) × (S_api_Pricer × (a1R × (U × (S_api_Report × (S_api_Pricer × (S_pricer_Outcome × (S_pricer_Outcome × Unit)))))))))=>jn (fun (x5:(((I .i64) × Unit) × (S_api_Pricer × (S_api_Report × (S_api_Pricer × (S_pricer_Outcome × (S_pricer_Outcome × Unit)))))))=>brn (I.neb x5.1.1 (I.of .i64 0)) (some (((Z_U,(I.of .u64 0,(I.of .u64 0,(I.of .u64 0,(Z_S_api_Int256,([],())))))),((I.of .u64 0,(Z_U,([],()))),(x5.1.1,()))),())) (some (((x5.2.1.1,((I.sub x5.2.1.2.1 x5.2.2.2.2.2.1.1),(x5.2.2.1.2.1,x5.2.1.2.2.2))),(x5.2.2.2.2.2.1,(I.of .i64 0,()))),()))) fun j5=>brn (I.eqb x4.1.1 (I.of .i64 0)) (optF none (pricer_adjust K ((x4.2.1,(x4.2.2.1,(x4.2.2.2.1,(x4.2.2.2.2.2.2.2.1,())))),())) fun y6=>j5 ((y6.1.2.1,()),(y6.1.1,(x4.2.2.2.2.1,(x4.2.2.2.2.2.1,(x4.2.2.2.2.2.2.1,(x4.2.2.2.2.2.2.2.1,()))))))) (j5 ((x4.1.1,()),(x4.2.1,(x4.2.2.2.2.1,(x4.2.2.2.2.2.1,(x4.2.2.2.2.2.2.1,(x4.2.2.2.2.2.2.2.1,())))))))) fun j4=>brn (I.eqb x3.1.1 (I.of .i64 0)) (optF none (payout_Apply K ((x3.2.1.2.2.2.2.2.1,(x3.2.2.2.2.2.2.2.1.2.2.1,())),())) fun y5=>j4 ((y5.1.2.1,()),((x3.2.1.1,(x3.2.1.2.1,(x3.2.1.2.2.1,(x3.2.1.2.2.2.1,(x3.2.1.2.2.2.2.1,(y5.1.1,x3.2.1.2.2.2.2.2.2)))))),(x3.2.2.1,(x3.2.2.2.1,(x3.2.2.2.2.1,(x3.2.2.2.2.2.1,(x3.2.2.2.2.2.2.1,(x3.2.2.2.2.2.2.2.1,()))))))))) (j4 ((x3.1.1,()),(x3.2.1,(x3.2.2.1,(x3.2.2.2.1,(x3.2.2.2.2.1,(x3.2.2.2.2.2.1,(x3.2.2.2.2.2.2.1,(x3.2.2.2.2.2.2.2.1,())))))))))) fun j3=>brn (I.eqb x2.1.1 (I.of .i64 0)) (optF none (payout_Plan K ((x2.2.1.2.2.2.2.2.1,(x2.2.2.2.1,())),())) fun y4=>j3 ((y4.1.2.1,()),(x2.2.1,(x2.2.2.1,(x2.2.2.2.1,(x2.2.2.2.2.1,(x2.2.2.2.2.2.1,(x2.2.2.2.2.2.2.1,((x2.2.2.2.2.2.2.2.1.1,(x2.2.2.2.2.2.2.2.1.2.1,(y4.1.1,x2.2.2.2.2.2.2.2.1.2.2.2))),()))))))))) (j3 ((x2.1.1,()),(x2.2.1,(x2.2.2.1,(x2.2.2.2.1,(x2.2.2.2.2.1,(x2.2.2.2.2.2.1,(x2.2.2.2.2.2.2.1,(x2.2.2.2.2.2.2.2.1,())))))))))) fun j2=>brn (I.eqb y1.1.2.1 (I.of .i64 0)) (optF none (poster_Accrue K ((a.2.2.2.2.2.1,(d.1,(d.2.2.1,(y1.1.1.2.1,((I.add a.2.2.2.1 (I.of .u64 1)),()))))),())) fun y3=>j2 ((y3.1.2.1,()),((a.1,(a.2.1,(a.2.2.1,((I.add a.2.2.2.1 (I.of .u64 1)),(a.2.2.2.2.1,(y3.1.1,a.2.2.2.2.2.2)))))),(b,(c,(d,((Z_U,(I.of .u64 0,(I.of .u64 0,(I.of .u64 0,(Z_S_api_Int256,([],())))))),((I.of .u64 0,(Z_U,([],()))),(y1.1.1,()))))))))) (j2 ((y1.1.2.1,()),(a,(b,(c,(d,((Z_U,(I.of .u64 0,(I.of .u64 0,(I.of .u64 0,(Z_S_api_Int256,([],())))))),((I.of .u64 0,(Z_U,([],()))),(y1.1.1,()))))))))))
def pricer_cloned (K:Nat) (x:(⟨[.pl a0N],[]⟩:Tm).D):Option (⟨[.pl a0N],[]⟩:Tm).D :=
 let a:S_api_Pricer:=x.1.1
 optF none (a0S K ((a.2.2.2.2.2.1,()),())) fun y0=>some (((a.1,(a.2.1,(a.2.2.1,(a.2.2.2.1,(a.2.2.2.2.1,(y0.2.1,a.2.2.2.2.2.2)))))),()),())
def pricer_AddUnits (K:Nat) (x:(⟨[.pl a0N,.pl (.int .u64)],[]⟩:Tm).D):Option (⟨[.pl a0N,.pl (.int .i64)],[]⟩:Tm).D :=
 let a:S_api_Pricer:=x.1.1
 let b:(I .u64):=x.1.2.1
 optF none (pricer_Valid K ((a,()),())) fun y0=>brn (bnot y0.1.1) (some (((Z_U,(I.of .u64 0,(I.of .u64 0,(I.of .u64 0,(Z_S_api_Int256,([],())))))),(I.of .i64 2,())),())) (optF none (add64F ((a.2.1,(b,(I.of .u64 0,()))),())) fun y1=>brn (I.neb y1.1.2.1 (I.of .u64 0)) (some (((Z_U,(I.of .u64 0,(I.of .u64 0,(I.of .u64 0,(Z_S_api_Int256,([],())))))),(I.of .i64 4,())),())) (optF none (pricer_cloned K ((a,()),())) fun y2=>some (((y2.1.1.1,(y1.1.1,y2.1.1.2.2)),(I.of .i64 0,())),())))
end
end Sym

/- The given functions as plain functions, as the printer told them. -/
namespace Sym
open Go
noncomputable def pontagelaw0_EqualPricer (K:Nat) (x:(⟨[.pl a0N,.pl a0N],[]⟩:Tm).D):Option (⟨[.pl .bool],[]⟩:Tm).D :=
 let a:S_api_Pricer:=x.1.1
 let b:S_api_Pricer:=x.1.2.1
 brn (Ty.eqb a1A a.1 b.1) (brn (I.eqb a.2.1 b.2.1) (brn (I.eqb a.2.2.1 b.2.2.1) (brn (I.eqb a.2.2.2.1 b.2.2.2.1) (brn (Ty.eqb a0O a.2.2.2.2.1 b.2.2.2.2.1) (optF none (pontagelaw0_EqualPosters K ((a.2.2.2.2.2.1,(b.2.2.2.2.2.1,())),())) fun y0=>some ((y0.1.1,()),())) (some ((false,()),()))) (some ((false,()),()))) (some ((false,()),()))) (some ((false,()),()))) (some ((false,()),()))
end Sym

/- The given functions as plain functions, as the printer told them. -/
namespace Sym
open Go
noncomputable def KS_00:List (I .u8):=bytesL [0]
noncomputable def KS_01:List (I .u8):=bytesL [1]
noncomputable def KS_80:List (I .u8):=bytesL [128]
abbrev a0G:Type:=(I .u64) × (U × ((I .u64) × Unit))
noncomputable abbrev Z_S_api_Account:a0G:=((I.of .u64 0),(Z_U,((I.of .u64 0),())))
abbrev a0H:Type:=(I .u64) × a0D
noncomputable abbrev a1C:a0H:=((I.of .u64 0),a1S)
abbrev S_api_Block:Type:=(I .u64) × a0H
noncomputable abbrev Z_S_api_Block:S_api_Block:=((I.of .u64 0),a1C)
abbrev S_A8_intu32:Type:=(I .u32) × ((I .u32) × ((I .u32) × ((I .u32) × ((I .u32) × ((I .u32) × ((I .u32) × ((I .u32) × Unit)))))))
noncomputable abbrev Z_S_A8_intu32:S_A8_intu32:=((I.of .u32 0),((I.of .u32 0),((I.of .u32 0),((I.of .u32 0),((I.of .u32 0),((I.of .u32 0),((I.of .u32 0),((I.of .u32 0),()))))))))
abbrev S_A4_U:Type:=U × (U × (U × (U × Unit)))
noncomputable abbrev Z_S_A4_U:S_A4_U:=(Z_U,(Z_U,(Z_U,(Z_U,()))))
abbrev S_api_Transaction:Type:=(I .u64) × ((I .u64) × ((I .u64) × (U × ((I .u64) × (U × (U × ((I .u64) × ((List (I .u8)) × Unit))))))))
abbrev S_api_Charge:Type:=(I .u64) × ((I .u64) × ((I .u64) × ((I .u64) × (Bool × (U × S_A4_U)))))
noncomputable abbrev a0R:S_api_Charge:=((I.of .u64 0),((I.of .u64 0),((I.of .u64 0),((I.of .u64 0),(false,(Z_U,Z_S_A4_U))))))
abbrev a0B:Type:=(I .u8) × ((I .u8) × ((I .u8) × ((I .u8) × ((I .u8) × ((I .u8) × ((I .u8) × ((I .u8) × ((I .u8) × ((I .u8) × ((I .u8) × ((I .u8) × ((I .u8) × ((I .u8) × ((I .u8) × ((I .u8) × ((I .u8) × ((I .u8) × ((I .u8) × ((I .u8) × ((I .u8) × ((I .u8) × ((I .u8) × ((I .u8) × ((I .u8) × ((I .u8) × ((I .u8) × ((I .u8) × ((I .u8) × ((I .u8) × ((I .u8) × ((I .u8) × Unit)))))))))))))))))))))))))))))))
noncomputable abbrev Z_S_A32_intu8:a0B:=((I.of .u8 0),((I.of .u8 0),((I.of .u8 0),((I.of .u8 0),((I.of .u8 0),((I.of .u8 0),((I.of .u8 0),((I.of .u8 0),((I.of .u8 0),((I.of .u8 0),((I.of .u8 0),((I.of .u8 0),((I.of .u8 0),((I.of .u8 0),((I.of .u8 0),((I.of .u8 0),((I.of .u8 0),((I.of .u8 0),((I.of .u8 0),((I.of .u8 0),((I.of .u8 0),((I.of .u8 0),((I.of .u8 0),((I.of .u8 0),((I.of .u8 0),((I.of .u8 0),((I.of .u8 0),((I.of .u8 0),((I.of .u8 0),((I.of .u8 0),((I.of .u8 0),((I.of .u8 0),()))))))))))))))))))))))))))))))))
abbrev S_api_Claim:Type:=(I .u64) × ((I .u64) × ((I .u64) × (U × ((List a0B) × Unit))))
abbrev S_api_Receipt:Type:=(I .i64) × ((I .i64) × (S_api_Charge × (U × (U × ((I .u64) × (U × (U × ((List a0H) × Unit))))))))
abbrev S_A64_intu32:Type:=(I .u32) × ((I .u32) × ((I .u32) × ((I .u32) × ((I .u32) × ((I .u32) × ((I .u32) × ((I .u32) × ((I .u32) × ((I .u32) × ((I .u32) × ((I .u32) × ((I .u32) × ((I .u32) × ((I .u32) × ((I .u32) × ((I .u32) × ((I .u32) × ((I .u32) × ((I .u32) × ((I .u32) × ((I .u32) × ((I .u32) × ((I .u32) × ((I .u32) × ((I .u32) × ((I .u32) × ((I .u32) × ((I .u32) × ((I .u32) × ((I .u32) × ((I .u32) × ((I .u32) × ((I .u32) × ((I .u32) × ((I .u32) × ((I .u32) × ((I .u32) × ((I .u32) × ((I .u32) × ((I .u32) × ((I .u32) × ((I .u32) × ((I .u32) × ((I .u32) × ((I .u32) × ((I .u32) × ((I .u32) × ((I .u32) × ((I .u32) × ((I .u32) × ((I .u32) × ((I .u32) × ((I .u32) × ((I .u32) × ((I .u32) × S_A8_intu32)))))))))))))))))))))))))))))))))))))))))))))))))))))))
noncomputable abbrev Z_S_A64_intu32:S_A64_intu32:=((I.of .u32 0),((I.of .u32 0),((I.of .u32 0),((I.of .u32 0),((I.of .u32 0),((I.of .u32 0),((I.of .u32 0),((I.of .u32 0),((I.of .u32 0),((I.of .u32 0),((I.of .u32 0),((I.of .u32 0),((I.of .u32 0),((I.of .u32 0),((I.of .u32 0),((I.of .u32 0),((I.of .u32 0),((I.of .u32 0),((I.of .u32 0),((I.of .u32 0),((I.of .u32 0),((I.of .u32 0),((I.of .u32 0),((I.of .u32 0),((I.of .u32 0),((I.of .u32 0),((I.of .u32 0),((I.of .u32 0),((I.of .u32 0),((I.of .u32 0),((I.of .u32 0),((I.of .u32 0),((I.of .u32 0),((I.of .u32 0),((I.of .u32 0),((I.of .u32 0),((I.of .u32 0),((I.of .u32 0),((I.of .u32 0),((I.of .u32 0),((I.of .u32 0),((I.of .u32 0),((I.of .u32 0),((I.of .u32 0),((I.of .u32 0),((I.of .u32 0),((I.of .u32 0),((I.of .u32 0),((I.of .u32 0),((I.of .u32 0),((I.of .u32 0),((I.of .u32 0),((I.of .u32 0),((I.of .u32 0),((I.of .u32 0),((I.of .u32 0),Z_S_A8_intu32))))))))))))))))))))))))))))))))))))))))))))))))))))))))
abbrev S_api_Step:Type:=(I .i64) × (S_api_Transaction × (a0H × ((I .u64) × ((I .i64) × (U × ((I .u64) × (S_api_Claim × Unit)))))))
abbrev S_api_State:Type:=(I .u64) × (a1R × (S_api_Block × ((I .u64) × (S_api_Pricer × ((List a0G) × (S_A4_U × ((List a0H) × ((List Bool) × (U × ((List a0D) × Unit))))))))))
abbrev O_pontageref28_Machine:Type:=(I .u64) × (a1R × (S_api_Block × ((I .u64) × (S_api_Pricer × (Unit × (Unit × (Unit × Unit)))))))
abbrev O_pontageref11_Ledger:Type:=Unit × (S_A4_U × Unit)
abbrev a0M:Ty:=.cons (.int .u64) (.cons a1A (.cons (.int .u64) .nil))
abbrev Y_api_Message:Ty:=.cons (.int .u64) a0P
abbrev a1M:Ty:=.cons (.int .u64) Y_api_Message
abbrev Y_api_Claim:Ty:=.cons (.int .u64) (.cons (.int .u64) (.cons (.int .u64) (.cons a1A (.cons (.sl (.arr 32 (.int .u8))) .nil))))
abbrev Y_pontageref11_Ledger:Ty:=.cons (.sl a0M) (.cons (.arr 4 a1A) .nil)
abbrev a1P:Ty:=.cons (.int .u64) (.cons (.int .u64) (.cons (.int .u64) (.cons a1A (.cons (.int .u64) (.cons a1A (.cons a1A (.cons (.int .u64) (.cons (.sl (.int .u8)) .nil))))))))
abbrev a2E:Ty:=.cons (.int .u64) (.cons (.int .u64) (.cons (.int .u64) (.cons (.int .u64) (.cons .bool (.cons a1A (.cons a1A (.cons a1A (.cons a1A (.cons a1A .nil)))))))))
abbrev a1V:Ty:=.cons (.int .i64) (.cons (.int .i64) (.cons a2E (.cons a1A (.cons a1A (.cons (.int .u64) (.cons a1A (.cons a1A (.cons (.sl Y_api_Message) .nil))))))))
abbrev Y_api_Step:Ty:=.cons (.int .i64) (.cons a1P (.cons Y_api_Message (.cons (.int .u64) (.cons (.int .i64) (.cons a1A (.cons (.int .u64) (.cons Y_api_Claim .nil)))))))
abbrev Y_api_State:Ty:=.cons (.int .u64) (.cons a0I (.cons a1M (.cons (.int .u64) (.cons a0N (.cons (.sl a0M) (.cons (.arr 4 a1A) (.cons (.sl Y_api_Message) (.cons (.sl .bool) (.cons a1A (.cons (.sl a0P) .nil))))))))))
abbrev H_pontageref11_Ledger:List BSh:=[.box Y_pontageref11_Ledger (.pair (.whole 1) (.pl (.cons (.arr 4 a1A) .nil))),.row a0M]
end Sym

/- The given functions as plain functions, as the printer told them. -/
namespace Sym
open Go
abbrev S_pontageref22_Reader:Type:=(List (I .u8)) × ((I .i64) × (Bool × Unit))
abbrev S_A8_intu64:Type:=(I .u64) × ((I .u64) × ((I .u64) × ((I .u64) × U)))
abbrev S_ledger_Ledger:Type:=(List a0G) × (S_A4_U × Unit)
abbrev S_escrow_Escrow:Type:=(List a0B) × ((List Bool) × (U × ((List a0D) × Unit)))
abbrev S_executor_Machine:Type:=(I .u64) × (a1R × (S_api_Block × ((I .u64) × (S_api_Pricer × (Unit × (Unit × (Unit × Unit)))))))
abbrev a1B:Type:=S_executor_Machine
abbrev a0T:Type:=O_pontageref11_Ledger
abbrev a0Y:Type:=Unit × (Unit × Unit)
abbrev a0U:Type:=Unit × (Unit × (U × (Unit × Unit)))
abbrev a0W:Type:=Unit × Unit
abbrev a0C:Ty:=.cons (.sl (.int .u8)) (.cons (.int .i64) (.cons .bool .nil))
abbrev a1X:Ty:=.cons (.sl a0J) (.cons .opq .nil)
abbrev a1F:Ty:=.cons (.sl (.arr 32 (.int .u8))) (.cons (.sl .bool) (.cons a1A (.cons (.sl a0P) .nil)))
abbrev a1W:Ty:=.cons (.int .u64) (.cons a0I (.cons a1M (.cons (.int .u64) (.cons a0N (.cons .opq (.cons .opq (.cons .opq .nil)))))))
abbrev a0F:List BSh:=[.box a1W (.pair (.pl (.int .u64)) (.pair (.pl a0I) (.pair (.pl a1M) (.pair (.pl (.int .u64)) (.pair (.pl a0N) (.pair (.ptr 1 []) (.pair (.ptr 2 []) (.pair (.ptr 4 []) (.pl .nil))))))))),.box Y_pontageref11_Ledger (.pair (.whole 5) (.pl (.cons (.arr 4 a1A) .nil))),.box a1X (.pair (.whole 6) (.pair (.ptr 3 []) (.pl .nil))),.box tY0 (.pair (.whole 7) (.pl .nil)),.box a1F (.pair (.whole 8) (.pair (.whole 9) (.pair (.pl a1A) (.pair (.whole 10) (.pl .nil))))),.row a0M,.row a0J,.row (.arr 32 (.int .u8)),.row (.arr 32 (.int .u8)),.row .bool,.row a0P]
abbrev H_escrow_Escrow:List BSh:=[.box a1F (.pair (.whole 1) (.pair (.whole 2) (.pair (.pl a1A) (.pair (.whole 3) (.pl .nil))))),.row (.arr 32 (.int .u8)),.row .bool,.row a0P]
abbrev a1K:List BSh:=[.box a1X (.pair (.whole 2) (.pair (.ptr 1 []) (.pl .nil))),.box tY0 (.pair (.whole 3) (.pl .nil)),.row a0J,.row (.arr 32 (.int .u8))]
abbrev a0V:List BSh:=H_pontageref11_Ledger
abbrev H_merkle_Tree:List BSh:=[.box tY0 (.pair (.whole 1) (.pl .nil)),.row (.arr 32 (.int .u8))]
noncomputable section
def wirereader_New (K:Nat) (x:(⟨[.pl (.sl (.int .u8))],[]⟩:Tm).D):Option (⟨[.ptr 0 []],[.box a0C (.pl a0C)]⟩:Tm).D :=
 let a:(List (I .u8)):=x.1.1
 some ((),((a,(I.of .i64 0,(false,()))),()))
def a2F (K:Nat) (x:(⟨[.bp a0C],[]⟩:Tm).D):Option (⟨[.pl .bool],[]⟩:Tm).D :=
 let a:S_pontageref22_Reader:=x.1.1
 brn (bnot a.2.2.1) (some (((I.eqb a.2.1 (I.ofNat .i64 (@a1I (I .u8) a.1))),()),())) (some ((false,()),()))
def wire_readUint (K:Nat) (x:(⟨[.pl (.sl (.int .u8)),.pl (.int .i64),.pl (.int .i64)],[]⟩:Tm).D):Option (⟨[.pl a1A,.pl (.int .i64),.pl (.int .i64)],[]⟩:Tm).D :=
 let a:(List (I .u8)):=x.1.1
 let b:(I .i64):=x.1.2.1
 let c:(I .i64):=x.1.2.2.1
 jn (fun (x0:(((List (I .u8)) × ((I .i64) × ((I .i64) × Unit))) × (U × Unit)))=>brn (inB' x0.1.2.1 (@a1I (I .u8) x0.1.1)) (brn (I.eqb (I.ofNat .i64 (@a1I (I .u8) (@subL (I .u8) x0.1.1 (I.nat x0.1.2.1) ((@a1I (I .u8) x0.1.1) - (I.nat x0.1.2.1))))) (I.of .i64 0)) (some ((Z_U,(I.of .i64 0,(I.of .i64 3,()))),())) (brn (inB (I.of .i64 0) (@a1I (I .u8) (@subL (I .u8) x0.1.1 (I.nat x0.1.2.1) ((@a1I (I .u8) x0.1.1) - (I.nat x0.1.2.1))))) (brn (inB' (I.of .i64 1) (@a1I (I .u8) (@subL (I .u8) x0.1.1 (I.nat x0.1.2.1) ((@a1I (I .u8) x0.1.1) - (I.nat x0.1.2.1))))) (jn (fun (x1:(((I .i64) × ((List (I .u8)) × ((I .i64) × Unit))) × (U × Unit)))=>iter none (fun x2=>brn (I.ltb x2.1.2.2.2.2.1 x2.1.2.2.2.1) (brn (inB (I.quo (I.sub (I.sub x2.1.2.2.1 (I.of .i64 1)) x2.1.2.2.2.2.1) (I.of .i64 8)) 4) (brn (inB x2.1.2.2.2.2.1 (@a1I (I .u8) x2.1.2.1)) (brn (I.nn (I.mul (I.of .i64 8) (I.rem (I.sub (I.sub x2.1.2.2.1 (I.of .i64 1)) x2.1.2.2.2.2.1) (I.of .i64 8)))) (brn (inB (I.quo (I.sub (I.sub x2.1.2.2.1 (I.of .i64 1)) x2.1.2.2.2.2.1) (I.of .i64 8)) 4) (.again ((x2.1.1,(x2.1.2.1,(x2.1.2.2.1,(x2.1.2.2.2.1,((I.add x2.1.2.2.2.2.1 (I.of .i64 1)),()))))),(x2.2.1,((@Arr.upd (I .u64) 4 x2.2.2.1 (I.nat (I.quo (I.sub (I.sub x2.1.2.2.1 (I.of .i64 1)) x2.1.2.2.2.2.1) (I.of .i64 8))) (I.or (@Arr.sel (I .u64) (I.of .u64 0) 4 x2.2.2.1 (I.nat (I.quo (I.sub (I.sub x2.1.2.2.1 (I.of .i64 1)) x2.1.2.2.2.2.1) (I.of .i64 8)))) (I.shl (I.conv (k:=.u8) .u64 (@rdL (I .u8) (I.of .u8 0) x2.1.2.1 (I.nat x2.1.2.2.2.2.1))) (I.mul (I.of .i64 8) (I.rem (I.sub (I.sub x2.1.2.2.1 (I.of .i64 1)) x2.1.2.2.2.2.1) (I.of .i64 8)))))),())))) (.done none)) (.done none)) (.done none)) (.done none)) (.done (some ((x2.2.2.1,((I.add (I.add x2.1.1 (I.of .i64 1)) x2.1.2.2.1),(I.of .i64 0,()))),())))) K ((x1.1.1,(x1.1.2.1,(x1.1.2.2.1,(x1.1.2.2.1,(I.of .i64 0,()))))),(x1.2.1,(Z_U,())))) fun j1=>brn (I.ltb x0.1.2.2.1 (I.conv (k:=.u8) .i64 (@rdL (I .u8) (I.of .u8 0) (@subL (I .u8) x0.1.1 (I.nat x0.1.2.1) ((@a1I (I .u8) x0.1.1) - (I.nat x0.1.2.1))) 0))) (some ((Z_U,(I.of .i64 0,(I.of .i64 3,()))),())) (brn (I.ltb (I.ofNat .i64 (@a1I (I .u8) (@subL (I .u8) (@subL (I .u8) x0.1.1 (I.nat x0.1.2.1) ((@a1I (I .u8) x0.1.1) - (I.nat x0.1.2.1))) 1 ((@a1I (I .u8) (@subL (I .u8) x0.1.1 (I.nat x0.1.2.1) ((@a1I (I .u8) x0.1.1) - (I.nat x0.1.2.1)))) - 1)))) (I.conv (k:=.u8) .i64 (@rdL (I .u8) (I.of .u8 0) (@subL (I .u8) x0.1.1 (I.nat x0.1.2.1) ((@a1I (I .u8) x0.1.1) - (I.nat x0.1.2.1))) 0))) (some ((Z_U,(I.of .i64 0,(I.of .i64 3,()))),())) (brn (I.ltb (I.of .i64 0) (I.conv (k:=.u8) .i64 (@rdL (I .u8) (I.of .u8 0) (@subL (I .u8) x0.1.1 (I.nat x0.1.2.1) ((@a1I (I .u8) x0.1.1) - (I.nat x0.1.2.1))) 0))) (brn (inB (I.of .i64 0) (@a1I (I .u8) (@subL (I .u8) (@subL (I .u8) x0.1.1 (I.nat x0.1.2.1) ((@a1I (I .u8) x0.1.1) - (I.nat x0.1.2.1))) 1 ((@a1I (I .u8) (@subL (I .u8) x0.1.1 (I.nat x0.1.2.1) ((@a1I (I .u8) x0.1.1) - (I.nat x0.1.2.1)))) - 1)))) (brn (I.eqb (@rdL (I .u8) (I.of .u8 0) (@subL (I .u8) (@subL (I .u8) x0.1.1 (I.nat x0.1.2.1) ((@a1I (I .u8) x0.1.1) - (I.nat x0.1.2.1))) 1 ((@a1I (I .u8) (@subL (I .u8) x0.1.1 (I.nat x0.1.2.1) ((@a1I (I .u8) x0.1.1) - (I.nat x0.1.2.1)))) - 1)) 0) (I.of .u8 0)) (some ((Z_U,(I.of .i64 0,(I.of .i64 3,()))),())) (j1 ((x0.1.2.1,((@subL (I .u8) (@subL (I .u8) x0.1.1 (I.nat x0.1.2.1) ((@a1I (I .u8) x0.1.1) - (I.nat x0.1.2.1))) 1 ((@a1I (I .u8) (@subL (I .u8) x0.1.1 (I.nat x0.1.2.1) ((@a1I (I .u8) x0.1.1) - (I.nat x0.1.2.1)))) - 1)),((I.conv (k:=.u8) .i64 (@rdL (I .u8) (I.of .u8 0) (@subL (I .u8) x0.1.1 (I.nat x0.1.2.1) ((@a1I (I .u8) x0.1.1) - (I.nat x0.1.2.1))) 0)),()))),(x0.2.1,())))) none) (j1 ((x0.1.2.1,((@subL (I .u8) (@subL (I .u8) x0.1.1 (I.nat x0.1.2.1) ((@a1I (I .u8) x0.1.1) - (I.nat x0.1.2.1))) 1 ((@a1I (I .u8) (@subL (I .u8) x0.1.1 (I.nat x0.1.2.1) ((@a1I (I .u8) x0.1.1) - (I.nat x0.1.2.1)))) - 1)),((I.conv (k:=.u8) .i64 (@rdL (I .u8) (I.of .u8 0) (@subL (I .u8) x0.1.1 (I.nat x0.1.2.1) ((@a1I (I .u8) x0.1.1) - (I.nat x0.1.2.1))) 0)),()))),(x0.2.1,())))))) none) none)) none) fun j0=>brn (I.ltb b (I.of .i64 0)) (some ((Z_U,(I.of .i64 0,(I.of .i64 2,()))),())) (brn (I.ltb (I.ofNat .i64 (@a1I (I .u8) a)) b) (some ((Z_U,(I.of .i64 0,(I.of .i64 2,()))),())) (j0 ((a,(b,(c,()))),(Z_U,()))))
def wire_ReadUint64 (K:Nat) (x:(⟨[.pl (.sl (.int .u8)),.pl (.int .i64)],[]⟩:Tm).D):Option (⟨[.pl (.int .u64),.pl (.int .i64),.pl (.int .i64)],[]⟩:Tm).D :=
 let a:(List (I .u8)):=x.1.1
 let b:(I .i64):=x.1.2.1
 optF none (wire_readUint K ((a,(b,(I.of .i64 8,()))),())) fun y0=>some ((y0.1.1.1,(y0.1.2.1,(y0.1.2.2.1,()))),())
def slices_Clone___byte_byte_ (K:Nat) (x:(⟨[.pl (.sl (.int .u8))],[]⟩:Tm).D):Option (⟨[.pl (.sl (.int .u8))],[]⟩:Tm).D :=
 let a:(List (I .u8)):=x.1.1
 brn (emptyN (@a1I (I .u8) a)) (both none (some (([],()),())) (brn (a1Z (@a1I (I .u8) (@appL (I .u8) [] a))) (some (((@appL (I .u8) [] a),()),())) none)) (brn (a1Z (@a1I (I .u8) (@appL (I .u8) [] a))) (some (((@appL (I .u8) [] a),()),())) none)
def slices_Clone___byte_byte_c (K:Nat) (x:(⟨[.pl (.sl (.int .u8))],[]⟩:Tm).D):Option (⟨[.pl (.sl (.int .u8))],[]⟩:Tm).D:=brn (a1Z (a1I x.1.1)) (some ((x.1.1,()),())) none
theorem slices_Clone___byte_byte_c_eq (K:Nat):∀ x,slices_Clone___byte_byte_ K x = slices_Clone___byte_byte_c K x
 | ⟨⟨[],⟨⟩⟩,⟨⟩⟩=>both_eq rfl
 | ⟨⟨_ :: _,⟨⟩⟩,⟨⟩⟩=>rfl
def wire_ReadBytes (K:Nat) (x:(⟨[.pl (.sl (.int .u8)),.pl (.int .i64)],[]⟩:Tm).D):Option (⟨[.pl (.sl (.int .u8)),.pl (.int .i64),.pl (.int .i64)],[]⟩:Tm).D :=
 let a:(List (I .u8)):=x.1.1
 let b:(I .i64):=x.1.2.1
 optF none (wire_ReadUint64 K ((a,(b,())),())) fun y0=>brn (I.neb y0.1.2.2.1 (I.of .i64 0)) (some (([],(I.of .i64 0,(y0.1.2.2.1,()))),())) (brn (I.ltb (I.conv (k:=.i64) .u64 (I.sub (I.ofNat .i64 (@a1I (I .u8) a)) y0.1.2.1)) y0.1.1) (some (([],(I.of .i64 0,(I.of .i64 3,()))),())) (brn (inB' y0.1.2.1 (I.nat (I.add y0.1.2.1 (I.conv (k:=.u64) .i64 y0.1.1)))) (brn (inB' (I.add y0.1.2.1 (I.conv (k:=.u64) .i64 y0.1.1)) (@a1I (I .u8) a)) (optF none (slices_Clone___byte_byte_c K (((@subL (I .u8) a (I.nat y0.1.2.1) ((I.nat (I.add y0.1.2.1 (I.conv (k:=.u64) .i64 y0.1.1))) - (I.nat y0.1.2.1))),()),())) fun y1=>some ((y1.1.1,((I.add y0.1.2.1 (I.conv (k:=.u64) .i64 y0.1.1)),(I.of .i64 0,()))),())) none) none))
def wirereader_Reader_advance (K:Nat) (x:(⟨[.ptr 0 [],.pl (.int .i64),.pl (.int .i64)],[.box a0C (.pl a0C)]⟩:Tm).D):Option (⟨[.pl .bool],[.box a0C (.pl a0C)]⟩:Tm).D :=
 let a:(I .i64):=x.1.1
 let b:(I .i64):=x.1.2.1
 let h0:S_pontageref22_Reader:=x.2.1
 brn h0.2.2.1 (some ((false,()),((h0.1,(h0.2.1,(true,h0.2.2.2))),()))) (brn (I.neb b (I.of .i64 0)) (some ((false,()),((h0.1,(h0.2.1,(true,h0.2.2.2))),()))) (some ((true,()),((h0.1,(a,h0.2.2)),()))))
def wirereader_Reader_Bytes (K:Nat) (x:(⟨[.ptr 0 []],[.box a0C (.pl a0C)]⟩:Tm).D):Option (⟨[.pl (.sl (.int .u8))],[.box a0C (.pl a0C)]⟩:Tm).D :=
 let h0:S_pontageref22_Reader:=x.2.1
 optF none (wire_ReadBytes K ((h0.1,(h0.2.1,())),())) fun y0=>optF none (wirereader_Reader_advance K ((y0.1.2.1,(y0.1.2.2.1,())),(h0,()))) fun y1=>brn (bnot y1.1.1) (some (([],()),(y1.2.1,()))) (some ((y0.1.1,()),(y1.2.1,())))
def backlog_Drain (K:Nat) (x:(⟨[.pl (.int .u64),.pl (.int .u64),.pl (.int .u64)],[]⟩:Tm).D):Option (⟨[.pl (.int .u64)],[]⟩:Tm).D :=
 let a:(I .u64):=x.1.1
 let b:(I .u64):=x.1.2.1
 let c:(I .u64):=x.1.2.2.1
 optF none (math_bits_Mul64 K ((b,(c,())),())) fun y0=>brn (I.neb y0.1.1 (I.of .u64 0)) (some ((I.of .u64 0,()),())) (brn (I.ltb a y0.1.2.1) (some ((I.of .u64 0,()),())) (some (((I.sub a y0.1.2.1),()),())))
def backlog_Excess (K:Nat) (x:(⟨[.pl (.int .u64),.pl (.int .u64),.pl (.int .u64)],[]⟩:Tm).D):Option (⟨[.pl (.int .u64)],[]⟩:Tm).D :=
 let a:(I .u64):=x.1.1
 let b:(I .u64):=x.1.2.1
 let c:(I .u64):=x.1.2.2.1
 optF none (backlog_Drain K ((a,(b,(c,()))),())) fun y0=>some ((y0.1.1,()),())
def math_bits_LeadingZeros64 (K:Nat) (x:(⟨[.pl (.int .u64)],[]⟩:Tm).D):Option (⟨[.pl (.int .i64)],[]⟩:Tm).D :=
 let a:(I .u64):=x.1.1
 optF none (math_bits_Len64 K ((a,()),())) fun y0=>some (((I.sub (I.of .i64 64) y0.1.1),()),())
def math_bits_Div64 (K:Nat) (x:(⟨[.pl (.int .u64),.pl (.int .u64),.pl (.int .u64)],[]⟩:Tm).D):Option (⟨[.pl (.int .u64),.pl (.int .u64)],[]⟩:Tm).D :=
 let a:(I .u64):=x.1.1
 let b:(I .u64):=x.1.2.1
 let c:(I .u64):=x.1.2.2.1
 jn (fun (x0:(((I .u64) × ((I .u64) × ((I .u64) × Unit))) × Unit))=>jn (fun (x1:(((I .u64) × ((I .u64) × ((I .u64) × Unit))) × Unit))=>brn (I.eqb x1.1.1 (I.of .u64 0)) (brn (I.nz x1.1.2.2.1) (brn (I.nz x1.1.2.2.1) (some (((I.quo x1.1.2.1 x1.1.2.2.1),((I.rem x1.1.2.1 x1.1.2.2.1),())),())) none) none) (optF none (math_bits_LeadingZeros64 K ((x1.1.2.2.1,()),())) fun y2=>brn (I.nn (I.conv (k:=.i64) .u64 y2.1.1)) (brn (I.nn (I.conv (k:=.i64) .u64 y2.1.1)) (brn (I.nn (I.sub (I.of .u64 64) (I.conv (k:=.i64) .u64 y2.1.1))) (brn (I.nn (I.conv (k:=.i64) .u64 y2.1.1)) (brn (I.nz (I.shr (I.shl x1.1.2.2.1 (I.conv (k:=.i64) .u64 y2.1.1)) (I.of .u64 32))) (jn (fun (x3:(S_A8_intu64 × Unit))=>brn (I.nz x3.1.2.2.1) (jn (fun (x4:(((I .u64) × ((I .u64) × U)) × Unit))=>brn (I.nn x4.1.2.1) (some (((I.add (I.mul x4.1.2.2.2.1 (I.of .u64 4294967296)) x4.1.2.2.2.2.2.1),((I.shr (I.sub (I.add (I.mul x4.1.2.2.2.2.1 (I.of .u64 4294967296)) x4.1.2.2.1) (I.mul x4.1.2.2.2.2.2.1 x4.1.1)) x4.1.2.1),())),())) none) fun j4=>iter none (fun x5=>jn (fun (x6:(((I .u64) × S_A8_intu64) × Unit))=>brn (I.leb (I.of .u64 4294967296) (I.add x6.1.2.2.2.2.2.2.1 x6.1.2.2.1)) (.done (j4 ((x6.1.1,(x6.1.2.1,(x6.1.2.2.2.2.1,(x6.1.2.2.2.2.2.1,(x6.1.2.2.2.2.2.2.2.1,((I.sub x6.1.2.2.2.2.2.2.2.2.1 (I.of .u64 1)),())))))),()))) (.again ((x6.1.1,(x6.1.2.1,(x6.1.2.2.1,(x6.1.2.2.2.1,(x6.1.2.2.2.2.1,(x6.1.2.2.2.2.2.1,((I.add x6.1.2.2.2.2.2.2.1 x6.1.2.2.1),(x6.1.2.2.2.2.2.2.2.1,((I.sub x6.1.2.2.2.2.2.2.2.2.1 (I.of .u64 1)),()))))))))),()))) fun j6=>brn (I.leb (I.of .u64 4294967296) x5.1.2.2.2.2.2.2.2.2.1) (j6 ((x5.1.1,(x5.1.2.1,(x5.1.2.2.1,(x5.1.2.2.2.1,(x5.1.2.2.2.2.1,(x5.1.2.2.2.2.2.1,(x5.1.2.2.2.2.2.2.1,(x5.1.2.2.2.2.2.2.2.1,(x5.1.2.2.2.2.2.2.2.2.1,()))))))))),())) (brn (I.ltb (I.add (I.mul (I.of .u64 4294967296) x5.1.2.2.2.2.2.2.1) x5.1.2.2.2.2.1) (I.mul x5.1.2.2.2.2.2.2.2.2.1 x5.1.2.2.2.1)) (j6 ((x5.1.1,(x5.1.2.1,(x5.1.2.2.1,(x5.1.2.2.2.1,(x5.1.2.2.2.2.1,(x5.1.2.2.2.2.2.1,(x5.1.2.2.2.2.2.2.1,(x5.1.2.2.2.2.2.2.2.1,(x5.1.2.2.2.2.2.2.2.2.1,()))))))))),())) (.done (j4 ((x5.1.1,(x5.1.2.1,(x5.1.2.2.2.2.1,(x5.1.2.2.2.2.2.1,(x5.1.2.2.2.2.2.2.2.1,(x5.1.2.2.2.2.2.2.2.2.1,())))))),()))))) K ((x3.1.1,(x3.1.2.1,(x3.1.2.2.1,(x3.1.2.2.2.1,(x3.1.2.2.2.2.2.2.1,(x3.1.2.2.2.2.2.2.2.1,((I.sub (I.sub (I.add (I.mul x3.1.2.2.2.2.1 (I.of .u64 4294967296)) x3.1.2.2.2.2.2.1) (I.mul x3.1.2.2.2.2.2.2.2.1 x3.1.1)) (I.mul (I.quo (I.sub (I.add (I.mul x3.1.2.2.2.2.1 (I.of .u64 4294967296)) x3.1.2.2.2.2.2.1) (I.mul x3.1.2.2.2.2.2.2.2.1 x3.1.1)) x3.1.2.2.1) x3.1.2.2.1)),((I.sub (I.add (I.mul x3.1.2.2.2.2.1 (I.of .u64 4294967296)) x3.1.2.2.2.2.2.1) (I.mul x3.1.2.2.2.2.2.2.2.1 x3.1.1)),((I.quo (I.sub (I.add (I.mul x3.1.2.2.2.2.1 (I.of .u64 4294967296)) x3.1.2.2.2.2.2.1) (I.mul x3.1.2.2.2.2.2.2.2.1 x3.1.1)) x3.1.2.2.1),()))))))))),())) none) fun j3=>iter none (fun x4=>jn (fun (x5:(((I .u64) × S_A8_intu64) × Unit))=>brn (I.leb (I.of .u64 4294967296) (I.add x5.1.2.2.2.2.2.2.2.2.1 x5.1.2.2.1)) (.done (j3 ((x5.1.1,(x5.1.2.1,(x5.1.2.2.1,(x5.1.2.2.2.1,(x5.1.2.2.2.2.1,(x5.1.2.2.2.2.2.1,(x5.1.2.2.2.2.2.2.1,((I.sub x5.1.2.2.2.2.2.2.2.1 (I.of .u64 1)),())))))))),()))) (.again ((x5.1.1,(x5.1.2.1,(x5.1.2.2.1,(x5.1.2.2.2.1,(x5.1.2.2.2.2.1,(x5.1.2.2.2.2.2.1,(x5.1.2.2.2.2.2.2.1,((I.sub x5.1.2.2.2.2.2.2.2.1 (I.of .u64 1)),((I.add x5.1.2.2.2.2.2.2.2.2.1 x5.1.2.2.1),()))))))))),()))) fun j5=>brn (I.leb (I.of .u64 4294967296) x4.1.2.2.2.2.2.2.2.1) (j5 ((x4.1.1,(x4.1.2.1,(x4.1.2.2.1,(x4.1.2.2.2.1,(x4.1.2.2.2.2.1,(x4.1.2.2.2.2.2.1,(x4.1.2.2.2.2.2.2.1,(x4.1.2.2.2.2.2.2.2.1,(x4.1.2.2.2.2.2.2.2.2.1,()))))))))),())) (brn (I.ltb (I.add (I.mul (I.of .u64 4294967296) x4.1.2.2.2.2.2.2.2.2.1) x4.1.2.2.2.2.2.1) (I.mul x4.1.2.2.2.2.2.2.2.1 x4.1.2.2.2.1)) (j5 ((x4.1.1,(x4.1.2.1,(x4.1.2.2.1,(x4.1.2.2.2.1,(x4.1.2.2.2.2.1,(x4.1.2.2.2.2.2.1,(x4.1.2.2.2.2.2.2.1,(x4.1.2.2.2.2.2.2.2.1,(x4.1.2.2.2.2.2.2.2.2.1,()))))))))),())) (.done (j3 ((x4.1.1,(x4.1.2.1,(x4.1.2.2.1,(x4.1.2.2.2.1,(x4.1.2.2.2.2.1,(x4.1.2.2.2.2.2.1,(x4.1.2.2.2.2.2.2.1,(x4.1.2.2.2.2.2.2.2.1,())))))))),()))))) K (((I.shl x1.1.2.2.1 (I.conv (k:=.i64) .u64 y2.1.1)),((I.conv (k:=.i64) .u64 y2.1.1),((I.shr (I.shl x1.1.2.2.1 (I.conv (k:=.i64) .u64 y2.1.1)) (I.of .u64 32)),((I.and (I.shl x1.1.2.2.1 (I.conv (k:=.i64) .u64 y2.1.1)) (I.of .u64 4294967295)),((I.or (I.shl x1.1.1 (I.conv (k:=.i64) .u64 y2.1.1)) (I.shr x1.1.2.1 (I.sub (I.of .u64 64) (I.conv (k:=.i64) .u64 y2.1.1)))),((I.shr (I.shl x1.1.2.1 (I.conv (k:=.i64) .u64 y2.1.1)) (I.of .u64 32)),((I.and (I.shl x1.1.2.1 (I.conv (k:=.i64) .u64 y2.1.1)) (I.of .u64 4294967295)),((I.quo (I.or (I.shl x1.1.1 (I.conv (k:=.i64) .u64 y2.1.1)) (I.shr x1.1.2.1 (I.sub (I.of .u64 64) (I.conv (k:=.i64) .u64 y2.1.1)))) (I.shr (I.shl x1.1.2.2.1 (I.conv (k:=.i64) .u64 y2.1.1)) (I.of .u64 32))),((I.sub (I.or (I.shl x1.1.1 (I.conv (k:=.i64) .u64 y2.1.1)) (I.shr x1.1.2.1 (I.sub (I.of .u64 64) (I.conv (k:=.i64) .u64 y2.1.1)))) (I.mul (I.quo (I.or (I.shl x1.1.1 (I.conv (k:=.i64) .u64 y2.1.1)) (I.shr x1.1.2.1 (I.sub (I.of .u64 64) (I.conv (k:=.i64) .u64 y2.1.1)))) (I.shr (I.shl x1.1.2.2.1 (I.conv (k:=.i64) .u64 y2.1.1)) (I.of .u64 32))) (I.shr (I.shl x1.1.2.2.1 (I.conv (k:=.i64) .u64 y2.1.1)) (I.of .u64 32)))),()))))))))),())) none) none) none) none) none)) fun j1=>brn (I.leb x0.1.2.2.1 x0.1.1) none (j1 ((x0.1.1,(x0.1.2.1,(x0.1.2.2.1,()))),()))) fun j0=>brn (I.eqb c (I.of .u64 0)) none (j0 ((a,(b,(c,()))),()))
def basefee_Exponent (K:Nat) (x:(⟨[.pl (.int .u64),.pl a0I],[]⟩:Tm).D):Option (⟨[.pl (.int .u64),.pl (.int .i64)],[]⟩:Tm).D :=
 let a:(I .u64):=x.1.1
 let b:a1R:=x.1.2.1
 optF none (params_Valid K ((b,()),())) fun y0=>brn (bnot y0.1.1) (some ((I.of .u64 0,(I.of .i64 15,())),())) (optF none (backlog_Excess K ((a,(b.1,(b.2.1,()))),())) fun y1=>optF none (math_bits_Mul64 K ((y1.1.1,(I.of .u64 10000,())),())) fun y2=>brn (I.leb (I.mul b.2.2.1 b.1) y2.1.1) (some ((I.of .u64 200000,(I.of .i64 0,())),())) (optF none (math_bits_Div64 K ((y2.1.1,(y2.1.2.1,((I.mul b.2.2.1 b.1),()))),())) fun y3=>some (((I.mn y3.1.1 (I.of .u64 200000)),(I.of .i64 0,())),())))
def bips_Exp (K:Nat) (x:(⟨[.pl (.int .u64),.pl (.int .i64)],[]⟩:Tm).D):Option (⟨[.pl (.int .u64),.pl (.int .i64)],[]⟩:Tm).D :=
 let a:(I .u64):=x.1.1
 let b:(I .i64):=x.1.2.1
 jn (fun (x0:(((I .u64) × ((I .i64) × Unit)) × Unit))=>iter none (fun x1=>brn (I.leb (I.of .i64 1) x1.1.2.2.1) (brn (I.nz (I.mul (I.conv (k:=.i64) .u64 x1.1.2.2.1) (I.of .u64 10000))) (.again ((x1.1.1,((I.add (I.of .u64 10000) (I.quo (I.mul x1.1.2.1 x1.1.1) (I.mul (I.conv (k:=.i64) .u64 x1.1.2.2.1) (I.of .u64 10000)))),((I.sub x1.1.2.2.1 (I.of .i64 1)),()))),())) (.done none)) (.done (some ((x1.1.2.1,(I.of .i64 0,())),())))) K ((x0.1.1,(I.of .u64 10000,(x0.1.2.1,()))),())) fun j0=>brn (I.ltb (I.of .u64 200000) a) (some ((I.of .u64 0,(I.of .i64 2,())),())) (brn (I.ltb b (I.of .i64 1)) (some ((I.of .u64 0,(I.of .i64 2,())),())) (brn (I.ltb (I.of .i64 20) b) (some ((I.of .u64 0,(I.of .i64 2,())),())) (j0 ((a,(b,())),()))))
def bips_ScaleExp (K:Nat) (x:(⟨[.pl a1A,.pl (.int .u64),.pl (.int .i64)],[]⟩:Tm).D):Option (⟨[.pl a1A,.pl (.int .i64)],[]⟩:Tm).D :=
 let a:U:=x.1.1
 let b:(I .u64):=x.1.2.1
 let c:(I .i64):=x.1.2.2.1
 optF none (bips_Exp K ((b,(c,())),())) fun y0=>brn (I.neb y0.1.2.1 (I.of .i64 0)) (some ((Z_U,(y0.1.2.1,())),())) (optF none (bips_Scale K ((a,(y0.1.1,())),())) fun y1=>some ((y1.1.1,(y1.1.2.1,())),()))
def basefee_Fee (K:Nat) (x:(⟨[.pl (.int .u64),.pl a0I],[]⟩:Tm).D):Option (⟨[.pl a1A,.pl (.int .i64)],[]⟩:Tm).D :=
 let a:(I .u64):=x.1.1
 let b:a1R:=x.1.2.1
 optF none (basefee_Exponent K ((a,(b,())),())) fun y0=>brn (I.neb y0.1.2.1 (I.of .i64 0)) (some ((Z_U,(y0.1.2.1,())),())) (optF none (bips_ScaleExp K ((b.2.2.2.1,(y0.1.1,(I.of .i64 10,()))),())) fun y1=>some ((y1.1.1,(y1.1.2.1,())),()))
def block_Genesis (K:Nat) (x:(⟨[.pl a0I],[]⟩:Tm).D):Option (⟨[.pl a1M,.pl (.int .i64)],[]⟩:Tm).D :=
 let a:a1R:=x.1.1
 optF none (basefee_Fee K ((I.of .u64 0,(a,())),())) fun y0=>brn (I.neb y0.1.2.1 (I.of .i64 0)) (some ((Z_S_api_Block,(y0.1.2.1,())),())) (some (((I.of .u64 1,(I.of .u64 0,(I.of .u64 0,(y0.1.1,())))),(I.of .i64 0,())),()))
def ledger_New (K:Nat) (x:(⟨[],[]⟩:Tm).D):Option (⟨[.ptr 0 []],a0V⟩:Tm).D :=
 some ((),(((),(Z_S_A4_U,())),([],())))
def merkle_New (K:Nat) (x:(⟨[],[]⟩:Tm).D):Option (⟨[.ptr 0 []],H_merkle_Tree⟩:Tm).D :=
 some ((),(((),()),([],())))
def outbox_New (K:Nat) (x:(⟨[],[]⟩:Tm).D):Option (⟨[.ptr 0 []],a1K⟩:Tm).D :=
 optF none (merkle_New K ((),())) fun y0=>some ((),(((),((),())),(y0.2.1,([],(y0.2.2.1,())))))
def escrow_New (K:Nat) (x:(⟨[],[]⟩:Tm).D):Option (⟨[.ptr 0 []],H_escrow_Escrow⟩:Tm).D :=
 some ((),(((),((),(Z_U,((),())))),([],([],([],())))))
def executor_New (K:Nat) (x:(⟨[],[]⟩:Tm).D):Option (⟨[.ptr 0 []],a0F⟩:Tm).D :=
 optF none (params_Genesis K ((),())) fun y0=>optF none (block_Genesis K ((y0.1.1,()),())) fun y1=>optF none (pricer_Genesis K ((),())) fun y2=>optF none (ledger_New K ((),())) fun y3=>optF none (outbox_New K ((),())) fun y4=>optF none (escrow_New K ((),())) fun y5=>some ((),((I.of .u64 0,(y0.1.1,(y1.1.1,(I.of .u64 0,(y2.1.1,((),((),((),())))))))),(y3.2.1,(y4.2.1,(y4.2.2.1,(y5.2.1,(y3.2.2.1,(y4.2.2.2.1,(y4.2.2.2.2.1,(y5.2.2.1,(y5.2.2.2.1,(y5.2.2.2.2.1,()))))))))))))
def slices_Clone___api_Account_api_Account_ (K:Nat) (x:(⟨[.pl (.sl a0M)],[]⟩:Tm).D):Option (⟨[.whole 0],[.row a0M]⟩:Tm).D :=
 let a:(List a0G):=x.1.1
 brn (emptyN (@a1I a0G a)) (both none (some ((),([],()))) (brn (a1Z (@a1I a0G (@appL a0G [] a))) (some ((),((@appL a0G [] a),()))) none)) (brn (a1Z (@a1I a0G (@appL a0G [] a))) (some ((),((@appL a0G [] a),()))) none)
def slices_Clone___api_Account_api_Account_c (K:Nat) (x:(⟨[.pl (.sl a0M)],[]⟩:Tm).D):Option (⟨[.whole 0],[.row a0M]⟩:Tm).D:=brn (a1Z (a1I x.1.1)) (some ((),(x.1.1,()))) none
theorem slices_Clone___api_Account_api_Account_c_eq (K:Nat):∀ x,slices_Clone___api_Account_api_Account_ K x = slices_Clone___api_Account_api_Account_c K x
 | ⟨⟨[],⟨⟩⟩,⟨⟩⟩=>both_eq rfl
 | ⟨⟨_ :: _,⟨⟩⟩,⟨⟩⟩=>rfl
def ledger_Ledger_Accounts (K:Nat) (x:(⟨[.bp Y_pontageref11_Ledger],[]⟩:Tm).D):Option (⟨[.whole 0],[.row a0M]⟩:Tm).D :=
 let a:S_ledger_Ledger:=x.1.1
 optF none (slices_Clone___api_Account_api_Account_c K ((a.1,()),())) fun y0=>some ((),(y0.2.1,()))
def ledger_Ledger_Vaults (K:Nat) (x:(⟨[.bp Y_pontageref11_Ledger],[]⟩:Tm).D):Option (⟨[.pl (.arr 4 a1A)],[]⟩:Tm).D :=
 let a:S_ledger_Ledger:=x.1.1
 some ((a.2.1,()),())
def slices_Clone___api_Message_api_Message_ (K:Nat) (x:(⟨[.pl (.sl a0J)],[]⟩:Tm).D):Option (⟨[.whole 0],[.row a0J]⟩:Tm).D :=
 let a:(List a0H):=x.1.1
 brn (emptyN (@a1I a0H a)) (both none (some ((),([],()))) (brn (a1Z (@a1I a0H (@appL a0H [] a))) (some ((),((@appL a0H [] a),()))) none)) (brn (a1Z (@a1I a0H (@appL a0H [] a))) (some ((),((@appL a0H [] a),()))) none)
def slices_Clone___api_Message_api_Message_c (K:Nat) (x:(⟨[.pl (.sl a0J)],[]⟩:Tm).D):Option (⟨[.whole 0],[.row a0J]⟩:Tm).D:=brn (a1Z (a1I x.1.1)) (some ((),(x.1.1,()))) none
theorem slices_Clone___api_Message_api_Message_c_eq (K:Nat):∀ x,slices_Clone___api_Message_api_Message_ K x = slices_Clone___api_Message_api_Message_c K x
 | ⟨⟨[],⟨⟩⟩,⟨⟩⟩=>both_eq rfl
 | ⟨⟨_ :: _,⟨⟩⟩,⟨⟩⟩=>rfl
def outbox_Outbox_All (K:Nat) (x:(⟨[.ptr 0 []],a1K⟩:Tm).D):Option (⟨[.whole 4],[.box a1X (.pair (.whole 2) (.pair (.ptr 1 []) (.pl .nil))),.box tY0 (.pair (.whole 3) (.pl .nil)),.row a0J,.row (.arr 32 (.int .u8)),.row a0J]⟩:Tm).D :=
 let h0:a0Y:=x.2.1
 let h1:a0W:=x.2.2.1
 let h2:(List a0H):=x.2.2.2.1
 let h3:(List a0B):=x.2.2.2.2.1
 optF none (slices_Clone___api_Message_api_Message_c K ((h2,()),())) fun y0=>some ((),(h0,(h1,(h2,(h3,(y0.2.1,()))))))
def escrow_Escrow_Balance (K:Nat) (x:(⟨[.bp a1F],[]⟩:Tm).D):Option (⟨[.pl a1A],[]⟩:Tm).D :=
 let a:S_escrow_Escrow:=x.1.1
 some ((a.2.2.1,()),())
def slices_Clone___api_Payment_api_Payment_ (K:Nat) (x:(⟨[.pl (.sl a0P)],[]⟩:Tm).D):Option (⟨[.whole 0],[.row a0P]⟩:Tm).D :=
 let a:(List a0D):=x.1.1
 brn (emptyN (@a1I a0D a)) (both none (some ((),([],()))) (brn (a1Z (@a1I a0D (@appL a0D [] a))) (some ((),((@appL a0D [] a),()))) none)) (brn (a1Z (@a1I a0D (@appL a0D [] a))) (some ((),((@appL a0D [] a),()))) none)
def slices_Clone___api_Payment_api_Payment_c (K:Nat) (x:(⟨[.pl (.sl a0P)],[]⟩:Tm).D):Option (⟨[.whole 0],[.row a0P]⟩:Tm).D:=brn (a1Z (a1I x.1.1)) (some ((),(x.1.1,()))) none
theorem slices_Clone___api_Payment_api_Payment_c_eq (K:Nat):∀ x,slices_Clone___api_Payment_api_Payment_ K x = slices_Clone___api_Payment_api_Payment_c K x
 | ⟨⟨[],⟨⟩⟩,⟨⟩⟩=>both_eq rfl
 | ⟨⟨_ :: _,⟨⟩⟩,⟨⟩⟩=>rfl
def escrow_Escrow_L1Balances (K:Nat) (x:(⟨[.bp a1F],[]⟩:Tm).D):Option (⟨[.whole 0],[.row a0P]⟩:Tm).D :=
 let a:S_escrow_Escrow:=x.1.1
 optF none (slices_Clone___api_Payment_api_Payment_c K ((a.2.2.2.1,()),())) fun y0=>some ((),(y0.2.1,()))
def slices_Clone___api_Poster_api_Poster_c (K:Nat) (x:(⟨[.pl (.sl a0L)],[]⟩:Tm).D):Option (⟨[.whole 0],[.row a0L]⟩:Tm).D:=brn (a1Z (a1I x.1.1)) (some ((),(x.1.1,()))) none
theorem slices_Clone___api_Poster_api_Poster_c_eq (K:Nat):∀ x,a0S K x = slices_Clone___api_Poster_api_Poster_c K x
 | ⟨⟨[],⟨⟩⟩,⟨⟩⟩=>both_eq rfl
 | ⟨⟨_ :: _,⟨⟩⟩,⟨⟩⟩=>rfl
def escrow_Escrow_Size (K:Nat) (x:(⟨[.bp a1F],[]⟩:Tm).D):Option (⟨[.pl (.int .i64)],[]⟩:Tm).D :=
 let a:S_escrow_Escrow:=x.1.1
 some (((I.ofNat .i64 (@a1I a0B a.1)),()),())
def escrow_Escrow_Claimed (K:Nat) (x:(⟨[.bp a1F,.pl (.int .u64)],[]⟩:Tm).D):Option (⟨[.pl .bool],[]⟩:Tm).D :=
 let a:S_escrow_Escrow:=x.1.1
 let b:(I .u64):=x.1.2.1
 optF none (escrow_Escrow_Size K ((a,()),())) fun y0=>brn (I.ltb b (I.conv (k:=.i64) .u64 y0.1.1)) (brn (inB b (@a1I Bool a.2.1)) (some (((@rdL Bool false a.2.1 (I.nat b)),()),())) none) (some ((false,()),()))
def executor_Machine_State (K:Nat) (x:(⟨[.ptr 0 []],a0F⟩:Tm).D):Option (⟨[.pair (.pl (.int .u64)) (.pair (.pl a0I) (.pair (.pl a1M) (.pair (.pl (.int .u64)) (.pair (.pair (.pl a1A) (.pair (.pl (.int .u64)) (.pair (.pl (.int .u64)) (.pair (.pl (.int .u64)) (.pair (.pl a0O) (.pair (.whole 11) (.pl .nil))))))) (.pair (.whole 12) (.pair (.pl (.arr 4 a1A)) (.pair (.whole 13) (.pair (.whole 14) (.pair (.pl a1A) (.pair (.whole 15) (.pl .nil)))))))))))],[.box a1W (.pair (.pl (.int .u64)) (.pair (.pl a0I) (.pair (.pl a1M) (.pair (.pl (.int .u64)) (.pair (.pl a0N) (.pair (.ptr 1 []) (.pair (.ptr 2 []) (.pair (.ptr 4 []) (.pl .nil))))))))),.box Y_pontageref11_Ledger (.pair (.whole 5) (.pl (.cons (.arr 4 a1A) .nil))),.box a1X (.pair (.whole 6) (.pair (.ptr 3 []) (.pl .nil))),.box tY0 (.pair (.whole 7) (.pl .nil)),.box a1F (.pair (.whole 8) (.pair (.whole 9) (.pair (.pl a1A) (.pair (.whole 10) (.pl .nil))))),.row a0M,.row a0J,.row (.arr 32 (.int .u8)),.row (.arr 32 (.int .u8)),.row .bool,.row a0P,.row a0L,.row a0M,.row a0J,.row .bool,.row a0P]⟩:Tm).D :=
 let h0:O_pontageref28_Machine:=x.2.1
 let h1:a0T:=x.2.2.1
 let h2:a0Y:=x.2.2.2.1
 let h3:a0W:=x.2.2.2.2.1
 let h4:a0U:=x.2.2.2.2.2.1
 let h5:(List a0G):=x.2.2.2.2.2.2.1
 let h6:(List a0H):=x.2.2.2.2.2.2.2.1
 let h7:(List a0B):=x.2.2.2.2.2.2.2.2.1
 let h8:(List a0B):=x.2.2.2.2.2.2.2.2.2.1
 let h9:(List Bool):=x.2.2.2.2.2.2.2.2.2.2.1
 let h10:(List a0D):=x.2.2.2.2.2.2.2.2.2.2.2.1
 optF none (ledger_Ledger_Accounts K (((h5,h1.2),()),())) fun y0=>optF none (ledger_Ledger_Vaults K (((h5,h1.2),()),())) fun y1=>optF none (outbox_Outbox_All K ((),(((),((),h2.2.2)),(((),h3.2),(h6,(h7,())))))) fun y2=>optF none (escrow_Escrow_Balance K (((h8,(h9,(h4.2.2.1,(h10,h4.2.2.2.2)))),()),())) fun y3=>optF none (escrow_Escrow_L1Balances K (((h8,(h9,(h4.2.2.1,(h10,h4.2.2.2.2)))),()),())) fun y4=>optF none (slices_Clone___api_Poster_api_Poster_c K ((h0.2.2.2.2.1.2.2.2.2.2.1,()),())) fun y5=>iter none (fun (x6:(((I .i64) × ((I .i64) × Unit)) × (O_pontageref28_Machine × (a0T × ((List a0G) × (a0Y × ((List a0H) × (a0W × ((List a0B) × (a0U × ((List a0B) × ((List Bool) × ((List a0D) × (((I .u64) × (a1R × (S_api_Block × ((I .u64) × ((U × ((I .u64) × ((I .u64) × ((I .u64) × (S_api_Int256 × a0W))))) × (Unit × (S_A4_U × a0U))))))) × ((List a0E) × ((List a0G) × ((List a0H) × ((List Bool) × ((List a0D) × (((I .u64) × (a1R × (S_api_Block × ((I .u64) × ((U × ((I .u64) × ((I .u64) × ((I .u64) × (S_api_Int256 × a0W))))) × (Unit × (S_A4_U × a0U))))))) × ((List a0E) × ((List a0G) × ((List a0H) × ((List Bool) × ((List a0D) × Unit)))))))))))))))))))))))))=>brn (I.ltb x6.1.2.1 x6.1.1) (optF (.done none) (escrow_Escrow_Claimed K (((x6.2.2.2.2.2.2.2.2.2.1,(x6.2.2.2.2.2.2.2.2.2.2.1,(x6.2.2.2.2.2.2.2.2.1.2.2.1,(x6.2.2.2.2.2.2.2.2.2.2.2.1,x6.2.2.2.2.2.2.2.2.1.2.2.2.2)))),((I.conv (k:=.i64) .u64 x6.1.2.1),())),())) fun y7=>brn (a1Z (@a1I Bool (@appL Bool x6.2.2.2.2.2.2.2.2.2.2.2.2.2.2.2.2.2.2.2.2.2.2.1 (y7.1.1::[])))) (.again ((x6.1.1,((I.add x6.1.2.1 (I.of .i64 1)),())),((x6.2.1.1,(x6.2.1.2.1,(x6.2.1.2.2.1,(x6.2.1.2.2.2.1,(x6.2.1.2.2.2.2.1,((),((),((),x6.2.1.2.2.2.2.2.2.2.2)))))))),(((),x6.2.2.1.2),(x6.2.2.2.1,(((),((),x6.2.2.2.2.1.2.2)),(x6.2.2.2.2.2.1,(((),x6.2.2.2.2.2.2.1.2),(x6.2.2.2.2.2.2.2.1,(((),((),(x6.2.2.2.2.2.2.2.2.1.2.2.1,((),x6.2.2.2.2.2.2.2.2.1.2.2.2.2)))),(x6.2.2.2.2.2.2.2.2.2.1,(x6.2.2.2.2.2.2.2.2.2.2.1,(x6.2.2.2.2.2.2.2.2.2.2.2.1,((x6.2.2.2.2.2.2.2.2.2.2.2.2.1.1,(x6.2.2.2.2.2.2.2.2.2.2.2.2.1.2.1,(x6.2.2.2.2.2.2.2.2.2.2.2.2.1.2.2.1,(x6.2.2.2.2.2.2.2.2.2.2.2.2.1.2.2.2.1,((x6.2.2.2.2.2.2.2.2.2.2.2.2.1.2.2.2.2.1.1,(x6.2.2.2.2.2.2.2.2.2.2.2.2.1.2.2.2.2.1.2.1,(x6.2.2.2.2.2.2.2.2.2.2.2.2.1.2.2.2.2.1.2.2.1,(x6.2.2.2.2.2.2.2.2.2.2.2.2.1.2.2.2.2.1.2.2.2.1,(x6.2.2.2.2.2.2.2.2.2.2.2.2.1.2.2.2.2.1.2.2.2.2.1,((),x6.2.2.2.2.2.2.2.2.2.2.2.2.1.2.2.2.2.1.2.2.2.2.2.2)))))),((),(x6.2.2.2.2.2.2.2.2.2.2.2.2.1.2.2.2.2.2.2.1,((),((),(x6.2.2.2.2.2.2.2.2.2.2.2.2.1.2.2.2.2.2.2.2.2.2.1,((),x6.2.2.2.2.2.2.2.2.2.2.2.2.1.2.2.2.2.2.2.2.2.2.2.2))))))))))),(x6.2.2.2.2.2.2.2.2.2.2.2.2.2.1,(x6.2.2.2.2.2.2.2.2.2.2.2.2.2.2.1,(x6.2.2.2.2.2.2.2.2.2.2.2.2.2.2.2.1,(x6.2.2.2.2.2.2.2.2.2.2.2.2.2.2.2.2.1,(x6.2.2.2.2.2.2.2.2.2.2.2.2.2.2.2.2.2.1,((x6.2.2.2.2.2.2.2.2.2.2.2.2.2.2.2.2.2.2.1.1,(x6.2.2.2.2.2.2.2.2.2.2.2.2.2.2.2.2.2.2.1.2.1,(x6.2.2.2.2.2.2.2.2.2.2.2.2.2.2.2.2.2.2.1.2.2.1,(x6.2.2.2.2.2.2.2.2.2.2.2.2.2.2.2.2.2.2.1.2.2.2.1,((x6.2.2.2.2.2.2.2.2.2.2.2.2.2.2.2.2.2.2.1.2.2.2.2.1.1,(x6.2.2.2.2.2.2.2.2.2.2.2.2.2.2.2.2.2.2.1.2.2.2.2.1.2.1,(x6.2.2.2.2.2.2.2.2.2.2.2.2.2.2.2.2.2.2.1.2.2.2.2.1.2.2.1,(x6.2.2.2.2.2.2.2.2.2.2.2.2.2.2.2.2.2.2.1.2.2.2.2.1.2.2.2.1,(x6.2.2.2.2.2.2.2.2.2.2.2.2.2.2.2.2.2.2.1.2.2.2.2.1.2.2.2.2.1,((),x6.2.2.2.2.2.2.2.2.2.2.2.2.2.2.2.2.2.2.1.2.2.2.2.1.2.2.2.2.2.2)))))),((),(x6.2.2.2.2.2.2.2.2.2.2.2.2.2.2.2.2.2.2.1.2.2.2.2.2.2.1,((),((),(x6.2.2.2.2.2.2.2.2.2.2.2.2.2.2.2.2.2.2.1.2.2.2.2.2.2.2.2.2.1,((),x6.2.2.2.2.2.2.2.2.2.2.2.2.2.2.2.2.2.2.1.2.2.2.2.2.2.2.2.2.2.2))))))))))),(x6.2.2.2.2.2.2.2.2.2.2.2.2.2.2.2.2.2.2.2.1,(x6.2.2.2.2.2.2.2.2.2.2.2.2.2.2.2.2.2.2.2.2.1,(x6.2.2.2.2.2.2.2.2.2.2.2.2.2.2.2.2.2.2.2.2.2.1,((@appL Bool x6.2.2.2.2.2.2.2.2.2.2.2.2.2.2.2.2.2.2.2.2.2.2.1 (y7.1.1::[])),(x6.2.2.2.2.2.2.2.2.2.2.2.2.2.2.2.2.2.2.2.2.2.2.2.1,()))))))))))))))))))))))))) (.done none)) (.done (some (((x6.2.2.2.2.2.2.2.2.2.2.2.2.2.2.2.2.2.2.1.1,(x6.2.2.2.2.2.2.2.2.2.2.2.2.2.2.2.2.2.2.1.2.1,(x6.2.2.2.2.2.2.2.2.2.2.2.2.2.2.2.2.2.2.1.2.2.1,(x6.2.2.2.2.2.2.2.2.2.2.2.2.2.2.2.2.2.2.1.2.2.2.1,((x6.2.2.2.2.2.2.2.2.2.2.2.2.2.2.2.2.2.2.1.2.2.2.2.1.1,(x6.2.2.2.2.2.2.2.2.2.2.2.2.2.2.2.2.2.2.1.2.2.2.2.1.2.1,(x6.2.2.2.2.2.2.2.2.2.2.2.2.2.2.2.2.2.2.1.2.2.2.2.1.2.2.1,(x6.2.2.2.2.2.2.2.2.2.2.2.2.2.2.2.2.2.2.1.2.2.2.2.1.2.2.2.1,(x6.2.2.2.2.2.2.2.2.2.2.2.2.2.2.2.2.2.2.1.2.2.2.2.1.2.2.2.2.1,((),x6.2.2.2.2.2.2.2.2.2.2.2.2.2.2.2.2.2.2.1.2.2.2.2.1.2.2.2.2.2.2)))))),((),(x6.2.2.2.2.2.2.2.2.2.2.2.2.2.2.2.2.2.2.1.2.2.2.2.2.2.1,((),((),(x6.2.2.2.2.2.2.2.2.2.2.2.2.2.2.2.2.2.2.1.2.2.2.2.2.2.2.2.2.1,((),x6.2.2.2.2.2.2.2.2.2.2.2.2.2.2.2.2.2.2.1.2.2.2.2.2.2.2.2.2.2.2))))))))))),()),((x6.2.1.1,(x6.2.1.2.1,(x6.2.1.2.2.1,(x6.2.1.2.2.2.1,(x6.2.1.2.2.2.2.1,((),((),((),x6.2.1.2.2.2.2.2.2.2.2)))))))),(((),x6.2.2.1.2),(((),((),x6.2.2.2.2.1.2.2)),(((),x6.2.2.2.2.2.2.1.2),(((),((),(x6.2.2.2.2.2.2.2.2.1.2.2.1,((),x6.2.2.2.2.2.2.2.2.1.2.2.2.2)))),(x6.2.2.2.1,(x6.2.2.2.2.2.1,(x6.2.2.2.2.2.2.2.1,(x6.2.2.2.2.2.2.2.2.2.1,(x6.2.2.2.2.2.2.2.2.2.2.1,(x6.2.2.2.2.2.2.2.2.2.2.2.1,(x6.2.2.2.2.2.2.2.2.2.2.2.2.2.2.2.2.2.2.2.1,(x6.2.2.2.2.2.2.2.2.2.2.2.2.2.2.2.2.2.2.2.2.1,(x6.2.2.2.2.2.2.2.2.2.2.2.2.2.2.2.2.2.2.2.2.2.1,(x6.2.2.2.2.2.2.2.2.2.2.2.2.2.2.2.2.2.2.2.2.2.2.1,(x6.2.2.2.2.2.2.2.2.2.2.2.2.2.2.2.2.2.2.2.2.2.2.2.1,())))))))))))))))))))) K (((I.ofNat .i64 (@a1I a0H y2.2.2.2.2.2.1)),(I.of .i64 0,())),((h0.1,(h0.2.1,(h0.2.2.1,(h0.2.2.2.1,(h0.2.2.2.2.1,((),((),((),h0.2.2.2.2.2.2.2.2)))))))),(((),h1.2),(h5,(((),((),y2.2.1.2.2)),(y2.2.2.2.1,(((),y2.2.2.1.2),(y2.2.2.2.2.1,(((),((),(h4.2.2.1,((),h4.2.2.2.2)))),(h8,(h9,(h10,((I.of .u64 0,(Z_S_api_Params,(Z_S_api_Block,(I.of .u64 0,((Z_U,(I.of .u64 0,(I.of .u64 0,(I.of .u64 0,(Z_S_api_Int256,((),())))))),((),(Z_S_A4_U,((),((),(Z_U,((),()))))))))))),([],([],([],([],([],((h0.1,(h0.2.1,(h0.2.2.1,(h0.2.2.2.1,((h0.2.2.2.2.1.1,(h0.2.2.2.2.1.2.1,(h0.2.2.2.2.1.2.2.1,(h0.2.2.2.2.1.2.2.2.1,(h0.2.2.2.2.1.2.2.2.2.1,((),h0.2.2.2.2.1.2.2.2.2.2.2)))))),((),(y1.1.1,((),((),(y3.1.1,((),()))))))))))),(y5.2.1,(y0.2.1,(y2.2.2.2.2.2.1,([],(y4.2.1,()))))))))))))))))))))))))
def slices_Concat___byte_byte_ (K:Nat) (x:(⟨[.pl (.sl (.sl (.int .u8)))],[]⟩:Tm).D):Option (⟨[.whole 0],[.row (.int .u8)]⟩:Tm).D :=
 let a:(List (List (I .u8))):=x.1.1
 iter none (fun x0=>brn (I.ltb x0.1.2.2.2.2.1 x0.1.2.2.2.1) (brn (inB x0.1.2.2.2.2.1 (@a1I (List (I .u8)) x0.1.2.2.1)) (brn (I.ltb (I.add x0.1.2.1 (I.ofNat .i64 (@a1I (I .u8) (@rdL (List (I .u8)) [] x0.1.2.2.1 (I.nat x0.1.2.2.2.2.1))))) (I.of .i64 0)) (.done none) (.again ((x0.1.1,((I.add x0.1.2.1 (I.ofNat .i64 (@a1I (I .u8) (@rdL (List (I .u8)) [] x0.1.2.2.1 (I.nat x0.1.2.2.2.2.1))))),(x0.1.2.2.1,(x0.1.2.2.2.1,((I.add x0.1.2.2.2.2.1 (I.of .i64 1)),()))))),()))) (.done none)) (.done (brn (I.ltb x0.1.2.1 (I.of .i64 0)) none (brn (I.ltb (I.of .i64 0) (I.sub x0.1.2.1 (I.of .i64 0))) (brn (I.ltb (I.of .i64 0) (I.sub x0.1.2.1 (I.of .i64 0))) (brn (inB' (I.sub x0.1.2.1 (I.of .i64 0)) 1073741824) (brn (inB' (I.of .i64 0) (@a1I (I .u8) (@zrow (I .u8) (I.nat (I.sub x0.1.2.1 (I.of .i64 0))) (I.of .u8 0)))) (iter none (fun x1=>brn (I.ltb x1.1.2.2.1 x1.1.2.1) (brn (inB x1.1.2.2.1 (@a1I (List (I .u8)) x1.1.1)) (brn (a1Z (@a1I (I .u8) (@appL (I .u8) x1.2.1 (@rdL (List (I .u8)) [] x1.1.1 (I.nat x1.1.2.2.1))))) (.again ((x1.1.1,(x1.1.2.1,((I.add x1.1.2.2.1 (I.of .i64 1)),()))),((@appL (I .u8) x1.2.1 (@rdL (List (I .u8)) [] x1.1.1 (I.nat x1.1.2.2.1))),()))) (.done none)) (.done none)) (.done (some ((),(x1.2.1,()))))) K ((x0.1.1,((I.ofNat .i64 (@a1I (List (I .u8)) x0.1.1)),(I.of .i64 0,()))),((@subL (I .u8) (@zrow (I .u8) (I.nat (I.sub x0.1.2.1 (I.of .i64 0))) (I.of .u8 0)) 0 0),()))) none) none) none) none)))) K ((a,(I.of .i64 0,(a,((I.ofNat .i64 (@a1I (List (I .u8)) a)),(I.of .i64 0,()))))),())
def wire_encode (K:Nat) (x:(⟨[.pl a1A],[]⟩:Tm).D):Option (⟨[.pl (.sl (.int .u8))],[]⟩:Tm).D :=
 let a:U:=x.1.1
 optF none (uint256_BitLen K ((a,()),())) fun y0=>iter none (fun (x1:(((I .i64) × Unit) × (U × ((List (I .u8)) × Unit))))=>brn (I.leb (I.of .i64 0) x1.1.1) (brn (inB (I.quo x1.1.1 (I.of .i64 8)) 4) (brn (I.nn (I.mul (I.of .i64 8) (I.rem x1.1.1 (I.of .i64 8)))) (brn (a1Z (@a1I (I .u8) (@appL (I .u8) x1.2.2.1 ((I.conv (k:=.u64) .u8 (I.shr (@Arr.sel (I .u64) (I.of .u64 0) 4 x1.2.1 (I.nat (I.quo x1.1.1 (I.of .i64 8)))) (I.mul (I.of .i64 8) (I.rem x1.1.1 (I.of .i64 8)))))::[])))) (.again (((I.sub x1.1.1 (I.of .i64 1)),()),(x1.2.1,((@appL (I .u8) x1.2.2.1 ((I.conv (k:=.u64) .u8 (I.shr (@Arr.sel (I .u64) (I.of .u64 0) 4 x1.2.1 (I.nat (I.quo x1.1.1 (I.of .i64 8)))) (I.mul (I.of .i64 8) (I.rem x1.1.1 (I.of .i64 8)))))::[])),())))) (.done none)) (.done none)) (.done none)) (.done (some ((x1.2.2.1,()),())))) K (((I.sub (I.quo (I.add y0.1.1 (I.of .i64 7)) (I.of .i64 8)) (I.of .i64 1)),()),(a,(((I.conv (k:=.i64) .u8 (I.quo (I.add y0.1.1 (I.of .i64 7)) (I.of .i64 8)))::[]),())))
end
end Sym

/- The given functions as plain functions, as the printer told them. -/
namespace Sym
open Go
noncomputable def wire_AppendUint256 (K:Nat) (x:(⟨[.pl (.sl (.int .u8)),.pl a1A],[]⟩:Tm).D):Option (⟨[.whole 0],[.row (.int .u8)]⟩:Tm).D :=
 let a:(List (I .u8)):=x.1.1
 let b:U:=x.1.2.1
 optF none (wire_encode K ((b,()),())) fun y0=>optF none (slices_Concat___byte_byte_ K (((a::(y0.1.1::[])),()),())) fun y1=>some ((),(y1.2.1,()))
noncomputable def wire_AppendUint64 (K:Nat) (x:(⟨[.pl (.sl (.int .u8)),.pl (.int .u64)],[]⟩:Tm).D):Option (⟨[.whole 0],[.row (.int .u8)]⟩:Tm).D :=
 let a:(List (I .u8)):=x.1.1
 let b:(I .u64):=x.1.2.1
 optF none (a0Q K ((b,()),())) fun y0=>optF none (wire_AppendUint256 K ((a,(y0.1.1,())),())) fun y1=>some ((),(y1.2.1,()))
end Sym

/- slices.Insert and slices.Delete at rows of any elements, as the machine runs them. -/
namespace Sym
open Go Go.Proofs Go.RowKit Go.Lib Go.Shelf
structure InsP (P:Program) (ρ:Go.Shelf.Ren) (s:Nat):Prop where
 pos:0 < s
 mixed:P.follows .mixedOrders = true
 f22:Bears P (ρ.f 22) (Body2.n22 ρ)
 t3:P.underlying (ρ.t 3) = some (.int .i64)
 a3:∀ w,(isAgg (ρ.t 3)).run P w = .ok false w
 a24:∀ w,(isAgg (ρ.t 24)).run P w = .ok false w
 t24:P.underlying (ρ.t 24) = some (.slice (ρ.t 9))
 i9:(P.info? (ρ.t 9)).map (·.size) = some s
 ov : ∃ fn, P.funcs[ρ.f 29]? = some fn ∧ fn.body = none ∧ (fn.name == "runtime.NumGoroutine") = false ∧ (Extern.findNext fn).isNone = true ∧ Extern.find fn = some (Extern.SlicesOverlaps.overlaps #[ρ.t 24, ρ.t 24] #[ρ.t 4])
section
variable {P:Program} {ρ:Go.Shelf.Ren} {s:Nat}
theorem run_copy_rowN (w:World) (dT sT ty elem:TypeId) (g o dLen dCap:Nat) (a:Addr) (sLen sCap:Nat) (cur:Array Value) (t:TypeId) (cs:List Value) (sz:Nat)
  (hu:P.underlying dT = some (.slice elem)) (hs:(P.info? elem).map (·.size) = some sz)
  (hg:w.heap[g]? = some (.cells cur t (0,0))) (hn:cs.length = Nat.min sLen dLen * sz)
  (hsrc:∀ j v,cs[j]? = some v→w.cell? (a.add j) = some v) (hfit:o + cs.length ≤ cur.size) (h1:∀ v ∈ cs,v.oneCell' = true) :
  (Builtin.copy_ #[dT,sT] ty #[.slice (some ⟨g,o,none⟩) dLen dCap,.slice (some a) sLen sCap]).run P w =
   .ok (goInt (Nat.min sLen dLen)) (w.setRow g (cur.toList.take o ++ cs ++ cur.toList.drop (o + cs.length)).toArray):=by
 have hl:=run_loadCells_list (P:=P) w a cs hsrc
 have hst:=run_storeCells_at P g o t cs 0 cur w hg (by simpa using hfit) h1
 cases hq:P.info? elem with
 | none=>simp [hq] at hs
 | some i =>
  have hi:i.size = sz:=by simpa [hq] using hs
  simp [Builtin.copy_,run_underlying hu,Builtin.lenOf,Builtin.firstCells,Go.sizeOf,typeInfo,hq,hi,← hn,hl,hst]
theorem InsP.sizeOf (h:InsP P ρ s) (w:World):(Go.sizeOf (ρ.t 9)).run P w = .ok s w:=by
 have h:=h.i9
 cases hq:P.info? (ρ.t 9) with
 | none=>rw [hq] at h; cases h
 | some i =>
  have hi:i.size = s:=by rw [hq] at h; simpa using h
  simp [Go.sizeOf,typeInfo,hq,hi]
set_option maxHeartbeats 1000000 in
set_option maxRecDepth 100000 in
theorem insert_end (h:InsP P ρ s) (n m:Nat) (hd hv:Value) (w w':World) (hd':Value) (hm:0 < m) (hn:n ≤ 1073741824)
  (hdl:hd = .slice none 0 0∧n = 0 ∨ ∃ g cap,hd = .slice (some ⟨g,0,none⟩) n cap∧n ≤ cap∧cap ≤ maxLen) (hvl:∃ a c,hv = .slice a m c)
  (hrun:(Builtin.append_ #[(ρ.t 24),(ρ.t 24)] (ρ.t 24) #[hd,hv]).run P w = .ok hd' w') :
  Calls P (ρ.f 22) #[hd,.int .i64 n,hv] w fun e w2=>e = .returned hd'∧w2 = w':=by
 obtain ⟨a,c,rfl⟩:=hvl
 have mixed:=h.mixed
 obtain ⟨_,_,FG⟩:=h.f22
 have z9:=h.sizeOf; have t24:=h.t24; have t3:=h.t3; have a3:=h.a3; have a24:=h.a24; have u24:=run_underlying h.t24; have u3:=run_underlying h.t3
 have hz1:¬ ((m:Int) = 0):=by omega
 go_enter FG,Body2.n22_ntmps ρ
 rcases hdl with ⟨rfl,rfl⟩ | ⟨g,cap,rfl,h1,h2⟩
 ·
  go_wp2_with (at_builtin; refine Lib.wpList_append_run _ rfl _ _ _ _ rfl _ _ rfl rfl _ _ hrun ?_)
  go_ret
  exact ⟨rfl,rfl⟩
 ·
  go_wp2_with (at_builtin; refine Lib.wpList_append_run _ rfl _ _ _ _ rfl _ _ rfl rfl _ _ hrun ?_)
  all_goals (go_ret; exact ⟨rfl,rfl⟩)
set_option maxHeartbeats 1000000 in
set_option maxRecDepth 100000 in
theorem insert_room (h:InsP P ρ s) (n m i cap vc g vb:Nat) (cur curv cur1 cur2:Array Value) (cs vs:List Value) (e ev:TypeId) (w:World) (hm:0 < m) (hi:i < n) (hroom:n + m ≤ cap) (hc63:cap ≤ maxLen) (hvb:vb ≠ g)
  (hg:w.heap[g]? = some (.cells cur e (0,0))) (hv:w.heap[vb]? = some (.cells curv ev (0,0))) (hcs:cur.size = cap * s) (hvs:m * s ≤ curv.size)
  (h1:∀ v ∈ cs,v.oneCell' = true) (h1v:∀ v ∈ vs,v.oneCell' = true)
  (hcs0:cs = (cur.toList.drop (i * s)).take ((n - i) * s)) (hvs0:vs = curv.toList.take (m * s))
  (hc1:cur1 = (cur.toList.take ((i + m) * s) ++ cs ++ cur.toList.drop ((i + m) * s + cs.length)).toArray)
  (hc2:cur2 = (cur1.toList.take (i * s) ++ vs ++ cur1.toList.drop (i * s + vs.length)).toArray) :
  Calls P (ρ.f 22) #[.slice (some ⟨g,0,none⟩) n cap,.int .i64 i,.slice (some ⟨vb,0,none⟩) m vc] w fun e w2=>e = .returned (.slice (some ⟨g,0,none⟩) (n + m) cap)∧w2 = (w.drew.setRow g cur1).setRow g cur2:=by
 have mixed:=h.mixed
 obtain ⟨_,_,FG⟩:=h.f22
 obtain ⟨fo,o1,o2,o3,o4,o5⟩:=h.ov
 have hpos:=h.pos; have z9:=h.sizeOf; have t24:=h.t24; have t3:=h.t3; have a3:=h.a3; have a24:=h.a24; have u24:=run_underlying h.t24; have u3:=run_underlying h.t3
 have e0:i * s + (n - i) * s = n * s:=by rw [← Nat.add_mul]; congr 1; omega
 have e4:(i + m) * s = i * s + m * s:=Nat.add_mul _ _ _
 have e5:(n + m) * s = n * s + m * s:=Nat.add_mul _ _ _
 have e6:(n + m - i) * s = (n + m) * s - i * s:=Nat.sub_mul _ _ _
 have e8:(n - i) * s = n * s - i * s:=Nat.sub_mul _ _ _
 have e9:i * s ≤ n * s:=Nat.mul_le_mul_right _ (by omega)
 have e2:(n + m) * s ≤ cap * s:=Nat.mul_le_mul_right _ hroom
 have e7:n * s ≤ cap * s:=Nat.mul_le_mul_right _ (by omega)
 have hz1:¬ ((m:Int) = 0):=by omega
 have hz2:¬ ((i:Int) = (n:Int)):=by omega
 have hov:∀ lb cb,(callFunc (ρ.f 29) #[.slice (some ⟨vb,0,none⟩) m vc,.slice (some ⟨g,(i + m) * s,none⟩) lb cb]).run P w = .ok (.value (.bool false)) w:=fun lb cb=>by
  rw [run_callFunc_extern o1 o3 (by rw [o2]; rfl) (Option.isNone_iff_eq_none.1 o4) o5,
   Lib.run_overlaps_apart w (ρ.t 24) (ρ.t 4) (ρ.t 9) h.t24 s h.sizeOf ⟨vb,0,none⟩ ⟨g,(i + m) * s,none⟩ m vc lb cb hvb ev e curv.size cur.size (by simp [World.shape?,hv]) (by simp [World.shape?,hg]) (by rw [hcs]; exact Nat.ne_of_gt (Nat.mul_pos (by omega) hpos)) (by simp [World.frozen?,hv]) (by simp [World.frozen?,hv])]
  rfl
 have hw1:IntKind.i64.wrap ((i:Int) + (m:Int)) = (i:Int) + (m:Int):=by rw [IntKind.wrap_i64]; unfold maxLen at hc63; omega
 have hw2:IntKind.i64.wrap ((n:Int) + (m:Int)) = (n:Int) + (m:Int):=by rw [IntKind.wrap_i64]; unfold maxLen at hc63; omega
 have hb1:(0:Int) ≤ (i:Int) + (m:Int):=by omega
 have hin:i ≤ n:=by omega
 have htn:((i:Int) + (m:Int)).toNat = i + m:=by omega
 have hb2:¬ (cap = i + m):=by omega
 have hb3:(i:Int) ≤ (n:Int) + (m:Int):=by omega
 have hb4:¬ (cap = i):=by omega
 have e1:(i + m) * s + (n - i) * s = (n + m) * s:=by omega
 have hcl:cs.length = (n - i) * s:=by rw [hcs0,List.length_take,List.length_drop,Array.length_toList,hcs]; omega
 have hvl:vs.length = m * s:=by rw [hvs0,List.length_take,Array.length_toList]; omega
 have hc1s:cur1.size = cap * s:=by rw [hc1]; simp only [List.size_toArray,List.length_append,List.length_take,List.length_drop,Array.length_toList,hcl,hcs]; omega
 have hcp1:∀ ty dc sc,(Builtin.copy_ #[(ρ.t 24),(ρ.t 24)] ty #[.slice (some ⟨g,(i + m) * s,none⟩) (n + m - (i + m)) dc,.slice (some ⟨g,i * s,none⟩) (n + m - i) sc]).run P w.drew = .ok (goInt (Nat.min (n + m - i) (n + m - (i + m)))) (w.drew.setRow g cur1):=fun ty dc sc=>by
  have hmin:Nat.min (n + m - i) (n + m - (i + m)) = n - i:=by simp only [Nat.min_def]; split <;> omega
  rw [hc1]
  exact run_copy_rowN w.drew (ρ.t 24) (ρ.t 24) ty (ρ.t 9) g ((i + m) * s) _ dc ⟨g,i * s,none⟩ _ sc cur e cs s h.t24 h.i9 hg (by rw [hmin]; exact hcl)
   (fun j v hj=>by
    rw [Addr.add_lit]
    have:(cur.toList.drop (i * s))[j]? = some v:=by rw [hcs0,List.getElem?_take] at hj; split at hj; exact hj; cases hj
    rw [List.getElem?_drop] at this
    have h2:w.drew.heap[g]? = some (.cells cur e (0,0)):=hg
    simp only [World.cell?,h2]
    simpa using this) (by omega) h1
 have hcp2:∀ (W:World),W.heap = (w.drew.setRow g cur1).heap→∀ ty dc,(Builtin.copy_ #[(ρ.t 24),(ρ.t 24)] ty #[.slice (some ⟨g,i * s,none⟩) (n + m - i) dc,.slice (some ⟨vb,0,none⟩) m vc]).run P W = .ok (goInt (Nat.min m (n + m - i))) (W.setRow g cur2):=fun W hW ty dc=>by
  rw [hc2]
  have hmin:Nat.min m (n + m - i) = m:=by simp only [Nat.min_def]; split <;> omega
  exact run_copy_rowN W (ρ.t 24) (ρ.t 24) ty (ρ.t 9) g (i * s) _ dc ⟨vb,0,none⟩ _ vc cur1 e vs s h.t24 h.i9 (by rw [hW]; exact setRow_heap w.drew g cur cur1 e _ hg) (by rw [hmin]; exact hvl)
   (fun j v hj=>by
    rw [Addr.add_lit]
    have:curv.toList[j]? = some v:=by rw [hvs0,List.getElem?_take] at hj; split at hj; exact hj; cases hj
    have h2:W.heap[vb]? = some (.cells curv ev (0,0)):=by rw [hW,setRow_other w.drew g vb cur1 hvb]; exact hv
    simp only [World.cell?,h2]
    simpa using this) (by omega) h1v
 clear hc1 hc2 hcs0 hvs0 hcl hvl hc1s e1 e2 e0 e4 e5 e6 e7 e8 e9
 go_enter FG,Body2.n22_ntmps ρ
 go_wp2_with (simp only [hov])
 go_region_law_o (refine step_copy_runI rfl _ _ (ρ.t 24) (ρ.t 24) rfl _ _ (by simp [Act.eval,Act.put]) (by simp [Act.eval,Act.put]) (hcp1 _ _ _) ?_)
 go_wp2_with (at_builtin; refine wpList_copy_runI _ rfl _ _ (ρ.t 24) (ρ.t 24) rfl _ _ rfl rfl (hcp2 _ rfl _ _) ?_)
 go_ret
 exact ⟨rfl,rfl⟩
set_option maxHeartbeats 2000000 in
set_option maxRecDepth 100000 in
theorem insert_grow (h:InsP P ρ s) (n m i cap vc g vb:Nat) (cur curv ROW ROW1 ROW2:Array Value) (cs vs olds:List Value) (e ev:TypeId) (w:World) (i0:TypeInfo) (z:Value) (hi0:P.info? (ρ.t 9) = some i0) (hz0:i0.zero = some z) (hzs:i0.size = s) (hzc:z.cells.size = s) (hby:i0.bytes ≤ 131072)
  (hm:0 < m) (hi:i < n) (hnc:n ≤ cap) (hroom:cap < n + m) (hlim:n + m ≤ 1073741824) (hvb:vb ≠ g)
  (hg:w.heap[g]? = some (.cells cur e (0,0))) (hv:w.heap[vb]? = some (.cells curv ev (0,0))) (hcs:cur.size = cap * s) (hvs:m * s ≤ curv.size)
  (h1:∀ v ∈ cs,v.oneCell' = true) (h1v:∀ v ∈ vs,v.oneCell' = true)
  (hol:olds = cur.toList.take (i * s)) (hcs0:cs = (cur.toList.drop (i * s)).take ((n - i) * s)) (hvs0:vs = curv.toList.take (m * s))
  (hROW:ROW = olds.toArray ++ Builtin.zeroCells z.cells (n + m - i) ++ Builtin.zeroCells z.cells (grownCap w (n + m) cap (ρ.t 9) - (n + m)))
  (hc1:ROW1 = (ROW.toList.take (i * s) ++ vs ++ ROW.toList.drop (i * s + vs.length)).toArray)
  (hc2:ROW2 = (ROW1.toList.take ((i + m) * s) ++ cs ++ ROW1.toList.drop ((i + m) * s + cs.length)).toArray) :
  Calls P (ρ.f 22) #[.slice (some ⟨g,0,none⟩) n cap,.int .i64 i,.slice (some ⟨vb,0,none⟩) m vc] w fun e w2=>e = .returned (.slice (some ⟨w.heap.size,0,none⟩) (n + m) (grownCap w (n + m) cap (ρ.t 9))) ∧
   w2 = (((w.drew.alloc (.cells ROW (ρ.t 9))).setRow w.heap.size ROW1).drew).setRow w.heap.size ROW2:=by
 have mixed:=h.mixed
 obtain ⟨_,_,FG⟩:=h.f22
 obtain ⟨fo,o1,o2,o3,o4,o5⟩:=h.ov
 have hpos:=h.pos; have z9:=h.sizeOf; have t24:=h.t24; have t3:=h.t3; have a3:=h.a3; have a24:=h.a24; have u24:=run_underlying h.t24; have u3:=run_underlying h.t3
 have e0:i * s + (n - i) * s = n * s:=by rw [← Nat.add_mul]; congr 1; omega
 have e4:(i + m) * s = i * s + m * s:=Nat.add_mul _ _ _
 have e5:(n + m) * s = n * s + m * s:=Nat.add_mul _ _ _
 have e6:(n + m - i) * s = (n + m) * s - i * s:=Nat.sub_mul _ _ _
 have e8:(n - i) * s = n * s - i * s:=Nat.sub_mul _ _ _
 have e9:i * s ≤ n * s:=Nat.mul_le_mul_right _ (by omega)
 have hz1:¬ ((m:Int) = 0):=by omega
 have hz2:¬ ((i:Int) = (n:Int)):=by omega
 have hz3:(cap:Int) < (n:Int) + (m:Int):=by omega
 have hgw:g < w.heap.size:=by
  have:=hg
  rcases Nat.lt_or_ge g w.heap.size with h | h
  ·
   exact h
  ·
   rw [Array.getElem?_eq_none h] at this; cases this
 have hvw:vb < w.heap.size:=by
  have:=hv
  rcases Nat.lt_or_ge vb w.heap.size with h | h
  ·
   exact h
  ·
   rw [Array.getElem?_eq_none h] at this; cases this
 have hkk:(n:Int) + (m:Int) - (i:Int) = ((n + m - i:Nat):Int):=by omega
 have hik:i + (n + m - i) = n + m:=by omega
 have hbytes:(n + m) * i0.bytes ≤ 140737488355328:=Nat.le_trans (Nat.mul_le_mul hlim hby) (by decide)
 have e0':i * s ≤ cap * s:=Nat.mul_le_mul_right _ (by omega)
 have holl:olds.length = i * s:=by rw [hol,List.length_take,Array.length_toList,hcs]; omega
 have hold:(Builtin.firstCells i0.size i (.slice (some ⟨g,0,none⟩) i cap)).run P w.drew = .ok olds.toArray w.drew:=by
  rw [hzs]
  exact run_firstCells_some w.drew s i ⟨g,0,none⟩ i cap olds holl (fun j v hj=>by
   rw [Addr.add_lit]
   have:cur.toList[j]? = some v:=by rw [hol,List.getElem?_take] at hj; split at hj; exact hj; cases hj
   have h2:w.drew.heap[g]? = some (.cells cur e (0,0)):=hg
   simp only [World.cell?,h2]
   simpa using this)
 have hrz:∀ ty,(Builtin.append_ #[(ρ.t 24),(ρ.t 3)] ty #[.slice (some ⟨g,0,none⟩) i cap,.int .i64 ((n:Int) + (m:Int) - (i:Int))]).run P w =
   .ok (.slice (some ⟨w.heap.size,0,none⟩) (n + m) (grownCap w (n + m) cap (ρ.t 9))) (w.drew.alloc (.cells ROW (ρ.t 9))):=fun ty=>by
  have h:=Lib.run_append_grow_zeros w (ρ.t 24) (ρ.t 3) ty (ρ.t 9) i0 z .i64 .i64 h.t24 h.t3 hi0 hz0 (some ⟨g,0,none⟩) i cap olds hold (n + m - i) (by omega) (by omega) (by omega) (by omega) (by
   have:(n + m - i) * i0.bytes ≤ (n + m) * i0.bytes:=Nat.mul_le_mul_right _ (by omega)
   omega) (by rw [hik]; exact growslice_fits hroom hbytes)
  rw [hik] at h
  rw [hkk,hROW]
  exact h
 obtain ⟨G,hG⟩:∃ G,G = grownCap w (n + m) cap (ρ.t 9):=⟨_,rfl⟩
 have hGn:n + m ≤ G:=by rw [hG]; exact grownCap_ge w _ _ _
 have hG63:G ≤ 9223372036854775807:=by
  have:=grownCap_le_maxLen w (n + m) cap (ρ.t 9) (by unfold maxLen; omega)
  rw [← hG] at this
  unfold maxLen at this
  omega
 rw [← hG] at hrz ⊢
 have zl:∀ k,(Builtin.zeroCells z.cells k).size = k * s:=fun k=>by rw [size_zeroCells,hzc]
 have hRl:ROW.size = G * s:=by
  rw [hROW,← hG]
  simp only [Array.size_append,zl,List.size_toArray,holl,Nat.sub_mul]
  have:=Nat.mul_le_mul_right s hGn
  omega
 have e1:(i + m) * s + (n - i) * s = (n + m) * s:=by omega
 have e2:(n + m) * s ≤ G * s:=Nat.mul_le_mul_right _ hGn
 have e3:n * s ≤ cap * s:=Nat.mul_le_mul_right _ hnc
 have hcl:cs.length = (n - i) * s:=by rw [hcs0,List.length_take,List.length_drop,Array.length_toList,hcs]; omega
 have hvl:vs.length = m * s:=by rw [hvs0,List.length_take,Array.length_toList]; omega
 have hR1l:ROW1.size = G * s:=by rw [hc1]; simp only [List.size_toArray,List.length_append,List.length_take,List.length_drop,Array.length_toList,hvl,hRl]; omega
 obtain ⟨W1,hW1⟩:∃ W1,W1 = w.drew.alloc (.cells ROW (ρ.t 9)):=⟨_,rfl⟩
 rw [← hW1] at hrz ⊢
 have hN:W1.heap[w.heap.size]? = some (.cells ROW (ρ.t 9) (0,0)):=by rw [hW1]; exact heap_new w.drew _
 have hOg:W1.heap[g]? = some (.cells cur e (0,0)):=by rw [hW1,heap_old w.drew _ hgw]; exact hg
 have hOv:W1.heap[vb]? = some (.cells curv ev (0,0)):=by rw [hW1,heap_old w.drew _ hvw]; exact hv
 have hcpA:∀ (W:World),W.heap = W1.heap→∀ ty dc,(Builtin.copy_ #[(ρ.t 24),(ρ.t 24)] ty #[.slice (some ⟨w.heap.size,i * s,none⟩) (n + m - i) dc,.slice (some ⟨vb,0,none⟩) m vc]).run P W = .ok (goInt (Nat.min m (n + m - i))) (W.setRow w.heap.size ROW1):=fun W hW ty dc=>by
  have hmin:Nat.min m (n + m - i) = m:=by simp only [Nat.min_def]; split <;> omega
  rw [hc1]
  exact run_copy_rowN W (ρ.t 24) (ρ.t 24) ty (ρ.t 9) w.heap.size (i * s) _ dc ⟨vb,0,none⟩ _ vc ROW (ρ.t 9) vs s h.t24 h.i9 (by rw [hW]; exact hN) (by rw [hmin]; exact hvl)
   (fun j v hj=>by
    rw [Addr.add_lit]
    have:curv.toList[j]? = some v:=by rw [hvs0,List.getElem?_take] at hj; split at hj; exact hj; cases hj
    have h2:W.heap[vb]? = some (.cells curv ev (0,0)):=by rw [hW]; exact hOv
    simp only [World.cell?,h2]
    simpa using this) (by omega) h1v
 have hcpB:∀ (W:World),W.heap = (W1.setRow w.heap.size ROW1).heap→∀ ty dc sc,(Builtin.copy_ #[(ρ.t 24),(ρ.t 24)] ty #[.slice (some ⟨w.heap.size,(i + m) * s,none⟩) (n + m - (i + m)) dc,.slice (some ⟨g,i * s,none⟩) (n - i) sc]).run P W = .ok (goInt (Nat.min (n - i) (n + m - (i + m)))) (W.setRow w.heap.size ROW2):=fun W hW ty dc sc=>by
  have hmin:Nat.min (n - i) (n + m - (i + m)) = n - i:=by simp only [Nat.min_def]; split <;> omega
  rw [hc2]
  exact run_copy_rowN W (ρ.t 24) (ρ.t 24) ty (ρ.t 9) w.heap.size ((i + m) * s) _ dc ⟨g,i * s,none⟩ _ sc ROW1 (ρ.t 9) cs s h.t24 h.i9 (by rw [hW]; exact setRow_heap W1 _ ROW ROW1 (ρ.t 9) _ hN) (by rw [hmin]; exact hcl)
   (fun j v hj=>by
    rw [Addr.add_lit]
    have:(cur.toList.drop (i * s))[j]? = some v:=by rw [hcs0,List.getElem?_take] at hj; split at hj; exact hj; cases hj
    rw [List.getElem?_drop] at this
    have h2:W.heap[g]? = some (.cells cur e (0,0)):=by rw [hW,setRow_other W1 _ g ROW1 (by omega)]; exact hOg
    simp only [World.cell?,h2]
    simpa using this) (by omega) h1
 have hGi:¬ (G = i):=by omega
 have hGim:¬ (G = i + m):=by omega
 have hci:¬ (cap = i):=by omega
 have hw1:IntKind.i64.wrap ((i:Int) + (m:Int)) = (i:Int) + (m:Int):=by rw [IntKind.wrap_i64]; omega
 have hw2:IntKind.i64.wrap ((n:Int) + (m:Int)) = (n:Int) + (m:Int):=by rw [IntKind.wrap_i64]; omega
 have hb1:(0:Int) ≤ (i:Int) + (m:Int):=by omega
 have hin:i ≤ n:=by omega
 have htn:((i:Int) + (m:Int)).toNat = i + m:=by omega
 have hb3:(i:Int) ≤ (n:Int):=by omega
 clear hc1 hc2 hROW hcs0 hvs0 hol hcl hvl hRl hR1l e0' e0 e4 e5 e6 e8 e9 e1 e2 e3 hold holl hkk hik hG hN hOg hOv hW1
 go_enter FG,Body2.n22_ntmps ρ
 go_wp2_with (first
  | (at_builtin; refine Lib.wpList_append_run _ rfl _ _ _ _ rfl _ _ rfl rfl _ _ (hrz _) ?_)
  | (at_builtin; refine wpList_copy_runI _ rfl _ _ (ρ.t 24) (ρ.t 24) rfl _ _ rfl rfl (hcpA _ rfl _ _) ?_)
  | (at_builtin; refine wpList_copy_runI _ rfl _ _ (ρ.t 24) (ρ.t 24) rfl _ _ rfl rfl (hcpB _ rfl _ _ _) ?_))
 go_region_law_o (refine step_copy_runI rfl _ _ (ρ.t 24) (ρ.t 24) rfl (.slice (some ⟨w.heap.size,(i + m) * s,none⟩) (n + m - (i + m)) (G - (i + m))) (.slice (some ⟨g,i * s,none⟩) (n - i) (cap - i)) (by simp [Act.eval,Act.put]) (by simp [Act.eval,Act.put]) (hcpB (W1.setRow w.heap.size ROW1).drew rfl (ρ.t 3) (G - (i + m)) (cap - i)) ?_)
 go_wp2
 go_ret
 exact ⟨rfl,rfl⟩
end
end Sym

/- slices.Delete at rows of any elements, as the machine runs it. -/
namespace Sym
open Go Go.Proofs Go.RowKit Go.Lib Go.Shelf Go.Sort
structure DelP (P:Program) (ρ:Go.Shelf.Ren) (s:Nat) (z:Value):Prop where
 pos:0 < s
 mixed:P.follows .mixedOrders = true
 f45:Bears P (ρ.f 45) (SlBodyN.n45 ρ)
 t3:P.underlying (ρ.t 3) = some (.int .i64)
 a3:∀ w,(isAgg (ρ.t 3)).run P w = .ok false w
 t22:P.underlying (ρ.t 22) = some (.slice (ρ.t 23))
 a22:∀ w,(isAgg (ρ.t 22)).run P w = .ok false w
 i23:∃ i0,P.info? (ρ.t 23) = some i0∧i0.size = s
 v23:∀ w,(zeroValue (ρ.t 23)).run P w = .ok z w
 zs:z.cells.size = s
 z1:∀ v ∈ z.cells.toList,v.oneCell' = true
section
variable {P:Program} {ρ:Go.Shelf.Ren} {s:Nat} {z:Value}
theorem DelP.sizeOf (h:DelP P ρ s z) (w:World):(Go.sizeOf (ρ.t 23)).run P w = .ok s w:=by
 obtain ⟨i,hq,hi⟩:=h.i23
 simp [Go.sizeOf,typeInfo,hq,hi]
theorem setCells_row (w:World) (g o:Nat) (t:TypeId) (cur:Array Value) (vs:List Value) (hg:w.heap[g]? = some (.cells cur t (0,0))) (hl:o + vs.length ≤ cur.size) (h1:∀ v ∈ vs,v.oneCell' = true) :
  w.setCells g o vs = w.setRow g (cur.toList.take o ++ vs ++ cur.toList.drop (o + vs.length)).toArray:=by
 have a:=run_storeCells_at (P:=default) g o t vs 0 cur w hg (by omega) h1
 have b:=run_storeCells_cells (P:=default) g o vs 0 w (fun j hj=>by simp only [World.cell?,hg]; simp; omega) (fun j hj=>by simp [World.frozen?,hg]) h1
 simp only [Nat.add_zero] at a b
 rw [a] at b
 exact (Result.ok.inj b).2.symm
theorem zeroCells_one (c:Array Value) (h:∀ v ∈ c.toList,v.oneCell' = true) (k:Nat):∀ v ∈ (Builtin.zeroCells c k).toList,v.oneCell' = true:=by
 intro v hv
 rw [show Builtin.zeroCells c k = Builtin.zeroCells c.toList.toArray k from rfl,zero_flat] at hv
 obtain ⟨l,hl,hv⟩:=List.mem_flatten.1 hv
 have:∀ n,∀ l ∈ repL n c.toList,l = c.toList:=by
  intro n
  induction n with
  | zero=>intro l h; cases h
  | succ n ih=>intro l h; exact (List.mem_cons.1 h).elim (fun h=>h) (ih l)
 rw [this k l hl] at hv
 exact h v hv
set_option maxHeartbeats 4000000 in
set_option maxRecDepth 1000000 in
theorem delete_cut (h:DelP P ρ s z) (n i j cap g:Nat) (cur W1c W2c:Array Value) (news:List Value) (e:TypeId) (w:World) (hij:i < j) (hj:j ≤ n) (hnc:n ≤ cap) (hcap:cap ≤ maxLen)
  (hg:w.heap[g]? = some (.cells cur e (0,0))) (hcs:cur.size = cap * s) (h1:∀ v ∈ news,v.oneCell' = true)
  (hn:news = (cur.toList.drop (j * s)).take ((n - j) * s))
  (hw1:W1c = (cur.toList.take (i * s) ++ news ++ cur.toList.drop (i * s + news.length)).toArray)
  (hw2:W2c = (W1c.toList.take ((i + (n - j)) * s) ++ (Builtin.zeroCells z.cells (n - (i + (n - j)))).toList ++ W1c.toList.drop ((i + (n - j)) * s + (Builtin.zeroCells z.cells (n - (i + (n - j)))).toList.length)).toArray) :
  Calls P (ρ.f 45) #[.slice (some ⟨g,0,none⟩) n cap,.int .i64 i,.int .i64 j] w fun en w2=>en = .returned (.slice (some ⟨g,0,none⟩) (n - (j - i)) cap)∧w2 = (w.drew.setRow g W1c).setRow g W2c:=by
 have mixed:=h.mixed; have t3:=h.t3; have a3:=h.a3; have t22:=h.t22; have a22:=h.a22; have z23:=h.sizeOf; have u22:=run_underlying h.t22; have u3:=run_underlying h.t3
 obtain ⟨i0,hi0,hz1⟩:=h.i23
 have e1:(n - j) * s = n * s - j * s:=Nat.sub_mul _ _ _
 have e2:(i + (n - j)) * s = i * s + (n - j) * s:=Nat.add_mul _ _ _
 have e3:j * s ≤ n * s:=Nat.mul_le_mul_right _ hj
 have e4:n * s ≤ cap * s:=Nat.mul_le_mul_right _ hnc
 have e5:i * s ≤ j * s:=Nat.mul_le_mul_right _ (by omega)
 have hlen:news.length = (n - j) * s:=by rw [hn,List.length_take,List.length_drop,Array.length_toList,hcs]; omega
 have hget:∀ t u,news[t]? = some u→w.drew.cell? ⟨g,j * s + t,none⟩ = some u:=fun t u hu=>by
  have:(cur.toList.drop (j * s))[t]? = some u:=by rw [hn,List.getElem?_take] at hu; split at hu; exact hu; cases hu
  rw [List.getElem?_drop] at this
  have h2:w.drew.heap[g]? = some (.cells cur e (0,0)):=hg
  simp only [World.cell?,h2]
  simpa using this
 obtain ⟨A,hA,hsrc⟩:∃ A:Addr,(if cap = j then some (⟨g,0,none⟩:Addr) else some ⟨g,j * s,none⟩) = some A∧Hid (∀ t u,news[t]? = some u→w.drew.cell? (A.add t) = some u):=by
  by_cases hc:cap = j
  ·
   refine ⟨⟨g,0,none⟩,by simp [hc],fun t u hu=>?_⟩
   have h0 : news.length = 0 := by rw [hlen, e1]; have : n = j := by omega
                                   subst this; omega
   rw [List.length_eq_zero_iff.1 h0] at hu
   simp at hu
  ·
   refine ⟨⟨g,j * s,none⟩,by simp [hc],fun t u hu=>?_⟩
   rw [Addr.add_lit]
   exact hget t u hu
 have s1:Hid (news.length = (n - j) * s):=hlen
 have s2:Hid (∀ u ∈ news,u.oneCell' = true):=h1
 have s3:Hid (∀ t,t < news.length→(w.drew.cell? ⟨g,0 + i * s + t,none⟩).isSome = true∧w.drew.frozen? ⟨g,0 + i * s + t,none⟩ = false):=by
  intro t ht
  have h2:w.drew.heap[g]? = some (.cells cur e (0,0)):=hg
  rw [hlen] at ht
  exact ⟨by simp only [World.cell?,h2]; simp; omega,by simp [World.frozen?,h2]⟩
 obtain ⟨W1,hW1⟩:∃ W1,W1 = w.drew.setCells g (0 + i * s) news:=⟨_,rfl⟩
 have hW1':W1 = w.drew.setRow g W1c:=by
  rw [hW1,hw1,Nat.zero_add]
  exact setCells_row w.drew g (i * s) e cur news hg (by omega) h1
 have hg1:W1.heap[g]? = some (.cells W1c e (0,0)):=by rw [hW1']; exact setRow_heap w.drew g cur W1c e _ hg
 have hs1:W1c.size = cap * s:=by rw [hw1]; simp only [List.size_toArray,List.length_append,List.length_take,List.length_drop,Array.length_toList,hlen,hcs]; omega
 have e6:(n - (i + (n - j))) * s = n * s - (i + (n - j)) * s:=Nat.sub_mul _ _ _
 have hzl:(Builtin.zeroCells z.cells (n - (i + (n - j)))).toList.length = (n - (i + (n - j))) * s:=by rw [Array.length_toList,size_zeroCells,h.zs]
 have hcl:∀ ty,(Builtin.clear_ #[ρ.t 22] ty #[.slice (some ⟨g,(i + (n - j)) * s,none⟩) (n - (i + (n - j))) (cap - (i + (n - j)))]).run P W1 = .ok (.tuple #[]) (W1.setRow g W2c):=fun ty=>by
  have hst:=run_storeCells_at (P:=P) g ((i + (n - j)) * s) e (Builtin.zeroCells z.cells (n - (i + (n - j)))).toList 0 W1c W1 hg1 (by rw [hzl,hs1]; omega) (zeroCells_one z.cells h.z1 _)
  simp only [Nat.add_zero] at hst
  rw [← hw2] at hst
  obtain ⟨m,hm⟩:∃ m,n - (i + (n - j)) = m + 1:=⟨n - (i + (n - j)) - 1,by omega⟩
  rw [hm] at hst ⊢
  simp [Builtin.clear_,run_underlying t22,h.v23,hst]
 have hW:Hid (W1 = w.drew.setCells g (0 + i * s) news):=hW1
 have X:Aside (W1 = w.drew.setRow g W1c):=hW1'
 have hic:i ≤ cap:=by omega
 have hjc:j ≤ cap:=by omega
 have hne:¬ ((i:Int) = (j:Int)):=by omega
 clear hW1 hW1' hg1 hs1 e1 e2 e3 e4 e5 e6 hlen hget hzl hw1 hw2 hn h1
 obtain ⟨_,_,FG⟩:=h.f45
 go_enter FG,SlBodyN.n45_ntmps ρ
 go_wp2_with fail
 go_region_law_o (refine step_append_room rfl (.tmp 22) (.tmp 25) (ρ.t 22) rfl (ρ.t 23) i0 s t22 hi0 hz1 g 0 i cap (by simp [Act.eval,Act.put]) A (n - j) (cap - j) news (by simp [Act.eval,Act.put]) s1.out hsrc.out s2.out (by omega) s3.out ?_; rw [← hW.out])
 go_wp2
 go_ret
 refine ⟨by rw [show n - (j - i) = i + (n - j) by omega]; rfl,?_⟩
 rw [← X.out]
end
end Sym

/- slices.Insert at rows of any elements: what it does to rows. -/
namespace Sym
open Go Go.Proofs
section
variable {P:Program} {ρ:Go.Shelf.Ren}
theorem EncL_cut {X:Type} {E:X→List Value→Prop} {s:Nat} (hl:∀ x cs,E x cs→cs.length = s):∀ (l:List X) (xs:List Value) (i:Nat),EncL E l xs→EncL E (l.take i) (xs.take (i * s))∧EncL E (l.drop i) (xs.drop (i * s))
 | l,xs,0,h=>by simp only [Nat.zero_mul,List.take_zero,List.drop_zero]; exact ⟨rfl,h⟩
 | [],xs,i + 1,h=>by
  have h:xs = []:=h
  subst h
  simp only [List.take_nil,List.drop_nil]
  exact ⟨rfl,rfl⟩
 | x :: l,xs,i + 1,h=>by
  obtain ⟨c1,c2,rfl,h1,h2⟩:=h
  have hc:=hl x c1 h1
  have ⟨g1,g2⟩:=EncL_cut hl l c2 i h2
  have e:(i + 1) * s = c1.length + i * s:=by rw [hc,Nat.succ_mul]; omega
  refine ⟨⟨c1,c2.take (i * s),?_,h1,g1⟩,?_⟩
  ·
   rw [e,List.take_append,List.take_of_length_le (by omega),Nat.add_sub_cancel_left]
  ·
   rw [e]
   simpa using g2
theorem ins_list {α:Type} {L X V C:List α} {a b c:Nat} (h1:L.take a = X) (ha:X.length = a) (hv:V.length = b) (hc:C.length = c) (hl:a + b + c ≤ L.length) :
  (((L.take (a + b) ++ C ++ L.drop (a + b + C.length)).take a ++ V ++ (L.take (a + b) ++ C ++ L.drop (a + b + C.length)).drop (a + V.length))).length = L.length ∧
  (((L.take (a + b) ++ C ++ L.drop (a + b + C.length)).take a ++ V ++ (L.take (a + b) ++ C ++ L.drop (a + b + C.length)).drop (a + V.length))).take (a + b + c) = X ++ V ++ C:=by
 have e1:(L.take (a + b) ++ C ++ L.drop (a + b + C.length)).take a = X:=by
  rw [List.append_assoc,List.take_append,List.length_take,Nat.sub_eq_zero_of_le (by omega),List.take_zero,List.append_nil,List.take_take,Nat.min_eq_left (by omega)]
  exact h1
 have e2:(L.take (a + b) ++ C ++ L.drop (a + b + C.length)).drop (a + V.length) = C ++ L.drop (a + b + C.length):=by
  rw [List.append_assoc,hv,List.drop_append,List.drop_of_length_le (by rw [List.length_take]; omega),List.length_take,Nat.sub_eq_zero_of_le (by omega)]
  rfl
 rw [e1,e2]
 refine ⟨by simp only [List.length_append,List.length_drop]; omega,?_⟩
 rw [← List.append_assoc,List.take_append,List.take_of_length_le (by simp only [List.length_append]; omega),Nat.sub_eq_zero_of_le (by simp only [List.length_append]; omega),List.take_zero,List.append_nil]
theorem ins_list2 {α:Type} {L X V C:List α} {a b c:Nat} (h1:L.take a = X) (ha:X.length = a) (hv:V.length = b) (hc:C.length = c) (hl:a + b + c ≤ L.length) :
  (((L.take a ++ V ++ L.drop (a + V.length)).take (a + b) ++ C ++ (L.take a ++ V ++ L.drop (a + V.length)).drop (a + b + C.length))).length = L.length ∧
  (((L.take a ++ V ++ L.drop (a + V.length)).take (a + b) ++ C ++ (L.take a ++ V ++ L.drop (a + V.length)).drop (a + b + C.length))).take (a + b + c) = X ++ V ++ C:=by
 have e1:(L.take a ++ V ++ L.drop (a + V.length)).take (a + b) = X ++ V:=by
  rw [h1,List.take_append,List.take_of_length_le (by simp only [List.length_append]; omega),Nat.sub_eq_zero_of_le (by simp only [List.length_append]; omega),List.take_zero,List.append_nil]
 have e2:(L.take a ++ V ++ L.drop (a + V.length)).length = L.length:=by rw [h1]; simp only [List.length_append,List.length_drop]; omega
 rw [e1]
 refine ⟨by simp only [List.length_append,List.length_drop] at e2 ⊢; omega,?_⟩
 rw [List.take_append,List.take_of_length_le (by simp only [List.length_append]; omega),Nat.sub_eq_zero_of_le (by simp only [List.length_append]; omega),List.take_zero,List.append_nil]
set_option maxRecDepth 100000 in
theorem insert_any {t:Ty} (h:InsP P ρ t.sz) (ht:TI P (ρ.t 9) t) (ht2:TI P (ρ.t 24) (.sl t)) (hno:t.isOpq = false) (hsz:1 ≤ t.sz) (n m i:Nat) (hd hv:Value) (xs vs:List Value) (e ev:TypeId) (w:World) (hm:0 < m) (hi:i ≤ n) (hlim:n + m ≤ 1073741824)
  (ho:w.ownsRow 0 e t.sz hd n xs) (hov:w.ownsRow 0 ev t.sz hv m vs) (hne:∀ r,blkOf hd = some r→blkOf hv ≠ some r)
  (h1:∀ v ∈ xs,v.oneCell' = true) (h1v:∀ v ∈ vs,v.oneCell' = true) :
  Calls P (ρ.f 22) #[hd,.int .i64 i,hv] w fun en w2=>∃ hd' e'',en = .returned hd'∧w2.ownsRow 0 e'' t.sz hd' (n + m) (xs.take (i * t.sz) ++ vs ++ xs.drop (i * t.sz))∧w.grownBy w2 (blkOf hd)∧(∀ r,blkOf hd' = some r→w.heap.size ≤ r ∨ blkOf hd = some r):=by
 obtain ⟨i0,hi0,hby,hz0⟩:=ht.info
 have hz0:=hz0.resolve_right (by intro h; subst h; cases hno)
 have hzs:i0.size = t.sz:=by have:=ht.ok.size; simp [Program.cellsOf,hi0] at this; exact this
 have hcz:(mkZ t).cells = (zCells t).toArray:=cells_mkV (zCells_len t) (zCells_one t)
 have hzc:(mkZ t).cells.size = t.sz:=by rw [hcz,List.size_toArray,zCells_len]
 have e1:i * t.sz ≤ n * t.sz:=Nat.mul_le_mul_right _ hi
 have e5:(n + m) * t.sz = n * t.sz + m * t.sz:=Nat.add_mul _ _ _
 rcases own_cells hov with ⟨_,h0,_⟩ | ⟨vb,vc,curv,f1,f2,f3,f4,f5,f6,f7⟩
 ·
  omega
 have hvsl:m * t.sz ≤ curv.size:=by rw [f5]; exact Nat.mul_le_mul_right _ f3
 rcases Nat.lt_or_ge i n with hin | hin
 ·
  rcases own_cells ho with ⟨_,h0,_⟩ | ⟨g,cap,cur,g1,g2,g3,g4,g5,g6,g7⟩
  ·
   omega
  have hvb:vb ≠ g:=fun e=>hne g (by rw [g1]; rfl) (by rw [f1,e]; rfl)
  subst g1 f1
  have hol:cur.toList.take (i * t.sz) = xs.take (i * t.sz):=by rw [← g6,List.take_take,Nat.min_eq_left e1]
  have hcs:(cur.toList.drop (i * t.sz)).take ((n - i) * t.sz) = xs.drop (i * t.sz):=by
   rw [← g6,List.drop_take,Nat.sub_mul]
  have hxl:xs.length = n * t.sz:=ho.1
  have hdl:(xs.drop (i * t.sz)).length = (n - i) * t.sz:=by rw [List.length_drop,hxl,Nat.sub_mul]
  have hvl:vs.length = m * t.sz:=hov.1
  have htl:(xs.take (i * t.sz)).length = i * t.sz:=by rw [List.length_take,hxl]; exact Nat.min_eq_left e1
  have e3:i * t.sz + m * t.sz = (i + m) * t.sz:=by rw [Nat.add_mul]
  have e6:i * t.sz + (n - i) * t.sz = n * t.sz:=by rw [← Nat.add_mul]; congr 1; omega
  have e4:(i + m) * t.sz + (n - i) * t.sz = (n + m) * t.sz:=by omega
  have hall:(xs.take (i * t.sz) ++ vs ++ xs.drop (i * t.sz)).length = (n + m) * t.sz:=by simp only [List.length_append,htl,hvl,hdl]; omega
  rcases Nat.lt_or_ge cap (n + m) with hroom | hroom
  ·
   have hw:=insert_grow h n m i cap vc g vb cur curv _ _ _ (xs.drop (i * t.sz)) vs (xs.take (i * t.sz)) e ev w i0 _ hi0 hz0 hzs hzc hby hm hin g3 hroom hlim hvb g2 f2 g5 hvsl (fun v hv=>h1 v (List.mem_of_mem_drop hv)) h1v hol.symm hcs.symm f6.symm rfl rfl rfl
   obtain ⟨G,hG⟩:∃ G,G = grownCap w (n + m) cap (ρ.t 9):=⟨_,rfl⟩
   have hGn:n + m ≤ G:=by rw [hG]; exact grownCap_ge w _ _ _
   have hGm:G ≤ maxLen:=by rw [hG]; exact grownCap_le_maxLen w (n + m) cap (ρ.t 9) (by unfold maxLen; omega)
   obtain ⟨ROW,hR⟩:∃ ROW:Array Value,ROW = (xs.take (i * t.sz)).toArray ++ Builtin.zeroCells (mkZ t).cells (n + m - i) ++ Builtin.zeroCells (mkZ t).cells (G - (n + m)):=⟨_,rfl⟩
   rw [← hG] at hw
   rw [← hR] at hw
   have zl:∀ k,(Builtin.zeroCells (mkZ t).cells k).size = k * t.sz:=fun k=>by rw [size_zeroCells,hzc]
   have e7:(n + m - i) * t.sz = (n + m) * t.sz - i * t.sz:=Nat.sub_mul _ _ _
   have e8:(n + m) * t.sz ≤ G * t.sz:=Nat.mul_le_mul_right _ hGn
   have hRl:ROW.size = G * t.sz:=by
    rw [hR]
    simp only [Array.size_append,zl,List.size_toArray,htl,Nat.sub_mul]
    omega
   have hRt:ROW.toList.take (i * t.sz) = xs.take (i * t.sz):=by
    rw [hR]
    simp only [Array.toList_append,List.append_assoc]
    rw [List.take_append,htl,Nat.sub_self,List.take_zero,List.append_nil,List.take_of_length_le (by rw [htl]; exact Nat.le_refl _)]
   have ⟨q1,q2⟩:=ins_list2 (L:=ROW.toList) hRt htl hvl hdl (by rw [Array.length_toList,hRl]; omega)
   refine Calls.mono hw ?_
   rintro en w2 ⟨rfl,rfl⟩
   have hN:((w.drew.alloc (.cells ROW (ρ.t 9))).setRow w.heap.size (ROW.toList.take (i * t.sz) ++ vs ++ ROW.toList.drop (i * t.sz + vs.length)).toArray).heap[w.heap.size]? = some (.cells (ROW.toList.take (i * t.sz) ++ vs ++ ROW.toList.drop (i * t.sz + vs.length)).toArray (ρ.t 9) (0,0)):=setRow_heap _ _ ROW _ (ρ.t 9) _ (heap_new w.drew _)
   refine ⟨_,(ρ.t 9),rfl,⟨hall,.inr ⟨w.heap.size,G,_,rfl,Nat.zero_le _,setRow_heap _ _ _ _ (ρ.t 9) _ hN,hGn,hGm,?_,?_⟩⟩,⟨rfl,rfl,rfl,by simp,fun k hk _=>?_⟩,fun r hr=>by simp only [blkOf,Option.some.injEq] at hr; left; omega⟩
   ·
    rw [List.size_toArray,← hRl,← Array.length_toList,← e3]
    exact q1
   ·
    rw [← e4,← e3]
    exact q2
   ·
    rw [setRow_other _ _ k _ (by omega)]
    show ((w.drew.alloc _).setRow w.heap.size _).heap[k]? = _
    rw [setRow_other _ _ k _ (by omega)]
    exact heap_old w.drew _ hk
  ·
   have e8:(n + m) * t.sz ≤ cap * t.sz:=Nat.mul_le_mul_right _ hroom
   have hw:=insert_room h n m i cap vc g vb cur curv _ _ (xs.drop (i * t.sz)) vs e ev w hm hin hroom g4 hvb g2 f2 g5 hvsl (fun v hv=>h1 v (List.mem_of_mem_drop hv)) h1v hcs.symm f6.symm rfl rfl
   have ⟨q1,q2⟩:=ins_list (L:=cur.toList) hol htl hvl hdl (by rw [Array.length_toList,g5]; omega)
   refine Calls.mono hw ?_
   rintro en w2 ⟨rfl,rfl⟩
   refine ⟨_,e,rfl,⟨hall,.inr ⟨g,cap,_,rfl,Nat.zero_le _,setRow_heap _ _ _ _ e _ (setRow_heap w.drew g cur _ e _ g2),hroom,g4,?_,?_⟩⟩,⟨rfl,rfl,rfl,by simp,fun k _ hk=>?_⟩,fun r hr=>.inr hr⟩
   ·
    rw [List.size_toArray,← g5,← Array.length_toList,← e3]
    exact q1
   ·
    rw [← e4,← e3]
    exact q2
   ·
    have hkg:k ≠ g:=fun e=>hk (by rw [e]; rfl)
    rw [setRow_other _ g k _ hkg,setRow_other _ g k _ hkg]
    rfl
 ·
  have:i = n:=by omega
  subst this
  subst f1
  obtain ⟨e63,hu,he,j0,hj0,hjb,hjz⟩:=ht2.elem t rfl
  have hjz:=hjz.resolve_right (by intro h; subst h; cases hno)
  obtain ⟨hd',w',e'',hrun,hown,hgb,hnew⟩:=run_append_any (P:=P) w (ρ.t 24) hu he hj0 hjb hjz hsz hd i xs (e':=e) ho (.slice (some ⟨vb,0,none⟩) m vc) m rfl vs hov.1
   (fun w' hw'=>by
    have hh:w'.heap = w.heap:=by rcases hw' with rfl | rfl <;> rfl
    exact run_firstCells_some (P:=P) w' t.sz m ⟨vb,0,none⟩ m vc vs hov.1 fun j v hj=>by
     rw [add_lit]
     have h2:w'.heap[vb]? = some (.cells curv ev (0,0)):=by rw [hh]; exact f2
     have:=f7 j v hj
     simp only [World.cell?,h2]
     simpa using this) h1v hlim
  have hxl:xs.length = i * t.sz:=ho.1
  have hdl:hd = .slice none 0 0∧i = 0 ∨ ∃ g cap,hd = .slice (some ⟨g,0,none⟩) i cap∧i ≤ cap∧cap ≤ maxLen:=by
   rcases own_cells ho with ⟨a1,a2,_⟩ | ⟨g,cap,cur,g1,g2,g3,g4,_⟩
   ·
    exact .inl ⟨a1,a2⟩
   ·
    exact .inr ⟨g,cap,g1,g3,g4⟩
  refine Calls.mono (insert_end h i m hd _ w w' hd' hm (by omega) hdl ⟨_,_,rfl⟩ hrun) ?_
  rintro en w2 ⟨rfl,rfl⟩
  refine ⟨hd',e'',rfl,?_,hgb,hnew⟩
  rw [← hxl,List.take_length,List.drop_length,List.append_nil]
  exact hown
end
end Sym

/- slices.Insert at rows of any elements: its contract. -/
namespace Sym
open Go Go.Proofs
theorem Ty.beq_self:∀ t:Ty,Ty.beq t t = true:=by
 intro t
 induction t with
 | int k=>cases k <;> rfl
 | cons a b ha hb=>simp [Ty.beq,ha,hb]
 | arr n t h=>simp [Ty.beq,h]
 | sl t h=>exact h
 | _=>rfl
theorem cast_self (t:Ty) (x:t.D):Ty.cast t t x = some x:=by
 unfold Ty.cast
 split
 ·
  rfl
 ·
  rename_i h; rw [Ty.beq_self] at h; cases h
def rnm (l:List (Nat × Nat)) (n:Nat):Nat:=(lookN l n).getD 0
noncomputable def insF (t:Ty) (x:(⟨[.whole 0,.pl (.int .i64),.whole 1],[.row t,.row t]⟩:Tm).D):Option (⟨[.whole 0],[.row t]⟩:Tm).D :=
 let i:I .i64:=x.1.1
 let l:List t.D:=x.2.1
 let ys:List t.D:=x.2.2.1
 brn (inB' i (a1I l)) (brn (Nat.ble 1 (a1I ys)) (brn (a1Z (a1I l + a1I ys)) (some ((),(subL l 0 (I.nat i) ++ ys ++ subL l (I.nat i) (a1I l - I.nat i),()))) none) none) none
noncomputable def insC (t:Ty):Con:=⟨⟨[.whole 0,.pl (.int .i64),.whole 1],[.row t,.row t]⟩,⟨[.whole 0],[.row t]⟩,insF t⟩
section
variable {P:Program} {ρ:Go.Shelf.Ren}
theorem ins_ok {t:Ty} (h:InsP P ρ t.sz) (ht:TI P (ρ.t 9) t) (ht2:TI P (ρ.t 24) (.sl t)) (hno:t.isOpq = false) (hsz:1 ≤ t.sz) (hodd:noOdd P):a0X P (ρ.f 22) (insC t):=by
 intro x y hxy c vals hS hH hargs
 obtain ⟨i,l,ys,rfl⟩:∃ (i:I .i64) (l ys:List t.D),x = ((i,()),(l,(ys,()))):=⟨x.1.1,x.2.1,x.2.2.1,rfl⟩
 have hF:insF t ((i,()),(l,(ys,()))) = some y:=hxy
 unfold insF at hF
 simp only [a1I] at hF
 have c1:inB' i l.length = true:=by cases h:inB' i l.length with | true=>rfl | false=>rw [h] at hF; cases hF
 rw [c1] at hF
 have c2:Nat.ble 1 ys.length = true:=by cases h:Nat.ble 1 ys.length with | true=>rfl | false=>rw [h] at hF; cases hF
 rw [c2] at hF
 have c3:a1Z (l.length + ys.length) = true:=by cases h:a1Z (l.length + ys.length) with | true=>rfl | false=>rw [h] at hF; cases hF
 rw [c3] at hF
 have hy:((),(subL l 0 (I.nat i) ++ ys ++ subL l (I.nat i) (l.length - I.nat i),())) = y:=Option.some.inj hF
 clear hF hxy
 subst hy
 have hH:c.H = [.row t l,.row t ys]:=hH
 simp only [inB',Bool.and_eq_true,decide_eq_true_eq] at c1
 have hm:=Nat.le_of_ble_eq_true c2
 simp only [a1Z,decide_eq_true_eq] at c3
 obtain ⟨k,hk⟩:∃ k,k = I.nat i:=⟨_,rfl⟩
 have hki:i.val = (k:Int):=by rw [hk]; unfold I.nat; omega
 have hkl:k ≤ l.length:=by omega
 have b0:a0K c.H 0 = .row t l:=by rw [hH]; rfl
 have b1:a0K c.H 1 = .row t ys:=by rw [hH]; rfl
 match vals,hargs with
 | [v0,v1,v2],hargs =>
  obtain ⟨h0,h1,h2,_⟩:=hargs
  have whole:∀ b (u:Ty) (l:List u.D) v,a0K c.H b = .row u l→VOk c (.whole b) v→v = c.ρ b:=by
   intro b u l v hb hv
   obtain ⟨cs,⟨u2,rfl,_,hw⟩,hxv⟩:=hv
   unfold WholeOk at hw
   simp only [hb] at hw
   rw [← hw]
   exact hxv
  have e0:=whole 0 t l v0 b0 h0
  have e2:=whole 1 t ys v2 b1 h2
  have e1:=v_int h1
  subst e0 e1 e2
  have hM:=hS.mem
  have B0:=hS.blk 0
  have B1:=hS.blk 1
  unfold BlkOk at B0 B1
  simp only [b0] at B0
  simp only [b1] at B1
  obtain ⟨hl0,ee0,xs,ho0,hx0⟩:=B0
  obtain ⟨hl1,ee1,vs,ho1,hx1⟩:=B1
  have hne:∀ r,blkOf (c.ρ 0) = some r→blkOf (c.ρ 1) ≠ some r:=fun r q1 q2=>by
   have:=hS.inj 0 1 r (by rw [b0]; rfl) (by rw [b1]; rfl) q1 q2
   cases this
  have hc:=insert_any h ht ht2 hno hsz l.length ys.length k (c.ρ 0) (c.ρ 1) xs vs ee0 ee1 c.w hm hkl c3 ho0 ho1 hne (EncL_one l xs hx0) (EncL_one ys vs hx1)
  obtain ⟨nm,hnm,hfn⟩:=h.f22
  obtain ⟨body,hbd⟩:∃ b,(Go.Proofs.Body2.n22 ρ).body = some b:=⟨_,rfl⟩
  right
  rw [hki]
  refine ⟨run_callFunc hfn hbd (hodd (ρ.f 22) _ hfn),Calls.mono hc ?_⟩
  rintro en w2 ⟨hd',e'',rfl,ho2,hg,hnew⟩
  refine ⟨hd',rfl,?_⟩
  have ⟨t1,t2⟩:=EncL_cut (fun x cs=>Enc_len t x cs) l xs k hx0
  have hlen:(l.take k ++ ys ++ l.drop k).length = l.length + ys.length:=by
   simp only [List.length_append,List.length_take,List.length_drop]; omega
  obtain ⟨c',k1,k2,k3,k4,k5⟩:=mem_row hM (nb:=2) (by rw [hH]; rfl) (t:=t) (l:=l.take k ++ ys ++ l.drop k) (blkOf (c.ρ 0)) hg (by rw [hlen]; exact ho2) (EncL_app _ _ _ _ (EncL_app _ _ _ _ t1 hx1) t2) (by rw [hlen]; simp only [LIM]; omega) (some 0)
   (fun i h=>by cases h; exact ⟨by rw [b0]; rfl,by decide⟩) (fun r h _=>⟨0,rfl,h⟩) (fun r h=>(hnew r h).imp _root_.id fun h=>⟨0,rfl,h⟩)
  have hsub:subL l 0 (I.nat i) ++ ys ++ subL l (I.nat i) (l.length - I.nat i) = l.take k ++ ys ++ l.drop k:=by
   rw [← hk]
   simp only [subL,List.drop_zero]
   rw [List.take_of_length_le (l:=l.drop k) (by rw [List.length_drop]; exact Nat.le_refl _)]
  have hH':c'.H = [.dead,.row t ys,.row t (l.take k ++ ys ++ l.drop k)]:=by rw [k2,hH]; rfl
  obtain ⟨m,hz⟩:∃ m,(insC t).Out.ext [.whole 2] c'.H = some (((),(l.take k ++ ys ++ l.drop k,())),m):=by
   rw [hH']
   refine ⟨⟨[(0,2)],[]⟩,?_⟩
   have hc:Ty.cast (.sl t) (.sl t) (l.take k ++ ys ++ l.drop k) = some (l.take k ++ ys ++ l.drop k):=cast_self _ _
   simp only [Tm.ext,Tm.extF,insC,extSlots,Sh.ext',Sh.ext,Sub.bind,Sub.get,Sub.inv,extHeap,a0K,BSh.ext,hc,ShD.cons]
   rfl
  obtain ⟨c2,w2',hh2,hM2,hargs2⟩:=part_mem k4 hz
  obtain ⟨us',q1,q2,q3⟩:=hargs2 [hd'] ⟨k5,trivial⟩
  have hus:us' = [hd']:=by
   match us',q2 with
   | [u],_ =>
    have h3:u = hd':=by simpa using congrArg List.head? q1.symm
    rw [h3]
  subst hus
  refine ⟨c2,w2'.trans k1,?_,?_,hM2,fun i hi=>?_⟩
  ·
   rw [hh2,← hsub]
  ·
   exact q3.1
  ·
   exact absurd hi (Nat.not_lt_zero i)
end
end Sym

/- slices.Delete at rows of any elements: its contract. -/
namespace Sym
open Go Go.Proofs
noncomputable def delF (t:Ty) (x:(⟨[.whole 0,.pl (.int .i64),.pl (.int .i64)],[.row t]⟩:Tm).D):Option (⟨[.whole 0],[.row t]⟩:Tm).D :=
 let i:I .i64:=x.1.1
 let j:I .i64:=x.1.2.1
 let l:List t.D:=x.2.1
 brn (I.ltb i j) (brn (inB' i (I.nat j)) (brn (inB' j (a1I l)) (some ((),(subL l 0 (I.nat i) ++ subL l (I.nat j) (a1I l - I.nat j),()))) none) none) none
noncomputable def delC (t:Ty):Con:=⟨⟨[.whole 0,.pl (.int .i64),.pl (.int .i64)],[.row t]⟩,⟨[.whole 0],[.row t]⟩,delF t⟩
section
variable {P:Program} {ρ:Go.Shelf.Ren}
theorem del_ok {t:Ty} {z:Value} (h:DelP P ρ t.sz z) (hodd:noOdd P):a0X P (ρ.f 45) (delC t):=by
 intro x y hxy c vals hS hH hargs
 obtain ⟨i,j,l,rfl⟩:∃ (i j:I .i64) (l:List t.D),x = ((i,(j,())),(l,())):=⟨x.1.1,x.1.2.1,x.2.1,rfl⟩
 have hF:delF t ((i,(j,())),(l,())) = some y:=hxy
 unfold delF at hF
 simp only [a1I] at hF
 have c0:I.ltb i j = true:=by cases h:I.ltb i j with | true=>rfl | false=>rw [h] at hF; cases hF
 rw [c0] at hF
 have c1:inB' i (I.nat j) = true:=by cases h:inB' i (I.nat j) with | true=>rfl | false=>rw [h] at hF; cases hF
 rw [c1] at hF
 have c2:inB' j l.length = true:=by cases h:inB' j l.length with | true=>rfl | false=>rw [h] at hF; cases hF
 rw [c2] at hF
 have hy:((),(subL l 0 (I.nat i) ++ subL l (I.nat j) (l.length - I.nat j),())) = y:=Option.some.inj hF
 clear hF hxy
 subst hy
 have hH:c.H = [.row t l]:=hH
 simp only [inB',I.ltb,Bool.and_eq_true,decide_eq_true_eq] at c0 c1 c2
 obtain ⟨a,ha⟩:∃ a,a = I.nat i:=⟨_,rfl⟩
 obtain ⟨b,hb⟩:∃ b,b = I.nat j:=⟨_,rfl⟩
 have hia:i.val = (a:Int):=by rw [ha]; unfold I.nat; omega
 have hjb:j.val = (b:Int):=by rw [hb]; unfold I.nat; omega
 have hab:a < b:=by omega
 have hbl:b ≤ l.length:=by omega
 have b0:a0K c.H 0 = .row t l:=by rw [hH]; rfl
 match vals,hargs with
 | [v0,v1,v2],hargs =>
  obtain ⟨h0,h1,h2,_⟩:=hargs
  have whole:∀ b (u:Ty) (l:List u.D) v,a0K c.H b = .row u l→VOk c (.whole b) v→v = c.ρ b:=by
   intro b u l v hb hv
   obtain ⟨cs,⟨u2,rfl,_,hw⟩,hxv⟩:=hv
   unfold WholeOk at hw
   simp only [hb] at hw
   rw [← hw]
   exact hxv
  have e0:=whole 0 t l v0 b0 h0
  have e1:=v_int h1
  have e2:=v_int h2
  subst e0 e1 e2
  have hM:=hS.mem
  have B0:=hS.blk 0
  unfold BlkOk at B0
  simp only [b0] at B0
  obtain ⟨hl0,ee0,xs,ho0,hx0⟩:=B0
  rcases own_cells ho0 with ⟨_,q0,_⟩ | ⟨g,cap,cur,g1,g2,g3,g4,g5,g6,g7⟩
  ·
   omega
  have ⟨p1,p2⟩:=EncL_cut (fun x cs=>Enc_len t x cs) l xs a hx0
  have ⟨p3,p4⟩:=EncL_cut (fun x cs=>Enc_len t x cs) l xs b hx0
  have hxl:xs.length = l.length * t.sz:=ho0.1
  have f1:b * t.sz ≤ l.length * t.sz:=Nat.mul_le_mul_right _ hbl
  have f2:a * t.sz ≤ b * t.sz:=Nat.mul_le_mul_right _ (by omega)
  have f3:(l.length - b) * t.sz = l.length * t.sz - b * t.sz:=Nat.sub_mul _ _ _
  have f4:(a + (l.length - b)) * t.sz = a * t.sz + (l.length - b) * t.sz:=Nat.add_mul _ _ _
  have f5:l.length * t.sz ≤ cap * t.sz:=Nat.mul_le_mul_right _ g3
  have hol:cur.toList.take (a * t.sz) = xs.take (a * t.sz):=by rw [← g6,List.take_take,Nat.min_eq_left (by omega)]
  have hcs:(cur.toList.drop (b * t.sz)).take ((l.length - b) * t.sz) = xs.drop (b * t.sz):=by rw [← g6,List.drop_take,f3]
  have hdl:(xs.drop (b * t.sz)).length = (l.length - b) * t.sz:=by rw [List.length_drop,hxl,f3]
  have htl:(xs.take (a * t.sz)).length = a * t.sz:=by rw [List.length_take,hxl]; omega
  have hc:=delete_cut h l.length a b cap g cur _ _ (xs.drop (b * t.sz)) ee0 c.w hab hbl g3 g4 g2 g5 (fun v hv=>EncL_one l xs hx0 v (List.mem_of_mem_drop hv)) hcs.symm rfl rfl
  obtain ⟨nm,hnm,hfn⟩:=h.f45
  obtain ⟨body,hbd⟩:∃ b,(Go.Proofs.SlBodyN.n45 ρ).body = some b:=⟨_,rfl⟩
  right
  rw [hia,hjb,g1]
  refine ⟨run_callFunc hfn hbd (hodd (ρ.f 45) _ hfn),Calls.mono hc ?_⟩
  rintro en w2 ⟨rfl,rfl⟩
  refine ⟨_,rfl,?_⟩
  obtain ⟨C1,hC1⟩:∃ C1:Array Value,C1 = (cur.toList.take (a * t.sz) ++ xs.drop (b * t.sz) ++ cur.toList.drop (a * t.sz + (xs.drop (b * t.sz)).length)).toArray:=⟨_,rfl⟩
  rw [← hC1]
  have k1:C1.toList.take ((a + (l.length - b)) * t.sz) = xs.take (a * t.sz) ++ xs.drop (b * t.sz):=by
   rw [hC1,hol]
   rw [List.take_append_of_le_length (by simp only [List.length_append,htl,hdl]; omega)]
   exact List.take_of_length_le (by simp only [List.length_append,htl,hdl]; omega)
  have g5':cur.toList.length = cap * t.sz:=g5
  have k2:C1.size = cap * t.sz:=by
   rw [hC1,List.size_toArray,List.length_append,List.length_append,hol,htl,hdl,List.length_drop,g5']; omega
  obtain ⟨Z,hZ⟩:∃ Z:List Value,Z = (Builtin.zeroCells z.cells (l.length - (a + (l.length - b)))).toList:=⟨_,rfl⟩
  have hZl:Z.length = l.length * t.sz - (a + (l.length - b)) * t.sz:=by rw [hZ,Array.length_toList,size_zeroCells,h.zs,Nat.sub_mul]
  rw [← hZ]
  obtain ⟨C2,hC2⟩:∃ C2:Array Value,C2 = (C1.toList.take ((a + (l.length - b)) * t.sz) ++ Z ++ C1.toList.drop ((a + (l.length - b)) * t.sz + Z.length)).toArray:=⟨_,rfl⟩
  rw [← hC2]
  have hlen:(l.take a ++ l.drop b).length = l.length - (b - a):=by
   simp only [List.length_append,List.length_take,List.length_drop]; omega
  have hkk:l.length - (b - a) = a + (l.length - b):=by omega
  have k3:C2.toList.take ((l.length - (b - a)) * t.sz) = xs.take (a * t.sz) ++ xs.drop (b * t.sz):=by
   rw [hkk,hC2,k1]
   rw [List.append_assoc,List.take_append_of_le_length (by simp only [List.length_append,htl,hdl]; omega)]
   exact List.take_of_length_le (by simp only [List.length_append,htl,hdl]; omega)
  have k4:C2.size = cap * t.sz:=by
   rw [hC2,List.size_toArray,List.length_append,List.length_append,List.length_take,List.length_drop,show C1.toList.length = cap * t.sz from k2,hZl]; omega
  have hown:((c.w.drew.setRow g C1).setRow g C2).ownsRow 0 ee0 t.sz (.slice (some ⟨g,0,none⟩) (l.length - (b - a)) cap) (l.take a ++ l.drop b).length (xs.take (a * t.sz) ++ xs.drop (b * t.sz)):=by
   rw [hlen]
   refine ⟨by rw [List.length_append,htl,hdl,hkk,f4],.inr ⟨g,cap,_,rfl,Nat.zero_le _,setRow_heap _ _ _ _ ee0 _ (setRow_heap c.w.drew g cur _ ee0 _ g2),by omega,g4,k4,k3⟩⟩
  obtain ⟨c',k1,k2,k3,k4,k5⟩:=mem_row hM (nb:=1) (by rw [hH]; rfl) (t:=t) (l:=l.take a ++ l.drop b) (some g) (w':=(c.w.drew.setRow g C1).setRow g C2) ⟨rfl,rfl,rfl,by simp,fun k _ hk=>by
   have hkg:k ≠ g:=fun e=>hk (by rw [e])
   rw [setRow_other _ g k _ hkg,setRow_other _ g k _ hkg]
   rfl⟩ hown (EncL_app _ _ _ _ p1 p4) (by rw [hlen]; omega) (some 0)
   (fun i h=>by cases h; exact ⟨by rw [b0]; rfl,by decide⟩) (fun r h _=>⟨0,rfl,by rw [g1]; exact h⟩) (fun r h=>.inr ⟨0,rfl,by rw [g1]; exact h⟩)
  have hsub:subL l 0 (I.nat i) ++ subL l (I.nat j) (l.length - I.nat j) = l.take a ++ l.drop b:=by
   rw [← ha,← hb]
   simp only [subL,List.drop_zero]
   rw [List.take_of_length_le (l:=l.drop b) (by rw [List.length_drop]; exact Nat.le_refl _)]
  have hH':c'.H = [.dead,.row t (l.take a ++ l.drop b)]:=by rw [k2,hH]; rfl
  obtain ⟨m,hz⟩:∃ m,(delC t).Out.ext [.whole 1] c'.H = some (((),(l.take a ++ l.drop b,())),m):=by
   rw [hH']
   refine ⟨⟨[(0,1)],[]⟩,?_⟩
   have hc:Ty.cast (.sl t) (.sl t) (l.take a ++ l.drop b) = some (l.take a ++ l.drop b):=cast_self _ _
   simp only [Tm.ext,Tm.extF,delC,extSlots,Sh.ext',Sh.ext,Sub.bind,Sub.get,Sub.inv,extHeap,a0K,BSh.ext,hc,ShD.cons]
   rfl
  obtain ⟨c2,w2',hh2,hM2,hargs2⟩:=part_mem k4 hz
  obtain ⟨us',q1,q2,q3⟩:=hargs2 [.slice (some ⟨g,0,none⟩) (l.length - (b - a)) cap] ⟨k5,trivial⟩
  have hus:us' = [.slice (some ⟨g,0,none⟩) (l.length - (b - a)) cap]:=by
   match us',q2 with
   | [u],_ =>
    have h3:u = .slice (some ⟨g,0,none⟩) (l.length - (b - a)) cap:=by simpa using congrArg List.head? q1.symm
    rw [h3]
  subst hus
  refine ⟨c2,w2'.trans k1,?_,?_,hM2,fun i hi=>?_⟩
  ·
   rw [hh2,← hsub]
  ·
   exact q3.1
  ·
   exact absurd hi (Nat.not_lt_zero i)
end
end Sym

/- The given functions as plain functions, as the printer told them. -/
namespace Sym
open Go
abbrev S_wirereader_Reader:Type:=(List (I .u8)) × ((I .i64) × (Bool × Unit))
abbrev a1G:Ty:=.cons (.sl a0M) (.cons (.arr 4 a1A) .nil)
noncomputable section
def pontagelaw0_EqualAccounts (K:Nat) (x:(⟨[.pl (.sl a0M),.pl (.sl a0M)],[]⟩:Tm).D):Option (⟨[.pl .bool],[]⟩:Tm).D :=
 let a:(List a0G):=x.1.1
 let b:(List a0G):=x.1.2.1
 brn (I.neb (I.ofNat .i64 (@a1I a0G a)) (I.ofNat .i64 (@a1I a0G b))) (some ((false,()),())) (iter none (fun x0=>brn (I.ltb x0.1.2.2.1 (I.ofNat .i64 (@a1I a0G x0.1.1))) (brn (inB x0.1.2.2.1 (@a1I a0G x0.1.1)) (brn (inB x0.1.2.2.1 (@a1I a0G x0.1.2.1)) (brn (bnot (Ty.eqb a0M (@rdL a0G Z_S_api_Account x0.1.1 (I.nat x0.1.2.2.1)) (@rdL a0G Z_S_api_Account x0.1.2.1 (I.nat x0.1.2.2.1)))) (.done (some ((false,()),()))) (.again ((x0.1.1,(x0.1.2.1,((I.add x0.1.2.2.1 (I.of .i64 1)),()))),()))) (.done none)) (.done none)) (.done (some ((true,()),())))) K ((a,(b,(I.of .i64 0,()))),()))
def pontagelaw0_EqualMessages (K:Nat) (x:(⟨[.pl (.sl a0J),.pl (.sl a0J)],[]⟩:Tm).D):Option (⟨[.pl .bool],[]⟩:Tm).D :=
 let a:(List a0H):=x.1.1
 let b:(List a0H):=x.1.2.1
 brn (I.neb (I.ofNat .i64 (@a1I a0H a)) (I.ofNat .i64 (@a1I a0H b))) (some ((false,()),())) (iter none (fun x0=>brn (I.ltb x0.1.2.2.1 (I.ofNat .i64 (@a1I a0H x0.1.1))) (brn (inB x0.1.2.2.1 (@a1I a0H x0.1.1)) (brn (inB x0.1.2.2.1 (@a1I a0H x0.1.2.1)) (brn (bnot (Ty.eqb a0J (@rdL a0H a1C x0.1.1 (I.nat x0.1.2.2.1)) (@rdL a0H a1C x0.1.2.1 (I.nat x0.1.2.2.1)))) (.done (some ((false,()),()))) (.again ((x0.1.1,(x0.1.2.1,((I.add x0.1.2.2.1 (I.of .i64 1)),()))),()))) (.done none)) (.done none)) (.done (some ((true,()),())))) K ((a,(b,(I.of .i64 0,()))),()))
def pontagelaw0_EqualBools (K:Nat) (x:(⟨[.pl (.sl .bool),.pl (.sl .bool)],[]⟩:Tm).D):Option (⟨[.pl .bool],[]⟩:Tm).D :=
 let a:(List Bool):=x.1.1
 let b:(List Bool):=x.1.2.1
 brn (I.neb (I.ofNat .i64 (@a1I Bool a)) (I.ofNat .i64 (@a1I Bool b))) (some ((false,()),())) (iter none (fun x0=>brn (I.ltb x0.1.2.2.1 (I.ofNat .i64 (@a1I Bool x0.1.1))) (brn (inB x0.1.2.2.1 (@a1I Bool x0.1.1)) (brn (inB x0.1.2.2.1 (@a1I Bool x0.1.2.1)) (brn (bnot (Ty.eqb .bool (@rdL Bool false x0.1.1 (I.nat x0.1.2.2.1)) (@rdL Bool false x0.1.2.1 (I.nat x0.1.2.2.1)))) (.done (some ((false,()),()))) (.again ((x0.1.1,(x0.1.2.1,((I.add x0.1.2.2.1 (I.of .i64 1)),()))),()))) (.done none)) (.done none)) (.done (some ((true,()),())))) K ((a,(b,(I.of .i64 0,()))),()))
def pontagelaw0_EqualState (K:Nat) (x:(⟨[.pl Y_api_State,.pl Y_api_State],[]⟩:Tm).D):Option (⟨[.pl .bool],[]⟩:Tm).D :=
 let a:S_api_State:=x.1.1
 let b:S_api_State:=x.1.2.1
 brn (I.eqb a.1 b.1) (brn (Ty.eqb a0I a.2.1 b.2.1) (brn (Ty.eqb a1M a.2.2.1 b.2.2.1) (brn (I.eqb a.2.2.2.1 b.2.2.2.1) (optF none (pontagelaw0_EqualPricer K ((a.2.2.2.2.1,(b.2.2.2.2.1,())),())) fun y0=>brn y0.1.1 (optF none (pontagelaw0_EqualAccounts K ((a.2.2.2.2.2.1,(b.2.2.2.2.2.1,())),())) fun y1=>brn y1.1.1 (brn (Ty.eqb (.arr 4 a1A) a.2.2.2.2.2.2.1 b.2.2.2.2.2.2.1) (optF none (pontagelaw0_EqualMessages K ((a.2.2.2.2.2.2.2.1,(b.2.2.2.2.2.2.2.1,())),())) fun y2=>brn y2.1.1 (optF none (pontagelaw0_EqualBools K ((a.2.2.2.2.2.2.2.2.1,(b.2.2.2.2.2.2.2.2.1,())),())) fun y3=>brn y3.1.1 (brn (Ty.eqb a1A a.2.2.2.2.2.2.2.2.2.1 b.2.2.2.2.2.2.2.2.2.1) (optF none (pontagelaw0_EqualPayments K ((a.2.2.2.2.2.2.2.2.2.2.1,(b.2.2.2.2.2.2.2.2.2.2.1,())),())) fun y4=>some ((y4.1.1,()),())) (some ((false,()),()))) (some ((false,()),()))) (some ((false,()),()))) (some ((false,()),()))) (some ((false,()),()))) (some ((false,()),()))) (some ((false,()),()))) (some ((false,()),()))) (some ((false,()),()))) (some ((false,()),()))
def executor_Machine_count (K:Nat) (x:(⟨[.ptr 0 []],a0F⟩:Tm).D):Option (⟨[],a0F⟩:Tm).D :=
 let h0:a1B:=x.2.1
 let h1:a0T:=x.2.2.1
 let h2:a0Y:=x.2.2.2.1
 let h3:a0W:=x.2.2.2.2.1
 let h4:a0U:=x.2.2.2.2.2.1
 let h5:(List a0G):=x.2.2.2.2.2.2.1
 let h6:(List a0H):=x.2.2.2.2.2.2.2.1
 let h7:(List a0B):=x.2.2.2.2.2.2.2.2.1
 let h8:(List a0B):=x.2.2.2.2.2.2.2.2.2.1
 let h9:(List Bool):=x.2.2.2.2.2.2.2.2.2.2.1
 let h10:(List a0D):=x.2.2.2.2.2.2.2.2.2.2.2.1
 brn (I.ltb h0.1 (I.of .u64 18446744073709551615)) (some ((),(((I.add h0.1 (I.of .u64 1)),h0.2),(h1,(h2,(h3,(h4,(h5,(h6,(h7,(h8,(h9,(h10,()))))))))))))) (some ((),(h0,(h1,(h2,(h3,(h4,(h5,(h6,(h7,(h8,(h9,(h10,())))))))))))))
def ledger_Ledger_find (K:Nat) (x:(⟨[.bp a1G,.pl (.int .u64)],[]⟩:Tm).D):Option (⟨[.pl (.int .i64),.pl .bool],[]⟩:Tm).D :=
 let a:S_ledger_Ledger:=x.1.1
 let b:(I .u64):=x.1.2.1
 iter none (fun x0=>brn (I.ltb x0.1.2.2.2.1 x0.1.2.2.2.2.1) (brn (inB (I.conv (k:=.u64) .i64 (I.shr (I.conv (k:=.i64) .u64 (I.add x0.1.2.2.2.1 x0.1.2.2.2.2.1)) (I.of .u64 1))) (@a1I a0G x0.1.1)) (brn (I.neb (@rdL a0G Z_S_api_Account x0.1.1 (I.nat (I.conv (k:=.u64) .i64 (I.shr (I.conv (k:=.i64) .u64 (I.add x0.1.2.2.2.1 x0.1.2.2.2.2.1)) (I.of .u64 1))))).1 (@rdL a0G Z_S_api_Account x0.1.1 (I.nat (I.conv (k:=.u64) .i64 (I.shr (I.conv (k:=.i64) .u64 (I.add x0.1.2.2.2.1 x0.1.2.2.2.2.1)) (I.of .u64 1))))).1) (brn (I.neb x0.1.2.1 x0.1.2.1) (.again ((x0.1.1,(x0.1.2.1,(x0.1.2.2.1,(x0.1.2.2.2.1,((I.conv (k:=.u64) .i64 (I.shr (I.conv (k:=.i64) .u64 (I.add x0.1.2.2.2.1 x0.1.2.2.2.2.1)) (I.of .u64 1))),()))))),())) (.again ((x0.1.1,(x0.1.2.1,(x0.1.2.2.1,((I.add (I.conv (k:=.u64) .i64 (I.shr (I.conv (k:=.i64) .u64 (I.add x0.1.2.2.2.1 x0.1.2.2.2.2.1)) (I.of .u64 1))) (I.of .i64 1)),(x0.1.2.2.2.2.1,()))))),()))) (brn (I.neb x0.1.2.1 x0.1.2.1) (.again ((x0.1.1,(x0.1.2.1,(x0.1.2.2.1,(x0.1.2.2.2.1,((I.conv (k:=.u64) .i64 (I.shr (I.conv (k:=.i64) .u64 (I.add x0.1.2.2.2.1 x0.1.2.2.2.2.1)) (I.of .u64 1))),()))))),())) (brn (I.ltb (@rdL a0G Z_S_api_Account x0.1.1 (I.nat (I.conv (k:=.u64) .i64 (I.shr (I.conv (k:=.i64) .u64 (I.add x0.1.2.2.2.1 x0.1.2.2.2.2.1)) (I.of .u64 1))))).1 x0.1.2.1) (.again ((x0.1.1,(x0.1.2.1,(x0.1.2.2.1,((I.add (I.conv (k:=.u64) .i64 (I.shr (I.conv (k:=.i64) .u64 (I.add x0.1.2.2.2.1 x0.1.2.2.2.2.1)) (I.of .u64 1))) (I.of .i64 1)),(x0.1.2.2.2.2.1,()))))),())) (brn (I.ltb x0.1.2.1 (@rdL a0G Z_S_api_Account x0.1.1 (I.nat (I.conv (k:=.u64) .i64 (I.shr (I.conv (k:=.i64) .u64 (I.add x0.1.2.2.2.1 x0.1.2.2.2.2.1)) (I.of .u64 1))))).1) (.again ((x0.1.1,(x0.1.2.1,(x0.1.2.2.1,(x0.1.2.2.2.1,((I.conv (k:=.u64) .i64 (I.shr (I.conv (k:=.i64) .u64 (I.add x0.1.2.2.2.1 x0.1.2.2.2.2.1)) (I.of .u64 1))),()))))),())) (.again ((x0.1.1,(x0.1.2.1,(x0.1.2.2.1,(x0.1.2.2.2.1,((I.conv (k:=.u64) .i64 (I.shr (I.conv (k:=.i64) .u64 (I.add x0.1.2.2.2.1 x0.1.2.2.2.2.1)) (I.of .u64 1))),()))))),())))))) (.done none)) (.done (brn (I.ltb x0.1.2.2.2.1 x0.1.2.2.1) (brn (inB x0.1.2.2.2.1 (@a1I a0G x0.1.1)) (brn (I.neb (@rdL a0G Z_S_api_Account x0.1.1 (I.nat x0.1.2.2.2.1)).1 (@rdL a0G Z_S_api_Account x0.1.1 (I.nat x0.1.2.2.2.1)).1) (brn (I.neb x0.1.2.1 x0.1.2.1) (some ((x0.1.2.2.2.1,(true,())),())) (some ((x0.1.2.2.2.1,(false,())),()))) (brn (I.neb x0.1.2.1 x0.1.2.1) (some ((x0.1.2.2.2.1,(false,())),())) (brn (I.ltb (@rdL a0G Z_S_api_Account x0.1.1 (I.nat x0.1.2.2.2.1)).1 x0.1.2.1) (some ((x0.1.2.2.2.1,(false,())),())) (brn (I.ltb x0.1.2.1 (@rdL a0G Z_S_api_Account x0.1.1 (I.nat x0.1.2.2.2.1)).1) (some ((x0.1.2.2.2.1,(false,())),())) (some ((x0.1.2.2.2.1,(true,())),())))))) none) (some ((x0.1.2.2.2.1,(false,())),()))))) K ((a.1,(b,((I.ofNat .i64 (@a1I a0G a.1)),(I.of .i64 0,((I.ofNat .i64 (@a1I a0G a.1)),()))))),())
def ledger_Ledger_get (K:Nat) (x:(⟨[.bp a1G,.pl (.int .u64)],[]⟩:Tm).D):Option (⟨[.pl a0M],[]⟩:Tm).D :=
 let a:S_ledger_Ledger:=x.1.1
 let b:(I .u64):=x.1.2.1
 optF none (ledger_Ledger_find K ((a,(b,())),())) fun y0=>brn y0.1.2.1 (brn (inB y0.1.1 (@a1I a0G a.1)) (some (((@rdL a0G Z_S_api_Account a.1 (I.nat y0.1.1)),()),())) none) (some (((b,(Z_U,(I.of .u64 0,()))),()),()))
def ledger_Ledger_Nonce (K:Nat) (x:(⟨[.bp a1G,.pl (.int .u64)],[]⟩:Tm).D):Option (⟨[.pl (.int .u64)],[]⟩:Tm).D :=
 let a:S_ledger_Ledger:=x.1.1
 let b:(I .u64):=x.1.2.1
 optF none (ledger_Ledger_get K ((a,(b,())),())) fun y0=>some ((y0.1.1.2.2.1,()),())
def block_GasRemaining (K:Nat) (x:(⟨[.pl a1M,.pl a0I],[]⟩:Tm).D):Option (⟨[.pl (.int .u64)],[]⟩:Tm).D :=
 let a:S_api_Block:=x.1.1
 let b:a1R:=x.1.2.1
 brn (I.leb b.2.2.2.2.1 a.2.2.1) (some ((I.of .u64 0,()),())) (some (((I.sub b.2.2.2.2.1 a.2.2.1),()),()))
def ledger_Ledger_Balance (K:Nat) (x:(⟨[.bp a1G,.pl (.int .u64)],[]⟩:Tm).D):Option (⟨[.pl a1A],[]⟩:Tm).D :=
 let a:S_ledger_Ledger:=x.1.1
 let b:(I .u64):=x.1.2.1
 optF none (ledger_Ledger_get K ((a,(b,())),())) fun y0=>some ((y0.1.1.2.1,()),())
def executor_Machine_checkTransaction (K:Nat) (x:(⟨[.ptr 0 [],.pl a1P],a0F⟩:Tm).D):Option (⟨[.pl a1A,.pl a2E,.pl (.int .i64)],a0F⟩:Tm).D :=
 let a:S_api_Transaction:=x.1.1
 let h0:a1B:=x.2.1
 let h1:a0T:=x.2.2.1
 let h2:a0Y:=x.2.2.2.1
 let h3:a0W:=x.2.2.2.2.1
 let h4:a0U:=x.2.2.2.2.2.1
 let h5:(List a0G):=x.2.2.2.2.2.2.1
 let h6:(List a0H):=x.2.2.2.2.2.2.2.1
 let h7:(List a0B):=x.2.2.2.2.2.2.2.2.1
 let h8:(List a0B):=x.2.2.2.2.2.2.2.2.2.1
 let h9:(List Bool):=x.2.2.2.2.2.2.2.2.2.2.1
 let h10:(List a0D):=x.2.2.2.2.2.2.2.2.2.2.2.1
 optF none (ledger_Ledger_Nonce K (((h5,h1.2),(a.1,())),())) fun y0=>jn (fun (x1:(Unit × (a1B × (a0T × ((List a0G) × (a0Y × ((List a0H) × (a0W × ((List a0B) × (a0U × ((List a0B) × ((List Bool) × ((List a0D) × (S_api_Transaction × (U × (S_api_Charge × Unit))))))))))))))))=>optF none (txfee_GasPrice K ((x1.2.2.2.2.2.2.2.2.2.2.2.2.1,(x1.2.1.2.2.1.2.2.2.1,())),())) fun y2=>brn (I.neb y2.1.2.1 (I.of .i64 0)) (some ((Z_U,(a0R,(y2.1.2.1,()))),(x1.2.1,(x1.2.2.1,(x1.2.2.2.2.1,(x1.2.2.2.2.2.2.1,(x1.2.2.2.2.2.2.2.2.1,(x1.2.2.2.1,(x1.2.2.2.2.2.1,(x1.2.2.2.2.2.2.2.1,(x1.2.2.2.2.2.2.2.2.2.1,(x1.2.2.2.2.2.2.2.2.2.2.1,(x1.2.2.2.2.2.2.2.2.2.2.2.1,()))))))))))))) (optF none (block_GasRemaining K ((x1.2.1.2.2.1,(x1.2.1.2.1,())),())) fun y3=>brn (I.ltb y3.1.1 x1.2.2.2.2.2.2.2.2.2.2.2.2.1.2.2.2.2.1) (some ((Z_U,(a0R,(I.of .i64 13,()))),(x1.2.1,(x1.2.2.1,(x1.2.2.2.2.1,(x1.2.2.2.2.2.2.1,(x1.2.2.2.2.2.2.2.2.1,(x1.2.2.2.1,(x1.2.2.2.2.2.1,(x1.2.2.2.2.2.2.2.1,(x1.2.2.2.2.2.2.2.2.2.1,(x1.2.2.2.2.2.2.2.2.2.2.1,(x1.2.2.2.2.2.2.2.2.2.2.2.1,()))))))))))))) (optF none (ledger_Ledger_Balance K (((x1.2.2.2.1,x1.2.2.1.2),(x1.2.2.2.2.2.2.2.2.2.2.2.2.1.1,())),())) fun y4=>optF none (txfee_Covers K ((x1.2.2.2.2.2.2.2.2.2.2.2.2.1,(y2.1.1,(y4.1.1,()))),())) fun y5=>brn (bnot y5.1.1) (some ((Z_U,(a0R,(I.of .i64 10,()))),(x1.2.1,(x1.2.2.1,(x1.2.2.2.2.1,(x1.2.2.2.2.2.2.1,(x1.2.2.2.2.2.2.2.2.1,(x1.2.2.2.1,(x1.2.2.2.2.2.1,(x1.2.2.2.2.2.2.2.1,(x1.2.2.2.2.2.2.2.2.2.1,(x1.2.2.2.2.2.2.2.2.2.2.1,(x1.2.2.2.2.2.2.2.2.2.2.2.1,()))))))))))))) (optF none (txfee_Compute K ((x1.2.2.2.2.2.2.2.2.2.2.2.2.1,(x1.2.1.2.2.1.2.2.2.1,(x1.2.1.2.2.2.2.1.1,(x1.2.1.2.1,())))),())) fun y6=>some ((y2.1.1,(y6.1.1,(y6.1.2.1,()))),(x1.2.1,(x1.2.2.1,(x1.2.2.2.2.1,(x1.2.2.2.2.2.2.1,(x1.2.2.2.2.2.2.2.2.1,(x1.2.2.2.1,(x1.2.2.2.2.2.1,(x1.2.2.2.2.2.2.2.1,(x1.2.2.2.2.2.2.2.2.2.1,(x1.2.2.2.2.2.2.2.2.2.2.1,(x1.2.2.2.2.2.2.2.2.2.2.2.1,())))))))))))))))) fun j1=>brn (I.ltb (I.of .i64 4096) (I.ofNat .i64 (@a1I (I .u8) a.2.2.2.2.2.2.2.2.1))) (some ((Z_U,(a0R,(I.of .i64 6,()))),(h0,(h1,(h2,(h3,(h4,(h5,(h6,(h7,(h8,(h9,(h10,()))))))))))))) (jn (fun (x2:(((I .u64) × (Bool × Unit)) × (a1B × (a0T × ((List a0G) × (a0Y × ((List a0H) × (a0W × ((List a0B) × (a0U × ((List a0B) × ((List Bool) × ((List a0D) × (S_api_Transaction × (U × (S_api_Charge × Unit))))))))))))))))=>brn x2.1.2.1 (some ((Z_U,(a0R,(I.of .i64 2,()))),(x2.2.1,(x2.2.2.1,(x2.2.2.2.2.1,(x2.2.2.2.2.2.2.1,(x2.2.2.2.2.2.2.2.2.1,(x2.2.2.2.1,(x2.2.2.2.2.2.1,(x2.2.2.2.2.2.2.2.1,(x2.2.2.2.2.2.2.2.2.2.1,(x2.2.2.2.2.2.2.2.2.2.2.1,(x2.2.2.2.2.2.2.2.2.2.2.2.1,()))))))))))))) (brn (I.neb x2.2.2.2.2.2.2.2.2.2.2.2.2.1.2.1 x2.1.1) (some ((Z_U,(a0R,(I.of .i64 11,()))),(x2.2.1,(x2.2.2.1,(x2.2.2.2.2.1,(x2.2.2.2.2.2.2.1,(x2.2.2.2.2.2.2.2.2.1,(x2.2.2.2.1,(x2.2.2.2.2.2.1,(x2.2.2.2.2.2.2.2.1,(x2.2.2.2.2.2.2.2.2.2.1,(x2.2.2.2.2.2.2.2.2.2.2.1,(x2.2.2.2.2.2.2.2.2.2.2.2.1,()))))))))))))) (brn (I.eqb x2.1.1 (I.of .u64 18446744073709551615)) (some ((Z_U,(a0R,(I.of .i64 4,()))),(x2.2.1,(x2.2.2.1,(x2.2.2.2.2.1,(x2.2.2.2.2.2.2.1,(x2.2.2.2.2.2.2.2.2.1,(x2.2.2.2.1,(x2.2.2.2.2.2.1,(x2.2.2.2.2.2.2.2.1,(x2.2.2.2.2.2.2.2.2.2.1,(x2.2.2.2.2.2.2.2.2.2.2.1,(x2.2.2.2.2.2.2.2.2.2.2.2.1,()))))))))))))) (j1 ((),(x2.2.1,(x2.2.2.1,(x2.2.2.2.1,(x2.2.2.2.2.1,(x2.2.2.2.2.2.1,(x2.2.2.2.2.2.2.1,(x2.2.2.2.2.2.2.2.1,(x2.2.2.2.2.2.2.2.2.1,(x2.2.2.2.2.2.2.2.2.2.1,(x2.2.2.2.2.2.2.2.2.2.2.1,(x2.2.2.2.2.2.2.2.2.2.2.2.1,(x2.2.2.2.2.2.2.2.2.2.2.2.2.1,(x2.2.2.2.2.2.2.2.2.2.2.2.2.2.1,(x2.2.2.2.2.2.2.2.2.2.2.2.2.2.2.1,()))))))))))))))))))) fun j2=>brn (I.eqb a.1 (I.of .u64 0)) (j2 ((y0.1.1,(true,())),(h0,(h1,(h5,(h2,(h6,(h3,(h7,(h4,(h8,(h9,(h10,(a,(Z_U,(a0R,())))))))))))))))) (brn (I.eqb a.2.2.1 (I.of .u64 0)) (j2 ((y0.1.1,(true,())),(h0,(h1,(h5,(h2,(h6,(h3,(h7,(h4,(h8,(h9,(h10,(a,(Z_U,(a0R,())))))))))))))))) (j2 ((y0.1.1,((I.eqb a.1 (I.of .u64 18446744073709551615)),())),(h0,(h1,(h5,(h2,(h6,(h3,(h7,(h4,(h8,(h9,(h10,(a,(Z_U,(a0R,()))))))))))))))))))
def block_UseGas (K:Nat) (x:(⟨[.pl a1M,.pl (.int .u64),.pl a0I],[]⟩:Tm).D):Option (⟨[.pl a1M,.pl (.int .i64)],[]⟩:Tm).D :=
 let a:S_api_Block:=x.1.1
 let b:(I .u64):=x.1.2.1
 let c:a1R:=x.1.2.2.1
 optF none (block_GasRemaining K ((a,(c,())),())) fun y0=>brn (I.ltb y0.1.1 b) (some ((Z_S_api_Block,(I.of .i64 13,())),())) (some (((a.1,(a.2.1,((I.add a.2.2.1 b),a.2.2.2))),(I.of .i64 0,())),()))
def ledger_isVault (K:Nat) (x:(⟨[.pl (.int .i64)],[]⟩:Tm).D):Option (⟨[.pl .bool],[]⟩:Tm).D :=
 let a:(I .i64):=x.1.1
 brn (I.leb (I.of .i64 1) a) (some (((I.leb a (I.of .i64 4)),()),())) (some ((false,()),()))
def ledger_isEmpty (K:Nat) (x:(⟨[.pl a0M],[]⟩:Tm).D):Option (⟨[.pl .bool],[]⟩:Tm).D :=
 let a:a0G:=x.1.1
 brn (Ty.eqb a1A a.2.1 Z_U) (some (((I.eqb a.2.2.1 (I.of .u64 0)),()),())) (some ((false,()),()))
def ledger_Ledger_set (K:Nat) (x:(⟨[.ptr 0 [],.pl a0M],a0V⟩:Tm).D):Option (⟨[],a0V⟩:Tm).D :=
 let a:a0G:=x.1.1
 let h0:a0T:=x.2.1
 let h1:(List a0G):=x.2.2.1
 optF none (ledger_Ledger_find K (((h1,h0.2),(a.1,())),())) fun y0=>jn (fun (x1:(((I .i64) × (Bool × (Bool × Unit))) × (a0T × ((List a0G) × (a0G × Unit)))))=>brn x1.1.2.2.1 (optF none (delF a0M ((x1.1.1,((I.add x1.1.1 (I.of .i64 1)),())),(x1.2.2.1,()))) fun y2=>some ((),(x1.2.1,(y2.2.1,())))) (brn x1.1.2.1 (brn (inB x1.1.1 (@a1I a0G x1.2.2.1)) (some ((),(x1.2.1,((@setL a0G x1.2.2.1 (I.nat x1.1.1) x1.2.2.2.1),())))) none) (optF none (ledger_isEmpty K ((x1.2.2.2.1,()),())) fun y2=>brn (bnot y2.1.1) (optF none (insF a0M ((x1.1.1,()),(x1.2.2.1,((x1.2.2.2.1::[]),())))) fun y3=>some ((),(x1.2.1,(y3.2.1,())))) (some ((),(x1.2.1,(x1.2.2.1,()))))))) fun j1=>brn y0.1.2.1 (optF none (ledger_isEmpty K ((a,()),())) fun y2=>j1 ((y0.1.1,(y0.1.2.1,(y2.1.1,()))),(h0,(h1,(a,()))))) (j1 ((y0.1.1,(y0.1.2.1,(false,()))),(h0,(h1,(a,())))))
def ledger_Ledger_debit (K:Nat) (x:(⟨[.ptr 0 [],.pl (.int .u64),.pl a1A],a0V⟩:Tm).D):Option (⟨[.pl (.int .i64)],a0V⟩:Tm).D :=
 let a:(I .u64):=x.1.1
 let b:U:=x.1.2.1
 let h0:a0T:=x.2.1
 let h1:(List a0G):=x.2.2.1
 optF none (ledger_Ledger_get K (((h1,h0.2),(a,())),())) fun y0=>optF none (uint256_Sub ((y0.1.1.2.1,(b,())),())) fun y1=>brn (I.neb y1.1.2.1 (I.of .i64 0)) (some ((I.of .i64 10,()),(h0,(h1,())))) (optF none (ledger_Ledger_set K (((y0.1.1.1,(y1.1.1,y0.1.1.2.2)),()),(h0,(h1,())))) fun y2=>some ((I.of .i64 0,()),(y2.2.1,(y2.2.2.1,()))))
def ledger_Ledger_PayVault (K:Nat) (x:(⟨[.ptr 0 [],.pl (.int .u64),.pl (.int .i64),.pl a1A],a0V⟩:Tm).D):Option (⟨[.pl (.int .i64)],a0V⟩:Tm).D :=
 let a:(I .u64):=x.1.1
 let b:(I .i64):=x.1.2.1
 let c:U:=x.1.2.2.1
 let h0:a0T:=x.2.1
 let h1:(List a0G):=x.2.2.1
 jn (fun (x0:(((I .u64) × ((I .i64) × Unit)) × (a0T × ((List a0G) × (U × Unit)))))=>optF none (ledger_Ledger_debit K ((x0.1.1,(x0.2.2.2.1,())),(x0.2.1,(x0.2.2.1,())))) fun y1=>brn (I.neb y1.1.1 (I.of .i64 0)) (some ((y1.1.1,()),(y1.2.1,(y1.2.2.1,())))) (brn (inB (I.sub x0.1.2.1 (I.of .i64 1)) 4) (optF none (a1T K (((@Arr.sel U Z_U 4 y1.2.1.2.1 (I.nat (I.sub x0.1.2.1 (I.of .i64 1)))),(x0.2.2.2.1,())),())) fun y2=>brn (inB (I.sub x0.1.2.1 (I.of .i64 1)) 4) (some ((I.of .i64 0,()),(((),((@Arr.upd U 4 y1.2.1.2.1 (I.nat (I.sub x0.1.2.1 (I.of .i64 1))) y2.1.1),y1.2.1.2.2)),(y1.2.2.1,())))) none) none)) fun j0=>brn (I.eqb a (I.of .u64 0)) (some ((I.of .i64 2,()),(h0,(h1,())))) (optF none (ledger_isVault K ((b,()),())) fun y1=>brn (bnot y1.1.1) (some ((I.of .i64 2,()),(h0,(h1,())))) (j0 ((a,(b,())),(h0,(h1,(c,()))))))
def ledger_Ledger_IncrementNonce (K:Nat) (x:(⟨[.ptr 0 [],.pl (.int .u64)],a0V⟩:Tm).D):Option (⟨[.pl (.int .i64)],a0V⟩:Tm).D :=
 let a:(I .u64):=x.1.1
 let h0:a0T:=x.2.1
 let h1:(List a0G):=x.2.2.1
 brn (I.eqb a (I.of .u64 0)) (some ((I.of .i64 2,()),(h0,(h1,())))) (optF none (ledger_Ledger_get K (((h1,h0.2),(a,())),())) fun y0=>brn (I.eqb y0.1.1.2.2.1 (I.of .u64 18446744073709551615)) (some ((I.of .i64 4,()),(h0,(h1,())))) (optF none (ledger_Ledger_set K (((y0.1.1.1,(y0.1.1.2.1,((I.add y0.1.1.2.2.1 (I.of .u64 1)),y0.1.1.2.2.2))),()),(h0,(h1,())))) fun y1=>some ((I.of .i64 0,()),(y1.2.1,(y1.2.2.1,())))))
def backlog_Add (K:Nat) (x:(⟨[.pl (.int .u64),.pl (.int .u64)],[]⟩:Tm).D):Option (⟨[.pl (.int .u64)],[]⟩:Tm).D :=
 let a:(I .u64):=x.1.1
 let b:(I .u64):=x.1.2.1
 optF none (add64F ((a,(b,(I.of .u64 0,()))),())) fun y0=>brn (I.neb y0.1.2.1 (I.of .u64 0)) (some ((I.of .u64 18446744073709551615,()),())) (some ((y0.1.1,()),()))
def outbox_Outbox_Len (K:Nat) (x:(⟨[.ptr 0 []],a1K⟩:Tm).D):Option (⟨[.pl (.int .i64)],a1K⟩:Tm).D :=
 let h0:a0Y:=x.2.1
 let h1:a0W:=x.2.2.1
 let h2:(List a0H):=x.2.2.2.1
 let h3:(List a0B):=x.2.2.2.2.1
 some (((I.ofNat .i64 (@a1I a0H h2)),()),(h0,(h1,(h2,(h3,())))))
def hash_roundConstants (K:Nat) (x:(⟨[],[]⟩:Tm).D):Option (⟨[.pl (.arr 64 (.int .u32))],[]⟩:Tm).D :=
 some (((I.of .u32 1116352408,(I.of .u32 1899447441,(I.of .u32 3049323471,(I.of .u32 3921009573,(I.of .u32 961987163,(I.of .u32 1508970993,(I.of .u32 2453635748,(I.of .u32 2870763221,(I.of .u32 3624381080,(I.of .u32 310598401,(I.of .u32 607225278,(I.of .u32 1426881987,(I.of .u32 1925078388,(I.of .u32 2162078206,(I.of .u32 2614888103,(I.of .u32 3248222580,(I.of .u32 3835390401,(I.of .u32 4022224774,(I.of .u32 264347078,(I.of .u32 604807628,(I.of .u32 770255983,(I.of .u32 1249150122,(I.of .u32 1555081692,(I.of .u32 1996064986,(I.of .u32 2554220882,(I.of .u32 2821834349,(I.of .u32 2952996808,(I.of .u32 3210313671,(I.of .u32 3336571891,(I.of .u32 3584528711,(I.of .u32 113926993,(I.of .u32 338241895,(I.of .u32 666307205,(I.of .u32 773529912,(I.of .u32 1294757372,(I.of .u32 1396182291,(I.of .u32 1695183700,(I.of .u32 1986661051,(I.of .u32 2177026350,(I.of .u32 2456956037,(I.of .u32 2730485921,(I.of .u32 2820302411,(I.of .u32 3259730800,(I.of .u32 3345764771,(I.of .u32 3516065817,(I.of .u32 3600352804,(I.of .u32 4094571909,(I.of .u32 275423344,(I.of .u32 430227734,(I.of .u32 506948616,(I.of .u32 659060556,(I.of .u32 883997877,(I.of .u32 958139571,(I.of .u32 1322822218,(I.of .u32 1537002063,(I.of .u32 1747873779,(I.of .u32 1955562222,(I.of .u32 2024104815,(I.of .u32 2227730452,(I.of .u32 2361852424,(I.of .u32 2428436474,(I.of .u32 2756734187,(I.of .u32 3204031479,(I.of .u32 3329325298,())))))))))))))))))))))))))))))))))))))))))))))))))))))))))))))))),()),())
def math_bits_RotateLeft32 (K:Nat) (x:(⟨[.pl (.int .u32),.pl (.int .i64)],[]⟩:Tm).D):Option (⟨[.pl (.int .u32)],[]⟩:Tm).D :=
 let a:(I .u32):=x.1.1
 let b:(I .i64):=x.1.2.1
 brn (I.nn (I.and (I.conv (k:=.i64) .u64 b) (I.of .u64 31))) (brn (I.nn (I.sub (I.of .u64 32) (I.and (I.conv (k:=.i64) .u64 b) (I.of .u64 31)))) (some (((I.or (I.shl a (I.and (I.conv (k:=.i64) .u64 b) (I.of .u64 31))) (I.shr a (I.sub (I.of .u64 32) (I.and (I.conv (k:=.i64) .u64 b) (I.of .u64 31))))),()),())) none) none
def hash_compress (K:Nat) (x:(⟨[.pl (.arr 8 (.int .u32)),.pl (.arr 64 (.int .u32)),.pl (.arr 64 (.int .u32))],[]⟩:Tm).D):Option (⟨[.pl (.arr 8 (.int .u32))],[]⟩:Tm).D :=
 let a:S_A8_intu32:=x.1.1
 let b:S_A64_intu32:=x.1.2.1
 let c:S_A64_intu32:=x.1.2.2.1
 iter none (fun x0=>brn (I.ltb x0.1.1 (I.of .i64 64)) (optF (.done none) (math_bits_RotateLeft32 K ((x0.2.2.2.2.2.1.2.2.2.2.1,((I.of .i64 (-6)),())),())) fun y1=>optF (.done none) (math_bits_RotateLeft32 K ((x0.2.2.2.2.2.1.2.2.2.2.1,((I.of .i64 (-11)),())),())) fun y2=>optF (.done none) (math_bits_RotateLeft32 K ((x0.2.2.2.2.2.1.2.2.2.2.1,((I.of .i64 (-25)),())),())) fun y3=>optF (.done none) (math_bits_RotateLeft32 K ((x0.2.2.2.2.2.1.1,((I.of .i64 (-2)),())),())) fun y4=>optF (.done none) (math_bits_RotateLeft32 K ((x0.2.2.2.2.2.1.1,((I.of .i64 (-13)),())),())) fun y5=>optF (.done none) (math_bits_RotateLeft32 K ((x0.2.2.2.2.2.1.1,((I.of .i64 (-22)),())),())) fun y6=>brn (inB x0.1.1 64) (brn (inB x0.1.1 64) (.again (((I.add x0.1.1 (I.of .i64 1)),()),(x0.2.1,(x0.2.2.1,(x0.2.2.2.1,(x0.2.2.2.2.1,(((I.add (I.add (I.add (I.add (I.add (I.add x0.2.2.2.2.2.1.2.2.2.2.2.2.2.1 (I.xor (I.xor y1.1.1 y2.1.1) y3.1.1)) (I.xor (I.and x0.2.2.2.2.2.1.2.2.2.2.1 x0.2.2.2.2.2.1.2.2.2.2.2.1) (I.and (I.com x0.2.2.2.2.2.1.2.2.2.2.1) x0.2.2.2.2.2.1.2.2.2.2.2.2.1))) (@Arr.sel (I .u32) (I.of .u32 0) 64 x0.2.2.2.1 (I.nat x0.1.1))) (@Arr.sel (I .u32) (I.of .u32 0) 64 x0.2.2.1 (I.nat x0.1.1))) (I.xor (I.xor y4.1.1 y5.1.1) y6.1.1)) (I.xor (I.xor (I.and x0.2.2.2.2.2.1.1 x0.2.2.2.2.2.1.2.1) (I.and x0.2.2.2.2.2.1.1 x0.2.2.2.2.2.1.2.2.1)) (I.and x0.2.2.2.2.2.1.2.1 x0.2.2.2.2.2.1.2.2.1))),(x0.2.2.2.2.2.1.1,(x0.2.2.2.2.2.1.2.1,(x0.2.2.2.2.2.1.2.2.1,((I.add x0.2.2.2.2.2.1.2.2.2.1 (I.add (I.add (I.add (I.add x0.2.2.2.2.2.1.2.2.2.2.2.2.2.1 (I.xor (I.xor y1.1.1 y2.1.1) y3.1.1)) (I.xor (I.and x0.2.2.2.2.2.1.2.2.2.2.1 x0.2.2.2.2.2.1.2.2.2.2.2.1) (I.and (I.com x0.2.2.2.2.2.1.2.2.2.2.1) x0.2.2.2.2.2.1.2.2.2.2.2.2.1))) (@Arr.sel (I .u32) (I.of .u32 0) 64 x0.2.2.2.1 (I.nat x0.1.1))) (@Arr.sel (I .u32) (I.of .u32 0) 64 x0.2.2.1 (I.nat x0.1.1)))),(x0.2.2.2.2.2.1.2.2.2.2.1,(x0.2.2.2.2.2.1.2.2.2.2.2.1,(x0.2.2.2.2.2.1.2.2.2.2.2.2.1,())))))))),()))))))) (.done none)) (.done none)) (.done (iter none (fun x1=>brn (I.ltb x1.1.1 (I.of .i64 8)) (brn (inB x1.1.1 8) (brn (inB x1.1.1 8) (brn (inB x1.1.1 8) (.again (((I.add x1.1.1 (I.of .i64 1)),()),(x1.2.1,(x1.2.2.1,((@Arr.upd (I .u32) 8 x1.2.2.2.1 (I.nat x1.1.1) (I.add (@Arr.sel (I .u32) (I.of .u32 0) 8 x1.2.2.2.1 (I.nat x1.1.1)) (@Arr.sel (I .u32) (I.of .u32 0) 8 x1.2.1 (I.nat x1.1.1)))),()))))) (.done none)) (.done none)) (.done none)) (.done (some ((x1.2.2.2.1,()),())))) K ((I.of .i64 0,()),(x0.2.1,(x0.2.2.2.2.1,(x0.2.2.2.2.2.1,()))))))) K ((I.of .i64 0,()),(a,(b,(c,(Z_S_A8_intu32,(a,()))))))
def hash_schedule (K:Nat) (x:(⟨[.pl (.sl (.int .u8))],[]⟩:Tm).D):Option (⟨[.pl (.arr 64 (.int .u32))],[]⟩:Tm).D :=
 let a:(List (I .u8)):=x.1.1
 iter none (fun x0=>brn (I.ltb x0.1.2.1 (I.of .i64 16)) (brn (inB (I.mul (I.of .i64 4) x0.1.2.1) (@a1I (I .u8) x0.1.1)) (brn (inB (I.add (I.mul (I.of .i64 4) x0.1.2.1) (I.of .i64 1)) (@a1I (I .u8) x0.1.1)) (brn (inB (I.add (I.mul (I.of .i64 4) x0.1.2.1) (I.of .i64 2)) (@a1I (I .u8) x0.1.1)) (brn (inB (I.add (I.mul (I.of .i64 4) x0.1.2.1) (I.of .i64 3)) (@a1I (I .u8) x0.1.1)) (brn (inB x0.1.2.1 64) (.again ((x0.1.1,((I.add x0.1.2.1 (I.of .i64 1)),())),(x0.2.1,((@Arr.upd (I .u32) 64 x0.2.2.1 (I.nat x0.1.2.1) (I.or (I.or (I.or (I.shl (I.conv (k:=.u8) .u32 (@rdL (I .u8) (I.of .u8 0) x0.1.1 (I.nat (I.mul (I.of .i64 4) x0.1.2.1)))) (I.of .u64 24)) (I.shl (I.conv (k:=.u8) .u32 (@rdL (I .u8) (I.of .u8 0) x0.1.1 (I.nat (I.add (I.mul (I.of .i64 4) x0.1.2.1) (I.of .i64 1))))) (I.of .u64 16))) (I.shl (I.conv (k:=.u8) .u32 (@rdL (I .u8) (I.of .u8 0) x0.1.1 (I.nat (I.add (I.mul (I.of .i64 4) x0.1.2.1) (I.of .i64 2))))) (I.of .u64 8))) (I.conv (k:=.u8) .u32 (@rdL (I .u8) (I.of .u8 0) x0.1.1 (I.nat (I.add (I.mul (I.of .i64 4) x0.1.2.1) (I.of .i64 3))))))),())))) (.done none)) (.done none)) (.done none)) (.done none)) (.done none)) (.done (iter none (fun x1=>brn (I.ltb x1.1.1 (I.of .i64 64)) (brn (inB (I.sub x1.1.1 (I.of .i64 15)) 64) (brn (inB (I.sub x1.1.1 (I.of .i64 2)) 64) (optF (.done none) (math_bits_RotateLeft32 K (((@Arr.sel (I .u32) (I.of .u32 0) 64 x1.2.2.1 (I.nat (I.sub x1.1.1 (I.of .i64 15)))),((I.of .i64 (-7)),())),())) fun y2=>optF (.done none) (math_bits_RotateLeft32 K (((@Arr.sel (I .u32) (I.of .u32 0) 64 x1.2.2.1 (I.nat (I.sub x1.1.1 (I.of .i64 15)))),((I.of .i64 (-18)),())),())) fun y3=>optF (.done none) (math_bits_RotateLeft32 K (((@Arr.sel (I .u32) (I.of .u32 0) 64 x1.2.2.1 (I.nat (I.sub x1.1.1 (I.of .i64 2)))),((I.of .i64 (-17)),())),())) fun y4=>optF (.done none) (math_bits_RotateLeft32 K (((@Arr.sel (I .u32) (I.of .u32 0) 64 x1.2.2.1 (I.nat (I.sub x1.1.1 (I.of .i64 2)))),((I.of .i64 (-19)),())),())) fun y5=>brn (inB (I.sub x1.1.1 (I.of .i64 16)) 64) (brn (inB (I.sub x1.1.1 (I.of .i64 7)) 64) (brn (inB x1.1.1 64) (.again (((I.add x1.1.1 (I.of .i64 1)),()),(x1.2.1,((@Arr.upd (I .u32) 64 x1.2.2.1 (I.nat x1.1.1) (I.add (I.add (I.add (@Arr.sel (I .u32) (I.of .u32 0) 64 x1.2.2.1 (I.nat (I.sub x1.1.1 (I.of .i64 16)))) (I.xor (I.xor y2.1.1 y3.1.1) (I.shr (@Arr.sel (I .u32) (I.of .u32 0) 64 x1.2.2.1 (I.nat (I.sub x1.1.1 (I.of .i64 15)))) (I.of .u64 3)))) (@Arr.sel (I .u32) (I.of .u32 0) 64 x1.2.2.1 (I.nat (I.sub x1.1.1 (I.of .i64 7))))) (I.xor (I.xor y4.1.1 y5.1.1) (I.shr (@Arr.sel (I .u32) (I.of .u32 0) 64 x1.2.2.1 (I.nat (I.sub x1.1.1 (I.of .i64 2)))) (I.of .u64 10))))),())))) (.done none)) (.done none)) (.done none)) (.done none)) (.done none)) (.done (some ((x1.2.2.1,()),())))) K ((I.of .i64 16,()),(x0.2.1,(x0.2.2.1,())))))) K ((a,(I.of .i64 0,())),(Z_S_A64_intu32,(Z_S_A64_intu32,())))
def hash_Sum (K:Nat) (x:(⟨[.pl (.sl (.int .u8))],[]⟩:Tm).D):Option (⟨[.pl (.arr 32 (.int .u8))],[]⟩:Tm).D :=
 let a:(List (I .u8)):=x.1.1
 optF none (slices_Concat___byte_byte_ K (((a::(KS_80::[])),()),())) fun y0=>iter none (fun x1=>brn (I.neb (I.rem (I.ofNat .i64 (@a1I (I .u8) x1.2.2.1)) (I.of .i64 64)) (I.of .i64 56)) (brn (a1Z (@a1I (I .u8) (@appL (I .u8) x1.2.2.1 KS_00))) (.again ((x1.1.1,()),(x1.2.1,((@appL (I .u8) x1.2.2.1 KS_00),())))) (.done none)) (.done (iter none (fun x2=>brn (I.leb (I.of .i64 0) x2.1.2.1) (brn (I.nn (I.mul (I.of .i64 8) x2.1.2.1)) (brn (a1Z (@a1I (I .u8) (@appL (I .u8) x2.2.2.1 ((I.conv (k:=.u64) .u8 (I.shr x2.1.1 (I.mul (I.of .i64 8) x2.1.2.1)))::[])))) (.again ((x2.1.1,((I.sub x2.1.2.1 (I.of .i64 1)),())),(x2.2.1,((@appL (I .u8) x2.2.2.1 ((I.conv (k:=.u64) .u8 (I.shr x2.1.1 (I.mul (I.of .i64 8) x2.1.2.1)))::[])),())))) (.done none)) (.done none)) (.done (optF none (hash_roundConstants K ((),())) fun y3=>iter none (fun x4=>brn (I.ltb x4.1.1 (I.ofNat .i64 (@a1I (I .u8) x4.2.2.1))) (brn (inB' x4.1.1 (I.nat (I.add x4.1.1 (I.of .i64 64)))) (brn (inB' (I.add x4.1.1 (I.of .i64 64)) (@a1I (I .u8) x4.2.2.1)) (optF (.done none) (hash_schedule K (((@subL (I .u8) x4.2.2.1 (I.nat x4.1.1) ((I.nat (I.add x4.1.1 (I.of .i64 64))) - (I.nat x4.1.1))),()),())) fun y5=>optF (.done none) (hash_compress K ((x4.2.2.2.1,(y5.1.1,(x4.2.2.2.2.1,()))),())) fun y6=>.again (((I.add x4.1.1 (I.of .i64 64)),()),(x4.2.1,(x4.2.2.1,(y6.1.1,(x4.2.2.2.2.1,())))))) (.done none)) (.done none)) (.done (iter none (fun x5=>brn (I.ltb x5.1.1 (I.of .i64 32)) (brn (inB (I.quo x5.1.1 (I.of .i64 4)) 8) (brn (I.nn (I.sub (I.of .i64 24) (I.mul (I.of .i64 8) (I.rem x5.1.1 (I.of .i64 4))))) (brn (inB x5.1.1 32) (.again (((I.add x5.1.1 (I.of .i64 1)),()),(x5.2.1,(x5.2.2.1,((@Arr.upd (I .u8) 32 x5.2.2.2.1 (I.nat x5.1.1) (I.conv (k:=.u32) .u8 (I.shr (@Arr.sel (I .u32) (I.of .u32 0) 8 x5.2.2.1 (I.nat (I.quo x5.1.1 (I.of .i64 4)))) (I.sub (I.of .i64 24) (I.mul (I.of .i64 8) (I.rem x5.1.1 (I.of .i64 4))))))),()))))) (.done none)) (.done none)) (.done none)) (.done (some ((x5.2.2.2.1,()),())))) K ((I.of .i64 0,()),(x4.2.1,(x4.2.2.2.1,(Z_S_A32_intu8,()))))))) K ((I.of .i64 0,()),(x2.2.1,(x2.2.2.1,((I.of .u32 1779033703,(I.of .u32 3144134277,(I.of .u32 1013904242,(I.of .u32 2773480762,(I.of .u32 1359893119,(I.of .u32 2600822924,(I.of .u32 528734635,(I.of .u32 1541459225,())))))))),(y3.1.1,())))))))) K ((x1.1.1,(I.of .i64 7,())),(x1.2.1,(x1.2.2.1,())))))) K (((I.mul (I.conv (k:=.i64) .u64 (I.ofNat .i64 (@a1I (I .u8) a))) (I.of .u64 8)),()),(Z_S_A32_intu8,(y0.2.1,())))
def hash_Leaf (K:Nat) (x:(⟨[.pl (.sl (.int .u8))],[]⟩:Tm).D):Option (⟨[.pl (.arr 32 (.int .u8))],[]⟩:Tm).D :=
 let a:(List (I .u8)):=x.1.1
 optF none (slices_Concat___byte_byte_ K (((KS_00::(a::[])),()),())) fun y0=>optF none (hash_Sum K ((y0.2.1,()),())) fun y1=>some ((y1.1.1,()),())
def outbox_Encode (K:Nat) (x:(⟨[.pl a0J],[]⟩:Tm).D):Option (⟨[.pl (.sl (.int .u8))],[]⟩:Tm).D :=
 let a:a0H:=x.1.1
 optF none (wire_AppendUint64 K (([],(a.1,())),())) fun y0=>optF none (wire_AppendUint64 K ((y0.2.1,(a.2.1,())),())) fun y1=>optF none (wire_AppendUint256 K ((y1.2.1,(a.2.2.1,())),())) fun y2=>some ((y2.2.1,()),())
def outbox_Leaf (K:Nat) (x:(⟨[.pl a0J],[]⟩:Tm).D):Option (⟨[.pl (.arr 32 (.int .u8))],[]⟩:Tm).D :=
 let a:a0H:=x.1.1
 optF none (outbox_Encode K ((a,()),())) fun y0=>optF none (hash_Leaf K ((y0.1.1,()),())) fun y1=>some ((y1.1.1,()),())
def merkle_Tree_Append (K:Nat) (x:(⟨[.ptr 0 [],.pl (.arr 32 (.int .u8))],H_merkle_Tree⟩:Tm).D):Option (⟨[.pl (.int .i64)],H_merkle_Tree⟩:Tm).D :=
 let a:a0B:=x.1.1
 let h0:a0W:=x.2.1
 let h1:(List a0B):=x.2.2.1
 brn (a1Z (@a1I a0B (@appL a0B h1 (a::[])))) (some (((I.sub (I.ofNat .i64 (@a1I a0B (@appL a0B h1 (a::[])))) (I.of .i64 1)),()),(h0,((@appL a0B h1 (a::[])),())))) none
def outbox_Outbox_push (K:Nat) (x:(⟨[.ptr 0 [],.pl a0J],a1K⟩:Tm).D):Option (⟨[],a1K⟩:Tm).D :=
 let a:a0H:=x.1.1
 let h0:a0Y:=x.2.1
 let h1:a0W:=x.2.2.1
 let h2:(List a0H):=x.2.2.2.1
 let h3:(List a0B):=x.2.2.2.2.1
 brn (a1Z (@a1I a0H (@appL a0H h2 (a::[])))) (optF none (outbox_Leaf K ((a,()),())) fun y0=>optF none (merkle_Tree_Append K ((y0.1.1,()),(h1,(h3,())))) fun y1=>some ((),(h0,(y1.2.1,((@appL a0H h2 (a::[])),(y1.2.2.1,())))))) none
def outbox_Outbox_Send (K:Nat) (x:(⟨[.ptr 0 [],.pl (.int .u64),.pl a1A],a1K⟩:Tm).D):Option (⟨[.pl a0J,.pl (.int .i64)],a1K⟩:Tm).D :=
 let a:(I .u64):=x.1.1
 let b:U:=x.1.2.1
 let h0:a0Y:=x.2.1
 let h1:a0W:=x.2.2.1
 let h2:(List a0H):=x.2.2.2.1
 let h3:(List a0B):=x.2.2.2.2.1
 jn (fun (x0:(((I .u64) × Unit) × (a0Y × ((List a0H) × (a0W × ((List a0B) × (U × (a0H × Unit))))))))=>optF none (outbox_Outbox_push K ((((I.conv (k:=.i64) .u64 (I.ofNat .i64 (@a1I a0H x0.2.2.1))),(x0.1.1,(x0.2.2.2.2.2.1,()))),()),(x0.2.1,(x0.2.2.2.1,(x0.2.2.1,(x0.2.2.2.2.1,())))))) fun y1=>some ((((I.conv (k:=.i64) .u64 (I.ofNat .i64 (@a1I a0H x0.2.2.1))),(x0.1.1,(x0.2.2.2.2.2.1,()))),(I.of .i64 0,())),y1.2)) fun j0=>brn (I.eqb a (I.of .u64 0)) (some ((a1C,(I.of .i64 2,())),(h0,(h1,(h2,(h3,())))))) (brn (Ty.eqb a1A b Z_U) (some ((a1C,(I.of .i64 2,())),(h0,(h1,(h2,(h3,())))))) (j0 ((a,()),(h0,(h2,(h1,(h3,(b,(a1C,())))))))))
def merkle_splitPoint (K:Nat) (x:(⟨[.pl (.int .i64)],[]⟩:Tm).D):Option (⟨[.pl (.int .i64)],[]⟩:Tm).D :=
 let a:(I .i64):=x.1.1
 iter none (fun x0=>brn (I.ltb x0.1.2.1 (I.sub x0.1.1 x0.1.2.1)) (.again ((x0.1.1,((I.mul x0.1.2.1 (I.of .i64 2)),())),())) (.done (some ((x0.1.2.1,()),())))) K ((a,(I.of .i64 1,())),())
def hash_Node (K:Nat) (x:(⟨[.pl (.arr 32 (.int .u8)),.pl (.arr 32 (.int .u8))],[]⟩:Tm).D):Option (⟨[.pl (.arr 32 (.int .u8))],[]⟩:Tm).D :=
 let a:a0B:=x.1.1
 let b:a0B:=x.1.2.1
 optF none (slices_Concat___byte_byte_ K (((KS_01::((@subL (I .u8) (@Arr.list (I .u8) 32 a) 0 32)::((@subL (I .u8) (@Arr.list (I .u8) 32 b) 0 32)::[]))),()),())) fun y0=>optF none (hash_Sum K ((y0.2.1,()),())) fun y1=>some ((y1.1.1,()),())
def merkle_RootOf_stp (K:Nat) (r0:(⟨[.pl (.sl (.arr 32 (.int .u8)))],[]⟩:Tm).D→Option (⟨[.pl (.arr 32 (.int .u8))],[]⟩:Tm).D) (x:(⟨[.pl (.sl (.arr 32 (.int .u8)))],[]⟩:Tm).D):Option (⟨[.pl (.arr 32 (.int .u8))],[]⟩:Tm).D :=
 let a:(List a0B):=x.1.1
 brn (@I.eqb .i64 (I.ofNat .i64 (@a1I a0B a)) (I.of .i64 0))
 (optF (none) (hash_Sum K (([],()),())) fun y0 =>
 some ((y0.1.1,()),()))
 (brn (@I.eqb .i64 (I.ofNat .i64 (@a1I a0B a)) (I.of .i64 1))
  (brn (@inB .i64 (I.of .i64 0) (@a1I a0B a))
  (some (((@rdL a0B Z_S_A32_intu8 a 0),()),()))
  (none))
  (optF (none) (merkle_splitPoint K (((I.ofNat .i64 (@a1I a0B a)),()),())) fun y0 =>
  brn (@inB' .i64 y0.1.1 (@a1I a0B a))
  (optF (none) (r0 (((@subL a0B a 0 (@I.nat .i64 y0.1.1)),()),())) fun y1 =>
  brn (@inB' .i64 y0.1.1 (@a1I a0B a))
   (optF (none) (r0 (((@subL a0B a (@I.nat .i64 y0.1.1) ((@a1I a0B a) - (@I.nat .i64 y0.1.1))),()),())) fun y2 =>
   optF (none) (hash_Node K ((y1.1.1,(y2.1.1,())),())) fun y3 =>
   some ((y3.1.1,()),()))
   (none))
  (none)))
def merkle_RootOf_rec (K:Nat):Nat→(⟨[.pl (.sl (.arr 32 (.int .u8)))],[]⟩:Tm).D→Option (⟨[.pl (.arr 32 (.int .u8))],[]⟩:Tm).D
 | 0,_=>none
 | k0 + 1,x=>merkle_RootOf_stp K (merkle_RootOf_rec K k0) x
def merkle_RootOf (K:Nat) (x:(⟨[.pl (.sl (.arr 32 (.int .u8)))],[]⟩:Tm).D):Option (⟨[.pl (.arr 32 (.int .u8))],[]⟩:Tm).D:=merkle_RootOf_rec K K x
def merkle_Tree_Root (K:Nat) (x:(⟨[.bp tY0,.pl (.int .i64)],[]⟩:Tm).D):Option (⟨[.pl (.arr 32 (.int .u8)),.pl .bool],[]⟩:Tm).D :=
 let a:((List a0B) × Unit):=x.1.1
 let b:(I .i64):=x.1.2.1
 jn (fun (x0:((((List a0B) × Unit) × ((I .i64) × Unit)) × (a0B × Unit)))=>brn (inB' x0.1.2.1 (@a1I a0B x0.1.1.1)) (optF none (merkle_RootOf K (((@subL a0B x0.1.1.1 0 (I.nat x0.1.2.1)),()),())) fun y1=>some ((y1.1.1,(true,())),())) none) fun j0=>brn (I.ltb b (I.of .i64 0)) (some ((Z_S_A32_intu8,(false,())),())) (brn (I.ltb (I.ofNat .i64 (@a1I a0B a.1)) b) (some ((Z_S_A32_intu8,(false,())),())) (j0 ((a,(b,())),(Z_S_A32_intu8,()))))
def outbox_Outbox_Root (K:Nat) (x:(⟨[.ptr 0 [],.pl (.int .i64)],a1K⟩:Tm).D):Option (⟨[.pl (.arr 32 (.int .u8)),.pl .bool],a1K⟩:Tm).D :=
 let a:(I .i64):=x.1.1
 let h0:a0Y:=x.2.1
 let h1:a0W:=x.2.2.1
 let h2:(List a0H):=x.2.2.2.1
 let h3:(List a0B):=x.2.2.2.2.1
 optF none (merkle_Tree_Root K (((h3,h1.2),(a,())),())) fun y0=>some ((y0.1.1,(y0.1.2.1,())),(h0,(h1,(h2,(h3,())))))
def escrow_Escrow_AppendRoot (K:Nat) (x:(⟨[.ptr 0 [],.pl (.arr 32 (.int .u8))],H_escrow_Escrow⟩:Tm).D):Option (⟨[.pl (.int .i64)],H_escrow_Escrow⟩:Tm).D :=
 let a:a0B:=x.1.1
 let h0:a0U:=x.2.1
 let h1:(List a0B):=x.2.2.1
 let h2:(List Bool):=x.2.2.2.1
 let h3:(List a0D):=x.2.2.2.2.1
 brn (a1Z (@a1I a0B (@appL a0B h1 (a::[])))) (brn (a1Z (@a1I Bool (@appL Bool h2 (false::[])))) (some (((I.ofNat .i64 (@a1I a0B (@appL a0B h1 (a::[])))),()),(h0,((@appL a0B h1 (a::[])),((@appL Bool h2 (false::[])),(h3,())))))) none) none
def executor_Machine_send (K:Nat) (x:(⟨[.ptr 0 [],.pl (.int .u64),.pl a1A],a0F⟩:Tm).D):Option (⟨[.pl a0J],a0F⟩:Tm).D :=
 let a:(I .u64):=x.1.1
 let b:U:=x.1.2.1
 let h0:a1B:=x.2.1
 let h1:a0T:=x.2.2.1
 let h2:a0Y:=x.2.2.2.1
 let h3:a0W:=x.2.2.2.2.1
 let h4:a0U:=x.2.2.2.2.2.1
 let h5:(List a0G):=x.2.2.2.2.2.2.1
 let h6:(List a0H):=x.2.2.2.2.2.2.2.1
 let h7:(List a0B):=x.2.2.2.2.2.2.2.2.1
 let h8:(List a0B):=x.2.2.2.2.2.2.2.2.2.1
 let h9:(List Bool):=x.2.2.2.2.2.2.2.2.2.2.1
 let h10:(List a0D):=x.2.2.2.2.2.2.2.2.2.2.2.1
 optF none (outbox_Outbox_Send K ((a,(b,())),(h2,(h3,(h6,(h7,())))))) fun y0=>optF none (outbox_Outbox_Len K ((),y0.2)) fun y1=>optF none (outbox_Outbox_Root K ((y1.1.1,()),y1.2)) fun y2=>optF none (escrow_Escrow_AppendRoot K ((y2.1.1,()),(h4,(h8,(h9,(h10,())))))) fun y3=>some ((y0.1.1,()),(h0,(h1,(y2.2.1,(y2.2.2.1,(y3.2.1,(h5,(y2.2.2.2.1,(y2.2.2.2.2.1,(y3.2.2.1,(y3.2.2.2.1,(y3.2.2.2.2.1,()))))))))))))
def ledger_Ledger_credit (K:Nat) (x:(⟨[.ptr 0 [],.pl (.int .u64),.pl a1A],a0V⟩:Tm).D):Option (⟨[],a0V⟩:Tm).D :=
 let a:(I .u64):=x.1.1
 let b:U:=x.1.2.1
 let h0:a0T:=x.2.1
 let h1:(List a0G):=x.2.2.1
 optF none (ledger_Ledger_get K (((h1,h0.2),(a,())),())) fun y0=>optF none (a1T K ((y0.1.1.2.1,(b,())),())) fun y1=>optF none (ledger_Ledger_set K (((y0.1.1.1,(y1.1.1,y0.1.1.2.2)),()),(h0,(h1,())))) fun y2=>some ((),(y2.2.1,(y2.2.2.1,())))
def ledger_Ledger_Transfer (K:Nat) (x:(⟨[.ptr 0 [],.pl (.int .u64),.pl (.int .u64),.pl a1A],a0V⟩:Tm).D):Option (⟨[.pl (.int .i64)],a0V⟩:Tm).D :=
 let a:(I .u64):=x.1.1
 let b:(I .u64):=x.1.2.1
 let c:U:=x.1.2.2.1
 let h0:a0T:=x.2.1
 let h1:(List a0G):=x.2.2.1
 jn (fun (x0:(((I .u64) × ((I .u64) × Unit)) × (a0T × ((List a0G) × (U × Unit)))))=>optF none (ledger_Ledger_debit K ((x0.1.1,(x0.2.2.2.1,())),(x0.2.1,(x0.2.2.1,())))) fun y1=>brn (I.neb y1.1.1 (I.of .i64 0)) (some ((y1.1.1,()),(y1.2.1,(y1.2.2.1,())))) (optF none (ledger_Ledger_credit K ((x0.1.2.1,(x0.2.2.2.1,())),(y1.2.1,(y1.2.2.1,())))) fun y2=>some ((I.of .i64 0,()),(y2.2.1,(y2.2.2.1,()))))) fun j0=>brn (I.eqb a (I.of .u64 0)) (some ((I.of .i64 2,()),(h0,(h1,())))) (brn (I.eqb b (I.of .u64 0)) (some ((I.of .i64 2,()),(h0,(h1,())))) (j0 ((a,(b,())),(h0,(h1,(c,()))))))
def ledger_Ledger_Withdraw (K:Nat) (x:(⟨[.ptr 0 [],.pl (.int .u64),.pl a1A],a0V⟩:Tm).D):Option (⟨[.pl (.int .i64)],a0V⟩:Tm).D :=
 let a:(I .u64):=x.1.1
 let b:U:=x.1.2.1
 let h0:a0T:=x.2.1
 let h1:(List a0G):=x.2.2.1
 brn (I.eqb a (I.of .u64 0)) (some ((I.of .i64 2,()),(h0,(h1,())))) (optF none (ledger_Ledger_debit K ((a,(b,())),(h0,(h1,())))) fun y0=>some ((y0.1.1,()),(y0.2.1,(y0.2.2.1,()))))
def executor_Machine_transferValue (K:Nat) (x:(⟨[.ptr 0 [],.pl a1P],a0F⟩:Tm).D):Option (⟨[.pl (.sl a0J)],a0F⟩:Tm).D :=
 let a:S_api_Transaction:=x.1.1
 let h0:a1B:=x.2.1
 let h1:a0T:=x.2.2.1
 let h2:a0Y:=x.2.2.2.1
 let h3:a0W:=x.2.2.2.2.1
 let h4:a0U:=x.2.2.2.2.2.1
 let h5:(List a0G):=x.2.2.2.2.2.2.1
 let h6:(List a0H):=x.2.2.2.2.2.2.2.1
 let h7:(List a0B):=x.2.2.2.2.2.2.2.2.1
 let h8:(List a0B):=x.2.2.2.2.2.2.2.2.2.1
 let h9:(List Bool):=x.2.2.2.2.2.2.2.2.2.2.1
 let h10:(List a0D):=x.2.2.2.2.2.2.2.2.2.2.2.1
 brn (I.neb a.2.2.1 (I.of .u64 18446744073709551615)) (optF none (ledger_Ledger_Transfer K ((a.1,(a.2.2.1,(a.2.2.2.1,()))),(h1,(h5,())))) fun y0=>some (([],()),(h0,(y0.2.1,(h2,(h3,(h4,(y0.2.2.1,(h6,(h7,(h8,(h9,(h10,()))))))))))))) (brn (Ty.eqb a1A a.2.2.2.1 Z_U) (some (([],()),(h0,(h1,(h2,(h3,(h4,(h5,(h6,(h7,(h8,(h9,(h10,()))))))))))))) (optF none (ledger_Ledger_Withdraw K ((a.1,(a.2.2.2.1,())),(h1,(h5,())))) fun y0=>optF none (executor_Machine_send K ((a.1,(a.2.2.2.1,())),(h0,(y0.2.1,(h2,(h3,(h4,(y0.2.2.1,(h6,(h7,(h8,(h9,(h10,()))))))))))))) fun y1=>some (((y1.1.1::[]),()),y1.2)))
def executor_Machine_transaction (K:Nat) (x:(⟨[.ptr 0 [],.pl Y_api_Step],a0F⟩:Tm).D):Option (⟨[.pl a1V,.pl (.int .i64)],a0F⟩:Tm).D :=
 let a:S_api_Step:=x.1.1
 let h0:a1B:=x.2.1
 let h1:a0T:=x.2.2.1
 let h2:a0Y:=x.2.2.2.1
 let h3:a0W:=x.2.2.2.2.1
 let h4:a0U:=x.2.2.2.2.2.1
 let h5:(List a0G):=x.2.2.2.2.2.2.1
 let h6:(List a0H):=x.2.2.2.2.2.2.2.1
 let h7:(List a0B):=x.2.2.2.2.2.2.2.2.1
 let h8:(List a0B):=x.2.2.2.2.2.2.2.2.2.1
 let h9:(List Bool):=x.2.2.2.2.2.2.2.2.2.2.1
 let h10:(List a0D):=x.2.2.2.2.2.2.2.2.2.2.2.1
 optF none (executor_Machine_checkTransaction K ((a.2.1,()),(h0,(h1,(h2,(h3,(h4,(h5,(h6,(h7,(h8,(h9,(h10,()))))))))))))) fun y0=>brn (I.neb y0.1.2.2.1 (I.of .i64 0)) (some (((I.of .i64 0,(I.of .i64 0,(a0R,(Z_U,(Z_U,(I.of .u64 0,(Z_U,(Z_U,([],()))))))))),(y0.1.2.2.1,())),y0.2)) (optF none (pricer_AddUnits K ((y0.2.1.2.2.2.2.1,(y0.1.2.1.1,())),())) fun y1=>brn (I.neb y1.1.2.1 (I.of .i64 0)) (some (((I.of .i64 0,(I.of .i64 0,(a0R,(Z_U,(Z_U,(I.of .u64 0,(Z_U,(Z_U,([],()))))))))),(y1.1.2.1,())),y0.2)) (optF none (block_UseGas K ((y0.2.1.2.2.1,(y0.1.2.1.2.2.2.1,(y0.2.1.2.1,()))),())) fun y2=>brn (I.neb y2.1.2.1 (I.of .i64 0)) (some (((I.of .i64 0,(I.of .i64 0,(a0R,(Z_U,(Z_U,(I.of .u64 0,(Z_U,(Z_U,([],()))))))))),(y2.1.2.1,())),y0.2)) (optF none (ledger_Ledger_PayVault K ((a.2.1.1,(I.of .i64 3,(y0.1.2.1.2.2.2.2.2.2.1,()))),(y0.2.2.1,(y0.2.2.2.2.2.2.1,())))) fun y3=>optF none (ledger_Ledger_PayVault K ((a.2.1.1,(I.of .i64 2,(y0.1.2.1.2.2.2.2.2.2.2.1,()))),(y3.2.1,(y3.2.2.1,())))) fun y4=>optF none (ledger_Ledger_PayVault K ((a.2.1.1,(I.of .i64 1,(y0.1.2.1.2.2.2.2.2.2.2.2.1,()))),(y4.2.1,(y4.2.2.1,())))) fun y5=>optF none (ledger_Ledger_PayVault K ((a.2.1.1,(I.of .i64 4,(y0.1.2.1.2.2.2.2.2.2.2.2.2.1,()))),(y5.2.1,(y5.2.2.1,())))) fun y6=>optF none (ledger_Ledger_IncrementNonce K ((a.2.1.1,()),(y6.2.1,(y6.2.2.1,())))) fun y7=>optF none (backlog_Add K ((y0.2.1.2.2.2.1,(y0.1.2.1.2.2.1,())),())) fun y8=>jn (fun (x9:((Bool × Unit) × (a1B × (a0T × ((List a0G) × (a0Y × ((List a0H) × (a0W × ((List a0B) × (a0U × ((List a0B) × ((List Bool) × ((List a0D) × (((I .i64) × ((I .i64) × (S_api_Charge × (U × (U × ((I .u64) × (U × (U × a0W)))))))) × ((List a0H) × (S_api_Transaction × (((I .i64) × ((I .i64) × (S_api_Charge × (U × (U × ((I .u64) × (U × (U × a0W)))))))) × ((List a0H) × Unit))))))))))))))))))=>brn x9.1.1 (optF none (executor_Machine_transferValue K ((x9.2.2.2.2.2.2.2.2.2.2.2.2.2.2.1,()),(x9.2.1,(x9.2.2.1,(x9.2.2.2.2.1,(x9.2.2.2.2.2.2.1,(x9.2.2.2.2.2.2.2.2.1,(x9.2.2.2.1,(x9.2.2.2.2.2.1,(x9.2.2.2.2.2.2.2.1,(x9.2.2.2.2.2.2.2.2.2.1,(x9.2.2.2.2.2.2.2.2.2.2.1,(x9.2.2.2.2.2.2.2.2.2.2.2.1,()))))))))))))) fun y10=>some (((x9.2.2.2.2.2.2.2.2.2.2.2.2.2.2.2.1.1,(x9.2.2.2.2.2.2.2.2.2.2.2.2.2.2.2.1.2.1,(x9.2.2.2.2.2.2.2.2.2.2.2.2.2.2.2.1.2.2.1,(x9.2.2.2.2.2.2.2.2.2.2.2.2.2.2.2.1.2.2.2.1,(x9.2.2.2.2.2.2.2.2.2.2.2.2.2.2.1.2.2.2.1,(x9.2.2.2.2.2.2.2.2.2.2.2.2.2.2.2.1.2.2.2.2.2.1,(x9.2.2.2.2.2.2.2.2.2.2.2.2.2.2.2.1.2.2.2.2.2.2.1,(x9.2.2.2.2.2.2.2.2.2.2.2.2.2.2.2.1.2.2.2.2.2.2.2.1,(y10.1.1,x9.2.2.2.2.2.2.2.2.2.2.2.2.2.2.2.1.2.2.2.2.2.2.2.2.2))))))))),(I.of .i64 0,())),y10.2)) (some (((x9.2.2.2.2.2.2.2.2.2.2.2.2.2.2.2.1.1,(x9.2.2.2.2.2.2.2.2.2.2.2.2.2.2.2.1.2.1,(x9.2.2.2.2.2.2.2.2.2.2.2.2.2.2.2.1.2.2.1,(x9.2.2.2.2.2.2.2.2.2.2.2.2.2.2.2.1.2.2.2.1,(x9.2.2.2.2.2.2.2.2.2.2.2.2.2.2.2.1.2.2.2.2.1,(x9.2.2.2.2.2.2.2.2.2.2.2.2.2.2.2.1.2.2.2.2.2.1,(x9.2.2.2.2.2.2.2.2.2.2.2.2.2.2.2.1.2.2.2.2.2.2.1,(x9.2.2.2.2.2.2.2.2.2.2.2.2.2.2.2.1.2.2.2.2.2.2.2.1,(x9.2.2.2.2.2.2.2.2.2.2.2.2.2.2.2.2.1,x9.2.2.2.2.2.2.2.2.2.2.2.2.2.2.2.1.2.2.2.2.2.2.2.2.2))))))))),(I.of .i64 0,())),(x9.2.1,(x9.2.2.1,(x9.2.2.2.2.1,(x9.2.2.2.2.2.2.1,(x9.2.2.2.2.2.2.2.2.1,(x9.2.2.2.1,(x9.2.2.2.2.2.1,(x9.2.2.2.2.2.2.2.1,(x9.2.2.2.2.2.2.2.2.2.1,(x9.2.2.2.2.2.2.2.2.2.2.1,(x9.2.2.2.2.2.2.2.2.2.2.2.1,())))))))))))))) fun j9=>brn (bnot y0.1.2.1.2.2.2.2.1) (j9 (((I.neb a.2.1.2.2.1 a.2.1.1),()),((y0.2.1.1,(y0.2.1.2.1,(y2.1.1,(y8.1.1,(y1.1.1,y0.2.1.2.2.2.2.2))))),(y7.2.1,(y7.2.2.1,(y0.2.2.2.1,(y0.2.2.2.2.2.2.2.1,(y0.2.2.2.2.1,(y0.2.2.2.2.2.2.2.2.1,(y0.2.2.2.2.2.1,(y0.2.2.2.2.2.2.2.2.2.1,(y0.2.2.2.2.2.2.2.2.2.2.1,(y0.2.2.2.2.2.2.2.2.2.2.2.1,((I.of .i64 0,(I.of .i64 0,(a0R,(Z_U,(Z_U,(I.of .u64 0,(Z_U,(Z_U,((),()))))))))),([],(a.2.1,((I.of .i64 0,(I.of .i64 0,(y0.1.2.1,(y0.1.1,(Z_U,(I.of .u64 0,(Z_U,(Z_U,((),()))))))))),([],())))))))))))))))))) (j9 ((false,()),((y0.2.1.1,(y0.2.1.2.1,(y2.1.1,(y8.1.1,(y1.1.1,y0.2.1.2.2.2.2.2))))),(y7.2.1,(y7.2.2.1,(y0.2.2.2.1,(y0.2.2.2.2.2.2.2.1,(y0.2.2.2.2.1,(y0.2.2.2.2.2.2.2.2.1,(y0.2.2.2.2.2.1,(y0.2.2.2.2.2.2.2.2.2.1,(y0.2.2.2.2.2.2.2.2.2.2.1,(y0.2.2.2.2.2.2.2.2.2.2.2.1,((I.of .i64 0,(I.of .i64 0,(a0R,(Z_U,(Z_U,(I.of .u64 0,(Z_U,(Z_U,((),()))))))))),([],(a.2.1,((I.of .i64 0,(I.of .i64 0,(y0.1.2.1,(y0.1.1,(Z_U,(I.of .u64 0,(Z_U,(Z_U,((),()))))))))),([],())))))))))))))))))))))
def ledger_Ledger_Vault (K:Nat) (x:(⟨[.bp a1G,.pl (.int .i64)],[]⟩:Tm).D):Option (⟨[.pl a1A],[]⟩:Tm).D :=
 let a:S_ledger_Ledger:=x.1.1
 let b:(I .i64):=x.1.2.1
 optF none (ledger_isVault K ((b,()),())) fun y0=>brn (bnot y0.1.1) (some ((Z_U,()),())) (brn (inB (I.sub b (I.of .i64 1)) 4) (some (((@Arr.sel U Z_U 4 a.2.1 (I.nat (I.sub b (I.of .i64 1)))),()),())) none)
def ledger_Ledger_WithdrawVault (K:Nat) (x:(⟨[.ptr 0 [],.pl (.int .i64),.pl a1A],a0V⟩:Tm).D):Option (⟨[.pl (.int .i64)],a0V⟩:Tm).D :=
 let a:(I .i64):=x.1.1
 let b:U:=x.1.2.1
 let h0:a0T:=x.2.1
 let h1:(List a0G):=x.2.2.1
 optF none (ledger_isVault K ((a,()),())) fun y0=>brn (bnot y0.1.1) (some ((I.of .i64 2,()),(h0,(h1,())))) (brn (inB (I.sub a (I.of .i64 1)) 4) (optF none (uint256_Sub (((@Arr.sel U Z_U 4 h0.2.1 (I.nat (I.sub a (I.of .i64 1)))),(b,())),())) fun y1=>brn (I.neb y1.1.2.1 (I.of .i64 0)) (some ((I.of .i64 10,()),(h0,(h1,())))) (brn (inB (I.sub a (I.of .i64 1)) 4) (some ((I.of .i64 0,()),(((),((@Arr.upd U 4 h0.2.1 (I.nat (I.sub a (I.of .i64 1))) y1.1.1),h0.2.2)),(h1,())))) none)) none)
def executor_Machine_report (K:Nat) (x:(⟨[.ptr 0 [],.pl Y_api_Step],a0F⟩:Tm).D):Option (⟨[.pl a1V,.pl (.int .i64)],a0F⟩:Tm).D :=
 let a:S_api_Step:=x.1.1
 let h0:a1B:=x.2.1
 let h1:a0T:=x.2.2.1
 let h2:a0Y:=x.2.2.2.1
 let h3:a0W:=x.2.2.2.2.1
 let h4:a0U:=x.2.2.2.2.2.1
 let h5:(List a0G):=x.2.2.2.2.2.2.1
 let h6:(List a0H):=x.2.2.2.2.2.2.2.1
 let h7:(List a0B):=x.2.2.2.2.2.2.2.2.1
 let h8:(List a0B):=x.2.2.2.2.2.2.2.2.2.1
 let h9:(List Bool):=x.2.2.2.2.2.2.2.2.2.2.1
 let h10:(List a0D):=x.2.2.2.2.2.2.2.2.2.2.2.1
 optF none (ledger_Ledger_Vault K (((h5,h1.2),(I.of .i64 3,())),())) fun y0=>optF none (pricer_Report K ((h0.2.2.2.2.1,(h0.2.1,(y0.1.1,(a.2.2.1,(h0.2.2.1.2.1,()))))),())) fun y1=>brn (I.neb y1.1.2.2.1 (I.of .i64 0)) (some (((I.of .i64 0,(I.of .i64 0,(a0R,(Z_U,(Z_U,(I.of .u64 0,(Z_U,(Z_U,([],()))))))))),(y1.1.2.2.1,())),(h0,(h1,(h2,(h3,(h4,(h5,(h6,(h7,(h8,(h9,(h10,()))))))))))))) (optF none (payout_Sum K ((y1.1.2.1.2.2.1,()),())) fun y2=>brn (I.neb y2.1.2.1 (I.of .i64 0)) (some (((I.of .i64 0,(I.of .i64 0,(a0R,(Z_U,(Z_U,(I.of .u64 0,(Z_U,(Z_U,([],()))))))))),(y2.1.2.1,())),(h0,(h1,(h2,(h3,(h4,(h5,(h6,(h7,(h8,(h9,(h10,()))))))))))))) (iter none (fun (x3:(((List a0D) × ((I .i64) × ((I .i64) × Unit))) × (a1B × (a0T × ((List a0G) × (a0Y × ((List a0H) × (a0W × ((List a0B) × (a0U × ((List a0B) × ((List Bool) × ((List a0D) × (((I .i64) × ((I .i64) × (S_api_Charge × (U × (U × ((I .u64) × (U × (U × a0W)))))))) × ((List a0H) × (((I .i64) × ((I .i64) × (S_api_Charge × (U × (U × ((I .u64) × (U × (U × a0W)))))))) × ((List a0H) × Unit)))))))))))))))))=>brn (I.ltb x3.1.2.2.1 x3.1.2.1) (brn (inB x3.1.2.2.1 (@a1I a0D x3.1.1)) (optF (.done none) (ledger_Ledger_WithdrawVault K ((I.of .i64 3,((@rdL a0D a1S x3.1.1 (I.nat x3.1.2.2.1)).2.1,())),(x3.2.2.1,(x3.2.2.2.1,())))) fun y4=>optF (.done none) (executor_Machine_send K (((@rdL a0D a1S x3.1.1 (I.nat x3.1.2.2.1)).1,((@rdL a0D a1S x3.1.1 (I.nat x3.1.2.2.1)).2.1,())),(x3.2.1,(y4.2.1,(x3.2.2.2.2.1,(x3.2.2.2.2.2.2.1,(x3.2.2.2.2.2.2.2.2.1,(y4.2.2.1,(x3.2.2.2.2.2.1,(x3.2.2.2.2.2.2.2.1,(x3.2.2.2.2.2.2.2.2.2.1,(x3.2.2.2.2.2.2.2.2.2.2.1,(x3.2.2.2.2.2.2.2.2.2.2.2.1,()))))))))))))) fun y5=>brn (a1Z (@a1I a0H (@appL a0H x3.2.2.2.2.2.2.2.2.2.2.2.2.2.2.2.1 (y5.1.1::[])))) (.again ((x3.1.1,(x3.1.2.1,((I.add x3.1.2.2.1 (I.of .i64 1)),()))),(y5.2.1,(y5.2.2.1,(y5.2.2.2.2.2.2.1,(y5.2.2.2.1,(y5.2.2.2.2.2.2.2.1,(y5.2.2.2.2.1,(y5.2.2.2.2.2.2.2.2.1,(y5.2.2.2.2.2.1,(y5.2.2.2.2.2.2.2.2.2.1,(y5.2.2.2.2.2.2.2.2.2.2.1,(y5.2.2.2.2.2.2.2.2.2.2.2.1,(x3.2.2.2.2.2.2.2.2.2.2.2.2.1,(x3.2.2.2.2.2.2.2.2.2.2.2.2.2.1,(x3.2.2.2.2.2.2.2.2.2.2.2.2.2.2.1,((@appL a0H x3.2.2.2.2.2.2.2.2.2.2.2.2.2.2.2.1 (y5.1.1::[])),()))))))))))))))))) (.done none)) (.done none)) (.done (some (((x3.2.2.2.2.2.2.2.2.2.2.2.2.2.2.1.1,(x3.2.2.2.2.2.2.2.2.2.2.2.2.2.2.1.2.1,(x3.2.2.2.2.2.2.2.2.2.2.2.2.2.2.1.2.2.1,(x3.2.2.2.2.2.2.2.2.2.2.2.2.2.2.1.2.2.2.1,(x3.2.2.2.2.2.2.2.2.2.2.2.2.2.2.1.2.2.2.2.1,(x3.2.2.2.2.2.2.2.2.2.2.2.2.2.2.1.2.2.2.2.2.1,(x3.2.2.2.2.2.2.2.2.2.2.2.2.2.2.1.2.2.2.2.2.2.1,(x3.2.2.2.2.2.2.2.2.2.2.2.2.2.2.1.2.2.2.2.2.2.2.1,(x3.2.2.2.2.2.2.2.2.2.2.2.2.2.2.2.1,x3.2.2.2.2.2.2.2.2.2.2.2.2.2.2.1.2.2.2.2.2.2.2.2.2))))))))),(I.of .i64 0,())),(x3.2.1,(x3.2.2.1,(x3.2.2.2.2.1,(x3.2.2.2.2.2.2.1,(x3.2.2.2.2.2.2.2.2.1,(x3.2.2.2.1,(x3.2.2.2.2.2.1,(x3.2.2.2.2.2.2.2.1,(x3.2.2.2.2.2.2.2.2.2.1,(x3.2.2.2.2.2.2.2.2.2.2.1,(x3.2.2.2.2.2.2.2.2.2.2.2.1,()))))))))))))))) K ((y1.1.2.1.2.2.1,((I.ofNat .i64 (@a1I a0D y1.1.2.1.2.2.1)),(I.of .i64 0,()))),((h0.1,(h0.2.1,(h0.2.2.1,(h0.2.2.2.1,(y1.1.1,h0.2.2.2.2.2))))),(h1,(h5,(h2,(h6,(h3,(h7,(h4,(h8,(h9,(h10,((I.of .i64 0,(I.of .i64 0,(a0R,(Z_U,(Z_U,(I.of .u64 0,(Z_U,(Z_U,((),()))))))))),([],((I.of .i64 0,(I.of .i64 0,(a0R,(Z_U,(Z_U,(y1.1.2.1.1,(y1.1.2.1.2.1,(y2.1.1,((),()))))))))),([],()))))))))))))))))))
def block_Next (K:Nat) (x:(⟨[.pl a1M,.pl (.int .u64),.pl (.int .u64),.pl a0I],[]⟩:Tm).D):Option (⟨[.pl a1M,.pl (.int .i64)],[]⟩:Tm).D :=
 let a:S_api_Block:=x.1.1
 let b:(I .u64):=x.1.2.1
 let c:(I .u64):=x.1.2.2.1
 let d:a1R:=x.1.2.2.2.1
 optF none (add64F ((a.1,(I.of .u64 1,(I.of .u64 0,()))),())) fun y0=>optF none (add64F ((a.2.1,(b,(I.of .u64 0,()))),())) fun y1=>jn (fun (x2:(((I .u64) × ((I .u64) × ((I .u64) × Unit))) × (a1R × (S_api_Block × Unit))))=>optF none (basefee_Fee K ((x2.1.1,(x2.2.1,())),())) fun y3=>brn (I.neb y3.1.2.1 (I.of .i64 0)) (some ((Z_S_api_Block,(y3.1.2.1,())),())) (some (((x2.1.2.1,(x2.1.2.2.1,(I.of .u64 0,(y3.1.1,())))),(I.of .i64 0,())),()))) fun j2=>jn (fun (x3:(((I .u64) × ((I .u64) × ((I .u64) × ((I .u64) × ((I .u64) × (Bool × Unit)))))) × (a1R × (S_api_Block × Unit))))=>brn x3.1.2.2.2.2.2.1 (some ((Z_S_api_Block,(I.of .i64 2,())),())) (optF none (params_Valid K ((x3.2.1,()),())) fun y4=>brn (bnot y4.1.1) (some ((Z_S_api_Block,(I.of .i64 15,())),())) (brn (I.neb x3.1.2.2.1 (I.of .u64 0)) (some ((Z_S_api_Block,(I.of .i64 4,())),())) (brn (I.neb x3.1.2.2.2.2.1 (I.of .u64 0)) (some ((Z_S_api_Block,(I.of .i64 4,())),())) (j2 ((x3.1.1,(x3.1.2.1,(x3.1.2.2.2.1,()))),(x3.2.1,(x3.2.2.1,())))))))) fun j3=>brn (I.ltb b (I.of .u64 1)) (j3 ((c,(y0.1.1,(y0.1.2.1,(y1.1.1,(y1.1.2.1,(true,())))))),(d,(Z_S_api_Block,())))) (j3 ((c,(y0.1.1,(y0.1.2.1,(y1.1.1,(y1.1.2.1,((I.ltb (I.of .u64 1048576) b),())))))),(d,(Z_S_api_Block,()))))
def executor_Machine_tick (K:Nat) (x:(⟨[.ptr 0 [],.pl Y_api_Step],a0F⟩:Tm).D):Option (⟨[.pl a1V,.pl (.int .i64)],a0F⟩:Tm).D :=
 let a:S_api_Step:=x.1.1
 let h0:a1B:=x.2.1
 let h1:a0T:=x.2.2.1
 let h2:a0Y:=x.2.2.2.1
 let h3:a0W:=x.2.2.2.2.1
 let h4:a0U:=x.2.2.2.2.2.1
 let h5:(List a0G):=x.2.2.2.2.2.2.1
 let h6:(List a0H):=x.2.2.2.2.2.2.2.1
 let h7:(List a0B):=x.2.2.2.2.2.2.2.2.1
 let h8:(List a0B):=x.2.2.2.2.2.2.2.2.2.1
 let h9:(List Bool):=x.2.2.2.2.2.2.2.2.2.2.1
 let h10:(List a0D):=x.2.2.2.2.2.2.2.2.2.2.2.1
 optF none (backlog_Drain K ((h0.2.2.2.1,(h0.2.1.1,(a.2.2.2.1,()))),())) fun y0=>optF none (block_Next K ((h0.2.2.1,(a.2.2.2.1,(y0.1.1,(h0.2.1,())))),())) fun y1=>brn (I.neb y1.1.2.1 (I.of .i64 0)) (some (((I.of .i64 0,(I.of .i64 0,(a0R,(Z_U,(Z_U,(I.of .u64 0,(Z_U,(Z_U,([],()))))))))),(y1.1.2.1,())),(h0,(h1,(h2,(h3,(h4,(h5,(h6,(h7,(h8,(h9,(h10,()))))))))))))) (some (((I.of .i64 0,(I.of .i64 0,(a0R,(Z_U,(Z_U,(I.of .u64 0,(Z_U,(Z_U,([],()))))))))),(I.of .i64 0,())),((h0.1,(h0.2.1,(y1.1.1,(y0.1.1,h0.2.2.2.2)))),(h1,(h2,(h3,(h4,(h5,(h6,(h7,(h8,(h9,(h10,())))))))))))))
def brnL {R:Type} (b:I .i64):List (Int × R)→R→R
 | [],d=>d
 | (k,r) :: l,d=>brn (I.eqb b (I.of .i64 k)) r (brnL b l d)
abbrev PmR:Type:=Option ((a1R × ((I .i64) × Unit)) × Unit)
def pmErr (n:Int):PmR:=some ((Z_S_api_Params,(I.of .i64 n,())),())
def pmV (K:Nat) (u:a1R):PmR:=optF none (params_Valid K ((u,()),())) fun y=>brn (bnot y.1.1) (pmErr 15) (some ((u,(I.of .i64 0,())),()))
def pmL (K:Nat) (a:a1R) (r:PmR):PmR:=optF none (params_Valid K ((a,()),())) fun y=>brn (bnot y.1.1) (pmErr 15) r
def pm64 (a:a1R) (c:I .u64):List (Int × a1R):=[(1,(c,a.2)),(2,(a.1,(c,a.2.2))),(3,(a.1,(a.2.1,(c,a.2.2.2)))),(5,(a.1,(a.2.1,(a.2.2.1,(a.2.2.2.1,(c,a.2.2.2.2.2)))))),(7,(a.1,(a.2.1,(a.2.2.1,(a.2.2.2.1,(a.2.2.2.2.1,(a.2.2.2.2.2.1,(c,a.2.2.2.2.2.2.2)))))))),(9,(a.1,(a.2.1,(a.2.2.1,(a.2.2.2.1,(a.2.2.2.2.1,(a.2.2.2.2.2.1,(a.2.2.2.2.2.2.1,(a.2.2.2.2.2.2.2.1,(c,a.2.2.2.2.2.2.2.2.2)))))))))),(10,(a.1,(a.2.1,(a.2.2.1,(a.2.2.2.1,(a.2.2.2.2.1,(a.2.2.2.2.2.1,(a.2.2.2.2.2.2.1,(a.2.2.2.2.2.2.2.1,(a.2.2.2.2.2.2.2.2.1,(c,a.2.2.2.2.2.2.2.2.2.2))))))))))),(11,(a.1,(a.2.1,(a.2.2.1,(a.2.2.2.1,(a.2.2.2.2.1,(a.2.2.2.2.2.1,(a.2.2.2.2.2.2.1,(a.2.2.2.2.2.2.2.1,(a.2.2.2.2.2.2.2.2.1,(a.2.2.2.2.2.2.2.2.2.1,(c,a.2.2.2.2.2.2.2.2.2.2.2)))))))))))),(12,(a.1,(a.2.1,(a.2.2.1,(a.2.2.2.1,(a.2.2.2.2.1,(a.2.2.2.2.2.1,(a.2.2.2.2.2.2.1,(a.2.2.2.2.2.2.2.1,(a.2.2.2.2.2.2.2.2.1,(a.2.2.2.2.2.2.2.2.2.1,(a.2.2.2.2.2.2.2.2.2.2.1,(c,a.2.2.2.2.2.2.2.2.2.2.2.2)))))))))))))]
def pm256 (a:a1R) (c:U):List (Int × a1R):=[(4,(a.1,(a.2.1,(a.2.2.1,(c,a.2.2.2.2))))),(6,(a.1,(a.2.1,(a.2.2.1,(a.2.2.2.1,(a.2.2.2.2.1,(c,a.2.2.2.2.2.2))))))),(8,(a.1,(a.2.1,(a.2.2.1,(a.2.2.2.1,(a.2.2.2.2.1,(a.2.2.2.2.2.1,(a.2.2.2.2.2.2.1,(c,a.2.2.2.2.2.2.2.2)))))))))]
def params_Set (K:Nat) (x:(⟨[.pl a0I,.pl (.int .i64),.pl a1A],[]⟩:Tm).D):Option (⟨[.pl a0I,.pl (.int .i64)],[]⟩:Tm).D :=
 let a:a1R:=x.1.1
 let b:(I .i64):=x.1.2.1
 let c:U:=x.1.2.2.1
 optF none (uint256_Uint64 K ((c,()),())) fun y0=>brnL b ((pm256 a c).map fun g=>(g.1,brnL b ((pm64 a y0.1.1).map fun s=>(s.1,pmL K a (brn (bnot y0.1.2.1) (pmErr 15) (pmV K g.2)))) (pmL K a (pmV K g.2)))) (brnL b ((pm64 a y0.1.1).map fun s=>(s.1,pmL K a (brn (bnot y0.1.2.1) (pmErr 15) (pmV K s.2)))) (pmErr 17))
def executor_Machine_setParam (K:Nat) (x:(⟨[.ptr 0 [],.pl Y_api_Step],a0F⟩:Tm).D):Option (⟨[.pl a1V,.pl (.int .i64)],a0F⟩:Tm).D :=
 let a:S_api_Step:=x.1.1
 let h0:a1B:=x.2.1
 let h1:a0T:=x.2.2.1
 let h2:a0Y:=x.2.2.2.1
 let h3:a0W:=x.2.2.2.2.1
 let h4:a0U:=x.2.2.2.2.2.1
 let h5:(List a0G):=x.2.2.2.2.2.2.1
 let h6:(List a0H):=x.2.2.2.2.2.2.2.1
 let h7:(List a0B):=x.2.2.2.2.2.2.2.2.1
 let h8:(List a0B):=x.2.2.2.2.2.2.2.2.2.1
 let h9:(List Bool):=x.2.2.2.2.2.2.2.2.2.2.1
 let h10:(List a0D):=x.2.2.2.2.2.2.2.2.2.2.2.1
 optF none (params_Set K ((h0.2.1,(a.2.2.2.2.1,(a.2.2.2.2.2.1,()))),())) fun y0=>brn (I.neb y0.1.2.1 (I.of .i64 0)) (some (((I.of .i64 0,(I.of .i64 0,(a0R,(Z_U,(Z_U,(I.of .u64 0,(Z_U,(Z_U,([],()))))))))),(y0.1.2.1,())),(h0,(h1,(h2,(h3,(h4,(h5,(h6,(h7,(h8,(h9,(h10,()))))))))))))) (some (((I.of .i64 0,(I.of .i64 0,(a0R,(Z_U,(Z_U,(I.of .u64 0,(Z_U,(Z_U,([],()))))))))),(I.of .i64 0,())),((h0.1,(y0.1.1,h0.2.2)),(h1,(h2,(h3,(h4,(h5,(h6,(h7,(h8,(h9,(h10,())))))))))))))
def executor_Machine_addPoster (K:Nat) (x:(⟨[.ptr 0 [],.pl Y_api_Step],a0F⟩:Tm).D):Option (⟨[.pl a1V,.pl (.int .i64)],a0F⟩:Tm).D :=
 let a:S_api_Step:=x.1.1
 let h0:a1B:=x.2.1
 let h1:a0T:=x.2.2.1
 let h2:a0Y:=x.2.2.2.1
 let h3:a0W:=x.2.2.2.2.1
 let h4:a0U:=x.2.2.2.2.2.1
 let h5:(List a0G):=x.2.2.2.2.2.2.1
 let h6:(List a0H):=x.2.2.2.2.2.2.2.1
 let h7:(List a0B):=x.2.2.2.2.2.2.2.2.1
 let h8:(List a0B):=x.2.2.2.2.2.2.2.2.2.1
 let h9:(List Bool):=x.2.2.2.2.2.2.2.2.2.2.1
 let h10:(List a0D):=x.2.2.2.2.2.2.2.2.2.2.2.1
 optF none (pricer_AddPoster K ((h0.2.2.2.2.1,(a.2.2.2.2.2.2.1,())),())) fun y0=>brn (I.neb y0.1.2.1 (I.of .i64 0)) (some (((I.of .i64 0,(I.of .i64 0,(a0R,(Z_U,(Z_U,(I.of .u64 0,(Z_U,(Z_U,([],()))))))))),(y0.1.2.1,())),(h0,(h1,(h2,(h3,(h4,(h5,(h6,(h7,(h8,(h9,(h10,()))))))))))))) (some (((I.of .i64 0,(I.of .i64 0,(a0R,(Z_U,(Z_U,(I.of .u64 0,(Z_U,(Z_U,([],()))))))))),(I.of .i64 0,())),((h0.1,(h0.2.1,(h0.2.2.1,(h0.2.2.2.1,(y0.1.1,h0.2.2.2.2.2))))),(h1,(h2,(h3,(h4,(h5,(h6,(h7,(h8,(h9,(h10,())))))))))))))
def ledger_Ledger_Supply (K:Nat) (x:(⟨[.bp a1G],[]⟩:Tm).D):Option (⟨[.pl a1A],[]⟩:Tm).D :=
 let a:S_ledger_Ledger:=x.1.1
 iter none (fun x0=>brn (I.ltb x0.1.2.2.2.1 x0.1.2.2.1) (brn (inB x0.1.2.2.2.1 (@a1I a0G x0.1.2.1)) (optF (.done none) (a1T K ((x0.2.2.1,((@rdL a0G Z_S_api_Account x0.1.2.1 (I.nat x0.1.2.2.2.1)).2.1,())),())) fun y1=>.again ((x0.1.1,(x0.1.2.1,(x0.1.2.2.1,((I.add x0.1.2.2.2.1 (I.of .i64 1)),())))),(x0.2.1,(y1.1.1,())))) (.done none)) (.done (iter none (fun x1=>brn (I.ltb x1.1.2.1 (I.of .i64 4)) (brn (inB x1.1.2.1 4) (optF (.done none) (a1T K ((x1.2.2.1,((@Arr.sel U Z_U 4 x1.1.1 (I.nat x1.1.2.1)),())),())) fun y2=>.again ((x1.1.1,((I.add x1.1.2.1 (I.of .i64 1)),())),(x1.2.1,(y2.1.1,())))) (.done none)) (.done (some ((x1.2.2.1,()),())))) K ((x0.1.1.2.1,(I.of .i64 0,())),(x0.2.1,(x0.2.2.1,())))))) K ((a,(a.1,((I.ofNat .i64 (@a1I a0G a.1)),(I.of .i64 0,())))),(Z_U,(Z_U,())))
def escrow_Escrow_Deposit (K:Nat) (x:(⟨[.ptr 0 [],.pl a1A],H_escrow_Escrow⟩:Tm).D):Option (⟨[.pl (.int .i64)],H_escrow_Escrow⟩:Tm).D :=
 let a:U:=x.1.1
 let h0:a0U:=x.2.1
 let h1:(List a0B):=x.2.2.1
 let h2:(List Bool):=x.2.2.2.1
 let h3:(List a0D):=x.2.2.2.2.1
 brn (Ty.eqb a1A a Z_U) (some ((I.of .i64 2,()),(h0,(h1,(h2,(h3,())))))) (optF none (uint256_Add ((h0.2.2.1,(a,())),())) fun y0=>brn (I.neb y0.1.2.1 (I.of .i64 0)) (some ((y0.1.2.1,()),(h0,(h1,(h2,(h3,())))))) (some ((I.of .i64 0,()),(((),((),(y0.1.1,h0.2.2.2))),(h1,(h2,(h3,())))))))
def ledger_Ledger_Mint (K:Nat) (x:(⟨[.ptr 0 [],.pl (.int .u64),.pl a1A],a0V⟩:Tm).D):Option (⟨[.pl (.int .i64)],a0V⟩:Tm).D :=
 let a:(I .u64):=x.1.1
 let b:U:=x.1.2.1
 let h0:a0T:=x.2.1
 let h1:(List a0G):=x.2.2.1
 brn (I.eqb a (I.of .u64 0)) (some ((I.of .i64 2,()),(h0,(h1,())))) (optF none (ledger_Ledger_Supply K (((h1,h0.2),()),())) fun y0=>optF none (uint256_Add ((y0.1.1,(b,())),())) fun y1=>brn (I.neb y1.1.2.1 (I.of .i64 0)) (some ((y1.1.2.1,()),(h0,(h1,())))) (optF none (ledger_Ledger_credit K ((a,(b,())),(h0,(h1,())))) fun y2=>some ((I.of .i64 0,()),(y2.2.1,(y2.2.2.1,())))))
def executor_Machine_deposit (K:Nat) (x:(⟨[.ptr 0 [],.pl Y_api_Step],a0F⟩:Tm).D):Option (⟨[.pl a1V,.pl (.int .i64)],a0F⟩:Tm).D :=
 let a:S_api_Step:=x.1.1
 let h0:a1B:=x.2.1
 let h1:a0T:=x.2.2.1
 let h2:a0Y:=x.2.2.2.1
 let h3:a0W:=x.2.2.2.2.1
 let h4:a0U:=x.2.2.2.2.2.1
 let h5:(List a0G):=x.2.2.2.2.2.2.1
 let h6:(List a0H):=x.2.2.2.2.2.2.2.1
 let h7:(List a0B):=x.2.2.2.2.2.2.2.2.1
 let h8:(List a0B):=x.2.2.2.2.2.2.2.2.2.1
 let h9:(List Bool):=x.2.2.2.2.2.2.2.2.2.2.1
 let h10:(List a0D):=x.2.2.2.2.2.2.2.2.2.2.2.1
 jn (fun (x0:(Unit × (a1B × (a0T × ((List a0G) × (a0Y × ((List a0H) × (a0W × ((List a0B) × (a0U × ((List a0B) × ((List Bool) × ((List a0D) × (S_api_Step × (((I .i64) × ((I .i64) × (S_api_Charge × (U × (U × ((I .u64) × (U × (U × a0W)))))))) × ((List a0H) × Unit))))))))))))))))=>optF none (escrow_Escrow_Balance K (((x0.2.2.2.2.2.2.2.2.2.1,(x0.2.2.2.2.2.2.2.2.2.2.1,(x0.2.2.2.2.2.2.2.2.1.2.2.1,(x0.2.2.2.2.2.2.2.2.2.2.2.1,x0.2.2.2.2.2.2.2.2.1.2.2.2.2)))),()),())) fun y1=>optF none (uint256_Add ((y1.1.1,(x0.2.2.2.2.2.2.2.2.2.2.2.2.1.2.2.2.2.2.1,())),())) fun y2=>optF none (ledger_Ledger_Supply K (((x0.2.2.2.1,x0.2.2.1.2),()),())) fun y3=>optF none (uint256_Add ((y3.1.1,(x0.2.2.2.2.2.2.2.2.2.2.2.2.1.2.2.2.2.2.1,())),())) fun y4=>jn (fun (x5:(Unit × (a1B × (a0T × ((List a0G) × (a0Y × ((List a0H) × (a0W × ((List a0B) × (a0U × ((List a0B) × ((List Bool) × ((List a0D) × (S_api_Step × (((I .i64) × ((I .i64) × (S_api_Charge × (U × (U × ((I .u64) × (U × (U × a0W)))))))) × ((List a0H) × Unit))))))))))))))))=>optF none (escrow_Escrow_Deposit K ((x5.2.2.2.2.2.2.2.2.2.2.2.2.1.2.2.2.2.2.1,()),(x5.2.2.2.2.2.2.2.2.1,(x5.2.2.2.2.2.2.2.2.2.1,(x5.2.2.2.2.2.2.2.2.2.2.1,(x5.2.2.2.2.2.2.2.2.2.2.2.1,())))))) fun y6=>optF none (ledger_Ledger_Mint K ((x5.2.2.2.2.2.2.2.2.2.2.2.2.1.2.2.2.2.2.2.1,(x5.2.2.2.2.2.2.2.2.2.2.2.2.1.2.2.2.2.2.1,())),(x5.2.2.1,(x5.2.2.2.1,())))) fun y7=>some (((I.of .i64 0,(I.of .i64 0,(a0R,(Z_U,(Z_U,(I.of .u64 0,(Z_U,(Z_U,([],()))))))))),(I.of .i64 0,())),(x5.2.1,(y7.2.1,(x5.2.2.2.2.1,(x5.2.2.2.2.2.2.1,(y6.2.1,(y7.2.2.1,(x5.2.2.2.2.2.1,(x5.2.2.2.2.2.2.2.1,(y6.2.2.1,(y6.2.2.2.1,(y6.2.2.2.2.1,()))))))))))))) fun j5=>brn (I.neb y2.1.2.1 (I.of .i64 0)) (some (((I.of .i64 0,(I.of .i64 0,(a0R,(Z_U,(Z_U,(I.of .u64 0,(Z_U,(Z_U,([],()))))))))),(I.of .i64 4,())),(x0.2.1,(x0.2.2.1,(x0.2.2.2.2.1,(x0.2.2.2.2.2.2.1,(x0.2.2.2.2.2.2.2.2.1,(x0.2.2.2.1,(x0.2.2.2.2.2.1,(x0.2.2.2.2.2.2.2.1,(x0.2.2.2.2.2.2.2.2.2.1,(x0.2.2.2.2.2.2.2.2.2.2.1,(x0.2.2.2.2.2.2.2.2.2.2.2.1,()))))))))))))) (brn (I.neb y4.1.2.1 (I.of .i64 0)) (some (((I.of .i64 0,(I.of .i64 0,(a0R,(Z_U,(Z_U,(I.of .u64 0,(Z_U,(Z_U,([],()))))))))),(I.of .i64 4,())),(x0.2.1,(x0.2.2.1,(x0.2.2.2.2.1,(x0.2.2.2.2.2.2.1,(x0.2.2.2.2.2.2.2.2.1,(x0.2.2.2.1,(x0.2.2.2.2.2.1,(x0.2.2.2.2.2.2.2.1,(x0.2.2.2.2.2.2.2.2.2.1,(x0.2.2.2.2.2.2.2.2.2.2.1,(x0.2.2.2.2.2.2.2.2.2.2.2.1,()))))))))))))) (j5 ((),(x0.2.1,(x0.2.2.1,(x0.2.2.2.1,(x0.2.2.2.2.1,(x0.2.2.2.2.2.1,(x0.2.2.2.2.2.2.1,(x0.2.2.2.2.2.2.2.1,(x0.2.2.2.2.2.2.2.2.1,(x0.2.2.2.2.2.2.2.2.2.1,(x0.2.2.2.2.2.2.2.2.2.2.1,(x0.2.2.2.2.2.2.2.2.2.2.2.1,(x0.2.2.2.2.2.2.2.2.2.2.2.2.1,(x0.2.2.2.2.2.2.2.2.2.2.2.2.2.1,(x0.2.2.2.2.2.2.2.2.2.2.2.2.2.2.1,())))))))))))))))))) fun j0=>brn (I.eqb a.2.2.2.2.2.2.1 (I.of .u64 0)) (some (((I.of .i64 0,(I.of .i64 0,(a0R,(Z_U,(Z_U,(I.of .u64 0,(Z_U,(Z_U,([],()))))))))),(I.of .i64 2,())),(h0,(h1,(h2,(h3,(h4,(h5,(h6,(h7,(h8,(h9,(h10,()))))))))))))) (brn (I.eqb a.2.2.2.2.2.2.1 (I.of .u64 18446744073709551615)) (some (((I.of .i64 0,(I.of .i64 0,(a0R,(Z_U,(Z_U,(I.of .u64 0,(Z_U,(Z_U,([],()))))))))),(I.of .i64 2,())),(h0,(h1,(h2,(h3,(h4,(h5,(h6,(h7,(h8,(h9,(h10,()))))))))))))) (brn (Ty.eqb a1A a.2.2.2.2.2.1 Z_U) (some (((I.of .i64 0,(I.of .i64 0,(a0R,(Z_U,(Z_U,(I.of .u64 0,(Z_U,(Z_U,([],()))))))))),(I.of .i64 2,())),(h0,(h1,(h2,(h3,(h4,(h5,(h6,(h7,(h8,(h9,(h10,()))))))))))))) (j0 ((),(h0,(h1,(h5,(h2,(h6,(h3,(h7,(h4,(h8,(h9,(h10,(a,((I.of .i64 0,(I.of .i64 0,(a0R,(Z_U,(Z_U,(I.of .u64 0,(Z_U,(Z_U,((),()))))))))),([],()))))))))))))))))))
def merkle_rootFrom_stp (K:Nat) (r0:(⟨[.pl (.int .i64),.pl (.int .i64),.pl (.arr 32 (.int .u8)),.pl (.sl (.arr 32 (.int .u8)))],[]⟩:Tm).D→Option (⟨[.pl (.arr 32 (.int .u8)),.pl .bool],[]⟩:Tm).D) (x:(⟨[.pl (.int .i64),.pl (.int .i64),.pl (.arr 32 (.int .u8)),.pl (.sl (.arr 32 (.int .u8)))],[]⟩:Tm).D):Option (⟨[.pl (.arr 32 (.int .u8)),.pl .bool],[]⟩:Tm).D :=
 let a:(I .i64):=x.1.1
 let b:(I .i64):=x.1.2.1
 let c:a0B:=x.1.2.2.1
 let d:(List a0B):=x.1.2.2.2.1
 brn (@I.eqb .i64 a (I.of .i64 1))
 (some ((c,((@I.eqb .i64 (I.ofNat .i64 (@a1I a0B d)) (I.of .i64 0)),())),()))
 (brn (@I.eqb .i64 (I.ofNat .i64 (@a1I a0B d)) (I.of .i64 0))
  (some ((Z_S_A32_intu8,(false,())),()))
  (optF (none) (merkle_splitPoint K ((a,()),())) fun y0 =>
  brn (@inB .i64 (@I.sub .i64 (I.ofNat .i64 (@a1I a0B d)) (I.of .i64 1)) (@a1I a0B d))
  (brn (@inB' .i64 (@I.sub .i64 (I.ofNat .i64 (@a1I a0B d)) (I.of .i64 1)) (@a1I a0B d))
   (brn (@I.ltb .i64 b y0.1.1)
   (optF (none) (r0 ((y0.1.1,(b,(c,((@subL a0B d 0 (@I.nat .i64 (@I.sub .i64 (I.ofNat .i64 (@a1I a0B d)) (I.of .i64 1)))),())))),())) fun y1 =>
   optF (none) (hash_Node K ((y1.1.1,((@rdL a0B Z_S_A32_intu8 d (@I.nat .i64 (@I.sub .i64 (I.ofNat .i64 (@a1I a0B d)) (I.of .i64 1)))),())),())) fun y2 =>
   some ((y2.1.1,(y1.1.2.1,())),()))
   (optF (none) (r0 (((@I.sub .i64 a y0.1.1),((@I.sub .i64 b y0.1.1),(c,((@subL a0B d 0 (@I.nat .i64 (@I.sub .i64 (I.ofNat .i64 (@a1I a0B d)) (I.of .i64 1)))),())))),())) fun y1 =>
   optF (none) (hash_Node K (((@rdL a0B Z_S_A32_intu8 d (@I.nat .i64 (@I.sub .i64 (I.ofNat .i64 (@a1I a0B d)) (I.of .i64 1)))),(y1.1.1,())),())) fun y2 =>
   some ((y2.1.1,(y1.1.2.1,())),())))
   (none))
  (none)))
def merkle_rootFrom_rec (K:Nat):Nat→(⟨[.pl (.int .i64),.pl (.int .i64),.pl (.arr 32 (.int .u8)),.pl (.sl (.arr 32 (.int .u8)))],[]⟩:Tm).D→Option (⟨[.pl (.arr 32 (.int .u8)),.pl .bool],[]⟩:Tm).D
 | 0,_=>none
 | k0 + 1,x=>merkle_rootFrom_stp K (merkle_rootFrom_rec K k0) x
def merkle_rootFrom (K:Nat) (x:(⟨[.pl (.int .i64),.pl (.int .i64),.pl (.arr 32 (.int .u8)),.pl (.sl (.arr 32 (.int .u8)))],[]⟩:Tm).D):Option (⟨[.pl (.arr 32 (.int .u8)),.pl .bool],[]⟩:Tm).D:=merkle_rootFrom_rec K K x
def merkle_Verify (K:Nat) (x:(⟨[.pl (.arr 32 (.int .u8)),.pl (.int .i64),.pl (.int .i64),.pl (.arr 32 (.int .u8)),.pl (.sl (.arr 32 (.int .u8)))],[]⟩:Tm).D):Option (⟨[.pl .bool],[]⟩:Tm).D :=
 let a:a0B:=x.1.1
 let b:(I .i64):=x.1.2.1
 let c:(I .i64):=x.1.2.2.1
 let d:a0B:=x.1.2.2.2.1
 let e:(List a0B):=x.1.2.2.2.2.1
 jn (fun (x0:(((I .i64) × ((I .i64) × ((List a0B) × Unit))) × (a0B × (a0B × Unit))))=>optF none (merkle_rootFrom K ((x0.1.1,(x0.1.2.1,(x0.2.2.1,(x0.1.2.2.1,())))),())) fun y1=>brn y1.1.2.1 (some (((Ty.eqb (.arr 32 (.int .u8)) y1.1.1 x0.2.1),()),())) (some ((false,()),()))) fun j0=>brn (I.ltb c (I.of .i64 0)) (some ((false,()),())) (brn (I.leb b c) (some ((false,()),())) (j0 ((b,(c,(e,()))),(a,(d,())))))
def escrow_Escrow_checkClaim (K:Nat) (x:(⟨[.ptr 0 [],.pl Y_api_Claim],H_escrow_Escrow⟩:Tm).D):Option (⟨[.pl (.int .i64)],H_escrow_Escrow⟩:Tm).D :=
 let a:S_api_Claim:=x.1.1
 let h0:a0U:=x.2.1
 let h1:(List a0B):=x.2.2.1
 let h2:(List Bool):=x.2.2.2.1
 let h3:(List a0D):=x.2.2.2.2.1
 jn (fun (x0:(Unit × (a0U × ((List a0B) × ((List Bool) × ((List a0D) × (S_api_Claim × Unit)))))))=>optF none (outbox_Leaf K (((x0.2.2.2.2.2.1.1,(x0.2.2.2.2.2.1.2.2.1,(x0.2.2.2.2.2.1.2.2.2.1,()))),()),())) fun y1=>brn (inB (I.sub x0.2.2.2.2.2.1.2.1 (I.of .u64 1)) (@a1I a0B x0.2.2.1)) (optF none (merkle_Verify K (((@rdL a0B Z_S_A32_intu8 x0.2.2.1 (I.nat (I.sub x0.2.2.2.2.2.1.2.1 (I.of .u64 1)))),((I.conv (k:=.u64) .i64 x0.2.2.2.2.2.1.2.1),((I.conv (k:=.u64) .i64 x0.2.2.2.2.2.1.1),(y1.1.1,(x0.2.2.2.2.2.1.2.2.2.2.1,()))))),())) fun y2=>brn (bnot y2.1.1) (some ((I.of .i64 16,()),(x0.2.1,(x0.2.2.1,(x0.2.2.2.1,(x0.2.2.2.2.1,())))))) (some ((I.of .i64 0,()),(x0.2.1,(x0.2.2.1,(x0.2.2.2.1,(x0.2.2.2.2.1,()))))))) none) fun j0=>jn (fun (x1:((Bool × Unit) × (a0U × ((List a0B) × ((List Bool) × ((List a0D) × (S_api_Claim × Unit)))))))=>brn x1.1.1 (some ((I.of .i64 2,()),(x1.2.1,(x1.2.2.1,(x1.2.2.2.1,(x1.2.2.2.2.1,())))))) (jn (fun (x2:((Bool × Unit) × (a0U × ((List a0B) × ((List Bool) × ((List a0D) × (S_api_Claim × Unit)))))))=>brn x2.1.1 (some ((I.of .i64 8,()),(x2.2.1,(x2.2.2.1,(x2.2.2.2.1,(x2.2.2.2.2.1,())))))) (brn (inB x2.2.2.2.2.2.1.1 (@a1I Bool x2.2.2.2.1)) (brn (@rdL Bool false x2.2.2.2.1 (I.nat x2.2.2.2.2.2.1.1)) (some ((I.of .i64 9,()),(x2.2.1,(x2.2.2.1,(x2.2.2.2.1,(x2.2.2.2.2.1,())))))) (j0 ((),(x2.2.1,(x2.2.2.1,(x2.2.2.2.1,(x2.2.2.2.2.1,(x2.2.2.2.2.2.1,())))))))) none)) fun j2=>brn (I.ltb x1.2.2.2.2.2.1.2.1 (I.of .u64 1)) (j2 ((true,()),(x1.2.1,(x1.2.2.1,(x1.2.2.2.1,(x1.2.2.2.2.1,(x1.2.2.2.2.2.1,()))))))) (brn (I.ltb (I.conv (k:=.i64) .u64 (I.ofNat .i64 (@a1I a0B x1.2.2.1))) x1.2.2.2.2.2.1.2.1) (j2 ((true,()),(x1.2.1,(x1.2.2.1,(x1.2.2.2.1,(x1.2.2.2.2.1,(x1.2.2.2.2.2.1,()))))))) (j2 (((I.leb x1.2.2.2.2.2.1.2.1 x1.2.2.2.2.2.1.1),()),(x1.2.1,(x1.2.2.1,(x1.2.2.2.1,(x1.2.2.2.2.1,(x1.2.2.2.2.2.1,())))))))))) fun j1=>brn (I.eqb a.2.2.1 (I.of .u64 0)) (j1 ((true,()),(h0,(h1,(h2,(h3,(a,()))))))) (brn (Ty.eqb a1A a.2.2.2.1 Z_U) (j1 ((true,()),(h0,(h1,(h2,(h3,(a,()))))))) (j1 (((I.ltb (I.of .i64 64) (I.ofNat .i64 (@a1I a0B a.2.2.2.2.1))),()),(h0,(h1,(h2,(h3,(a,()))))))))
def escrow_Escrow_find (K:Nat) (x:(⟨[.bp a1F,.pl (.int .u64)],[]⟩:Tm).D):Option (⟨[.pl (.int .i64),.pl .bool],[]⟩:Tm).D :=
 let a:S_escrow_Escrow:=x.1.1
 let b:(I .u64):=x.1.2.1
 iter none (fun x0=>brn (I.ltb x0.1.2.2.2.1 x0.1.2.2.2.2.1) (brn (inB (I.conv (k:=.u64) .i64 (I.shr (I.conv (k:=.i64) .u64 (I.add x0.1.2.2.2.1 x0.1.2.2.2.2.1)) (I.of .u64 1))) (@a1I a0D x0.1.1)) (brn (I.neb (@rdL a0D a1S x0.1.1 (I.nat (I.conv (k:=.u64) .i64 (I.shr (I.conv (k:=.i64) .u64 (I.add x0.1.2.2.2.1 x0.1.2.2.2.2.1)) (I.of .u64 1))))).1 (@rdL a0D a1S x0.1.1 (I.nat (I.conv (k:=.u64) .i64 (I.shr (I.conv (k:=.i64) .u64 (I.add x0.1.2.2.2.1 x0.1.2.2.2.2.1)) (I.of .u64 1))))).1) (brn (I.neb x0.1.2.1 x0.1.2.1) (.again ((x0.1.1,(x0.1.2.1,(x0.1.2.2.1,(x0.1.2.2.2.1,((I.conv (k:=.u64) .i64 (I.shr (I.conv (k:=.i64) .u64 (I.add x0.1.2.2.2.1 x0.1.2.2.2.2.1)) (I.of .u64 1))),()))))),())) (.again ((x0.1.1,(x0.1.2.1,(x0.1.2.2.1,((I.add (I.conv (k:=.u64) .i64 (I.shr (I.conv (k:=.i64) .u64 (I.add x0.1.2.2.2.1 x0.1.2.2.2.2.1)) (I.of .u64 1))) (I.of .i64 1)),(x0.1.2.2.2.2.1,()))))),()))) (brn (I.neb x0.1.2.1 x0.1.2.1) (.again ((x0.1.1,(x0.1.2.1,(x0.1.2.2.1,(x0.1.2.2.2.1,((I.conv (k:=.u64) .i64 (I.shr (I.conv (k:=.i64) .u64 (I.add x0.1.2.2.2.1 x0.1.2.2.2.2.1)) (I.of .u64 1))),()))))),())) (brn (I.ltb (@rdL a0D a1S x0.1.1 (I.nat (I.conv (k:=.u64) .i64 (I.shr (I.conv (k:=.i64) .u64 (I.add x0.1.2.2.2.1 x0.1.2.2.2.2.1)) (I.of .u64 1))))).1 x0.1.2.1) (.again ((x0.1.1,(x0.1.2.1,(x0.1.2.2.1,((I.add (I.conv (k:=.u64) .i64 (I.shr (I.conv (k:=.i64) .u64 (I.add x0.1.2.2.2.1 x0.1.2.2.2.2.1)) (I.of .u64 1))) (I.of .i64 1)),(x0.1.2.2.2.2.1,()))))),())) (brn (I.ltb x0.1.2.1 (@rdL a0D a1S x0.1.1 (I.nat (I.conv (k:=.u64) .i64 (I.shr (I.conv (k:=.i64) .u64 (I.add x0.1.2.2.2.1 x0.1.2.2.2.2.1)) (I.of .u64 1))))).1) (.again ((x0.1.1,(x0.1.2.1,(x0.1.2.2.1,(x0.1.2.2.2.1,((I.conv (k:=.u64) .i64 (I.shr (I.conv (k:=.i64) .u64 (I.add x0.1.2.2.2.1 x0.1.2.2.2.2.1)) (I.of .u64 1))),()))))),())) (.again ((x0.1.1,(x0.1.2.1,(x0.1.2.2.1,(x0.1.2.2.2.1,((I.conv (k:=.u64) .i64 (I.shr (I.conv (k:=.i64) .u64 (I.add x0.1.2.2.2.1 x0.1.2.2.2.2.1)) (I.of .u64 1))),()))))),())))))) (.done none)) (.done (brn (I.ltb x0.1.2.2.2.1 x0.1.2.2.1) (brn (inB x0.1.2.2.2.1 (@a1I a0D x0.1.1)) (brn (I.neb (@rdL a0D a1S x0.1.1 (I.nat x0.1.2.2.2.1)).1 (@rdL a0D a1S x0.1.1 (I.nat x0.1.2.2.2.1)).1) (brn (I.neb x0.1.2.1 x0.1.2.1) (some ((x0.1.2.2.2.1,(true,())),())) (some ((x0.1.2.2.2.1,(false,())),()))) (brn (I.neb x0.1.2.1 x0.1.2.1) (some ((x0.1.2.2.2.1,(false,())),())) (brn (I.ltb (@rdL a0D a1S x0.1.1 (I.nat x0.1.2.2.2.1)).1 x0.1.2.1) (some ((x0.1.2.2.2.1,(false,())),())) (brn (I.ltb x0.1.2.1 (@rdL a0D a1S x0.1.1 (I.nat x0.1.2.2.2.1)).1) (some ((x0.1.2.2.2.1,(false,())),())) (some ((x0.1.2.2.2.1,(true,())),())))))) none) (some ((x0.1.2.2.2.1,(false,())),()))))) K ((a.2.2.2.1,(b,((I.ofNat .i64 (@a1I a0D a.2.2.2.1)),(I.of .i64 0,((I.ofNat .i64 (@a1I a0D a.2.2.2.1)),()))))),())
def escrow_Escrow_L1Balance (K:Nat) (x:(⟨[.bp a1F,.pl (.int .u64)],[]⟩:Tm).D):Option (⟨[.pl a1A],[]⟩:Tm).D :=
 let a:S_escrow_Escrow:=x.1.1
 let b:(I .u64):=x.1.2.1
 optF none (escrow_Escrow_find K ((a,(b,())),())) fun y0=>brn y0.1.2.1 (brn (inB y0.1.1 (@a1I a0D a.2.2.2.1)) (some (((@rdL a0D a1S a.2.2.2.1 (I.nat y0.1.1)).2.1,()),())) none) (some ((Z_U,()),()))
def escrow_Escrow_Claim (K:Nat) (x:(⟨[.ptr 0 [],.pl Y_api_Claim],H_escrow_Escrow⟩:Tm).D):Option (⟨[.pl (.int .i64)],H_escrow_Escrow⟩:Tm).D :=
 let a:S_api_Claim:=x.1.1
 let h0:a0U:=x.2.1
 let h1:(List a0B):=x.2.2.1
 let h2:(List Bool):=x.2.2.2.1
 let h3:(List a0D):=x.2.2.2.2.1
 optF none (escrow_Escrow_checkClaim K ((a,()),(h0,(h1,(h2,(h3,())))))) fun y0=>brn (I.neb y0.1.1 (I.of .i64 0)) (some ((y0.1.1,()),y0.2)) (optF none (uint256_Sub ((y0.2.1.2.2.1,(a.2.2.2.1,())),())) fun y1=>brn (I.neb y1.1.2.1 (I.of .i64 0)) (some ((I.of .i64 10,()),y0.2)) (optF none (escrow_Escrow_L1Balance K (((y0.2.2.1,(y0.2.2.2.1,(y0.2.1.2.2.1,(y0.2.2.2.2.1,y0.2.1.2.2.2.2)))),(a.2.2.1,())),())) fun y2=>optF none (uint256_Add ((y2.1.1,(a.2.2.2.1,())),())) fun y3=>brn (I.neb y3.1.2.1 (I.of .i64 0)) (some ((y3.1.2.1,()),y0.2)) (brn (inB a.1 (@a1I Bool y0.2.2.2.1)) (optF none (escrow_Escrow_find K (((y0.2.2.1,((@setL Bool y0.2.2.2.1 (I.nat a.1) true),(y1.1.1,(y0.2.2.2.2.1,y0.2.1.2.2.2.2)))),(a.2.2.1,())),())) fun y4=>brn y4.1.2.1 (brn (inB y4.1.1 (@a1I a0D y0.2.2.2.2.1)) (some ((I.of .i64 0,()),(((),((),(y1.1.1,y0.2.1.2.2.2))),(y0.2.2.1,((@setL Bool y0.2.2.2.1 (I.nat a.1) true),((@setL a0D y0.2.2.2.2.1 (I.nat y4.1.1) ((@rdL a0D a1S y0.2.2.2.2.1 (I.nat y4.1.1)).1,(y3.1.1,(@rdL a0D a1S y0.2.2.2.2.1 (I.nat y4.1.1)).2.2))),())))))) none) (optF none (insF a0P ((y4.1.1,()),(y0.2.2.2.2.1,(((a.2.2.1,(y3.1.1,()))::[]),())))) fun y5=>some ((I.of .i64 0,()),(((),((),(y1.1.1,y0.2.1.2.2.2))),(y0.2.2.1,((@setL Bool y0.2.2.2.1 (I.nat a.1) true),(y5.2.1,()))))))) none)))
def executor_Machine_claim (K:Nat) (x:(⟨[.ptr 0 [],.pl Y_api_Step],a0F⟩:Tm).D):Option (⟨[.pl a1V,.pl (.int .i64)],a0F⟩:Tm).D :=
 let a:S_api_Step:=x.1.1
 let h0:a1B:=x.2.1
 let h1:a0T:=x.2.2.1
 let h2:a0Y:=x.2.2.2.1
 let h3:a0W:=x.2.2.2.2.1
 let h4:a0U:=x.2.2.2.2.2.1
 let h5:(List a0G):=x.2.2.2.2.2.2.1
 let h6:(List a0H):=x.2.2.2.2.2.2.2.1
 let h7:(List a0B):=x.2.2.2.2.2.2.2.2.1
 let h8:(List a0B):=x.2.2.2.2.2.2.2.2.2.1
 let h9:(List Bool):=x.2.2.2.2.2.2.2.2.2.2.1
 let h10:(List a0D):=x.2.2.2.2.2.2.2.2.2.2.2.1
 optF none (escrow_Escrow_Claim K ((a.2.2.2.2.2.2.2.1,()),(h4,(h8,(h9,(h10,())))))) fun y0=>some (((I.of .i64 0,(I.of .i64 0,(a0R,(Z_U,(Z_U,(I.of .u64 0,(Z_U,(Z_U,([],()))))))))),(y0.1.1,())),(h0,(h1,(h2,(h3,(y0.2.1,(h5,(h6,(h7,(y0.2.2.1,(y0.2.2.2.1,(y0.2.2.2.2.1,()))))))))))))
def a1O (K:Nat) (x:(⟨[.ptr 0 [],.pl Y_api_Step],a0F⟩:Tm).D):Option (⟨[.pl a1V],a0F⟩:Tm).D :=
 let a:S_api_Step:=x.1.1
 let h0:a1B:=x.2.1
 let h1:a0T:=x.2.2.1
 let h2:a0Y:=x.2.2.2.1
 let h3:a0W:=x.2.2.2.2.1
 let h4:a0U:=x.2.2.2.2.2.1
 let h5:(List a0G):=x.2.2.2.2.2.2.1
 let h6:(List a0H):=x.2.2.2.2.2.2.2.1
 let h7:(List a0B):=x.2.2.2.2.2.2.2.2.1
 let h8:(List a0B):=x.2.2.2.2.2.2.2.2.2.1
 let h9:(List Bool):=x.2.2.2.2.2.2.2.2.2.2.1
 let h10:(List a0D):=x.2.2.2.2.2.2.2.2.2.2.2.1
 optF none (executor_Machine_count K ((),(h0,(h1,(h2,(h3,(h4,(h5,(h6,(h7,(h8,(h9,(h10,()))))))))))))) fun y0=>brn (I.ltb a.1 (I.of .i64 1)) (some (((I.of .i64 0,(I.of .i64 17,(a0R,(Z_U,(Z_U,(I.of .u64 0,(Z_U,(Z_U,([],()))))))))),()),y0.2)) (brn (I.leb (I.of .i64 8) a.1) (some (((I.of .i64 0,(I.of .i64 17,(a0R,(Z_U,(Z_U,(I.of .u64 0,(Z_U,(Z_U,([],()))))))))),()),y0.2)) (brn (inB a.1 8) (brn (eqN (I.nat a.1) 1) (optF none (executor_Machine_transaction K ((a,()),y0.2)) fun y1=>brn (I.neb y1.1.2.1 (I.of .i64 0)) (some (((a.1,(y1.1.2.1,(a0R,(Z_U,(Z_U,(I.of .u64 0,(Z_U,(Z_U,([],()))))))))),()),y1.2)) (some (((a.1,y1.1.1.2),()),y1.2))) (brn (eqN (I.nat a.1) 2) (optF none (executor_Machine_report K ((a,()),y0.2)) fun y1=>brn (I.neb y1.1.2.1 (I.of .i64 0)) (some (((a.1,(y1.1.2.1,(a0R,(Z_U,(Z_U,(I.of .u64 0,(Z_U,(Z_U,([],()))))))))),()),y1.2)) (some (((a.1,y1.1.1.2),()),y1.2))) (brn (eqN (I.nat a.1) 3) (optF none (executor_Machine_tick K ((a,()),y0.2)) fun y1=>brn (I.neb y1.1.2.1 (I.of .i64 0)) (some (((a.1,(y1.1.2.1,(a0R,(Z_U,(Z_U,(I.of .u64 0,(Z_U,(Z_U,([],()))))))))),()),y1.2)) (some (((a.1,y1.1.1.2),()),y1.2))) (brn (eqN (I.nat a.1) 4) (optF none (executor_Machine_setParam K ((a,()),y0.2)) fun y1=>brn (I.neb y1.1.2.1 (I.of .i64 0)) (some (((a.1,(y1.1.2.1,(a0R,(Z_U,(Z_U,(I.of .u64 0,(Z_U,(Z_U,([],()))))))))),()),y1.2)) (some (((a.1,y1.1.1.2),()),y1.2))) (brn (eqN (I.nat a.1) 5) (optF none (executor_Machine_addPoster K ((a,()),y0.2)) fun y1=>brn (I.neb y1.1.2.1 (I.of .i64 0)) (some (((a.1,(y1.1.2.1,(a0R,(Z_U,(Z_U,(I.of .u64 0,(Z_U,(Z_U,([],()))))))))),()),y1.2)) (some (((a.1,y1.1.1.2),()),y1.2))) (brn (eqN (I.nat a.1) 6) (optF none (executor_Machine_deposit K ((a,()),y0.2)) fun y1=>brn (I.neb y1.1.2.1 (I.of .i64 0)) (some (((a.1,(y1.1.2.1,(a0R,(Z_U,(Z_U,(I.of .u64 0,(Z_U,(Z_U,([],()))))))))),()),y1.2)) (some (((a.1,y1.1.1.2),()),y1.2))) (brn (eqN (I.nat a.1) 7) (optF none (executor_Machine_claim K ((a,()),y0.2)) fun y1=>brn (I.neb y1.1.2.1 (I.of .i64 0)) (some (((a.1,(y1.1.2.1,(a0R,(Z_U,(Z_U,(I.of .u64 0,(Z_U,(Z_U,([],()))))))))),()),y1.2)) (some (((a.1,y1.1.1.2),()),y1.2))) none))))))) none))
def wirereader_Reader_Byte (K:Nat) (x:(⟨[.ptr 0 []],[.box a0C (.pl a0C)]⟩:Tm).D):Option (⟨[.pl (.int .u8)],[.box a0C (.pl a0C)]⟩:Tm).D :=
 let h0:S_wirereader_Reader:=x.2.1
 jn (fun (x0:(Unit × (S_wirereader_Reader × Unit)))=>brn (inB (I.sub (I.add x0.2.1.2.1 (I.of .i64 1)) (I.of .i64 1)) (@a1I (I .u8) x0.2.1.1)) (some (((@rdL (I .u8) (I.of .u8 0) x0.2.1.1 (I.nat (I.sub (I.add x0.2.1.2.1 (I.of .i64 1)) (I.of .i64 1)))),()),((x0.2.1.1,((I.add x0.2.1.2.1 (I.of .i64 1)),x0.2.1.2.2)),()))) none) fun j0=>brn h0.2.2.1 (some ((I.of .u8 0,()),((h0.1,(h0.2.1,(true,h0.2.2.2))),()))) (brn (I.leb (I.ofNat .i64 (@a1I (I .u8) h0.1)) h0.2.1) (some ((I.of .u8 0,()),((h0.1,(h0.2.1,(true,h0.2.2.2))),()))) (j0 ((),(h0,()))))
def a1D (K:Nat) (x:(⟨[.ptr 0 []],[.box a0C (.pl a0C)]⟩:Tm).D):Option (⟨[.pl (.int .u64)],[.box a0C (.pl a0C)]⟩:Tm).D :=
 let h0:S_wirereader_Reader:=x.2.1
 optF none (wire_ReadUint64 K ((h0.1,(h0.2.1,())),())) fun y0=>optF none (wirereader_Reader_advance K ((y0.1.2.1,(y0.1.2.2.1,())),(h0,()))) fun y1=>brn (bnot y1.1.1) (some ((I.of .u64 0,()),(y1.2.1,()))) (some ((y0.1.1,()),(y1.2.1,())))
def wire_ReadUint256 (K:Nat) (x:(⟨[.pl (.sl (.int .u8)),.pl (.int .i64)],[]⟩:Tm).D):Option (⟨[.pl a1A,.pl (.int .i64),.pl (.int .i64)],[]⟩:Tm).D :=
 let a:(List (I .u8)):=x.1.1
 let b:(I .i64):=x.1.2.1
 optF none (wire_readUint K ((a,(b,(I.of .i64 32,()))),())) fun y0=>some ((y0.1.1,(y0.1.2.1,(y0.1.2.2.1,()))),())
def a2C (K:Nat) (x:(⟨[.ptr 0 []],[.box a0C (.pl a0C)]⟩:Tm).D):Option (⟨[.pl a1A],[.box a0C (.pl a0C)]⟩:Tm).D :=
 let h0:S_wirereader_Reader:=x.2.1
 optF none (wire_ReadUint256 K ((h0.1,(h0.2.1,())),())) fun y0=>optF none (wirereader_Reader_advance K ((y0.1.2.1,(y0.1.2.2.1,())),(h0,()))) fun y1=>brn (bnot y1.1.1) (some ((Z_U,()),(y1.2.1,()))) (some ((y0.1.1,()),(y1.2.1,())))
def tx_Decode (K:Nat) (x:(⟨[.pl (.sl (.int .u8))],[]⟩:Tm).D):Option (⟨[.pl a1P,.pl (.int .i64)],[]⟩:Tm).D :=
 let a:(List (I .u8)):=x.1.1
 optF none (wirereader_New K ((a,()),())) fun y0=>optF none (a1D K ((),(y0.2.1,()))) fun y1=>optF none (a1D K ((),(y1.2.1,()))) fun y2=>optF none (a1D K ((),(y2.2.1,()))) fun y3=>optF none (a2C K ((),(y3.2.1,()))) fun y4=>optF none (a1D K ((),(y4.2.1,()))) fun y5=>optF none (a2C K ((),(y5.2.1,()))) fun y6=>optF none (a2C K ((),(y6.2.1,()))) fun y7=>optF none (a1D K ((),(y7.2.1,()))) fun y8=>optF none (wirereader_Reader_Bytes K ((),(y8.2.1,()))) fun y9=>optF none (a2F K ((y9.2.1,()),())) fun y10=>brn (bnot y10.1.1) (some (((I.of .u64 0,(I.of .u64 0,(I.of .u64 0,(Z_U,(I.of .u64 0,(Z_U,(Z_U,(I.of .u64 0,([],()))))))))),(I.of .i64 3,())),())) (brn (I.ltb (I.of .i64 4096) (I.ofNat .i64 (@a1I (I .u8) y9.1.1))) (some (((I.of .u64 0,(I.of .u64 0,(I.of .u64 0,(Z_U,(I.of .u64 0,(Z_U,(Z_U,(I.of .u64 0,([],()))))))))),(I.of .i64 3,())),())) (some (((y1.1.1,(y2.1.1,(y3.1.1,(y4.1.1,(y5.1.1,(y6.1.1,(y7.1.1,(y8.1.1,(y9.1.1,()))))))))),(I.of .i64 0,())),())))
def wirereader_Reader_Hash (K:Nat) (x:(⟨[.ptr 0 []],[.box a0C (.pl a0C)]⟩:Tm).D):Option (⟨[.pl (.arr 32 (.int .u8))],[.box a0C (.pl a0C)]⟩:Tm).D :=
 let h0:S_wirereader_Reader:=x.2.1
 iter none (fun x0=>brn (I.ltb x0.1.1 (I.of .i64 32)) (optF (.done none) (wirereader_Reader_Byte K ((),(x0.2.1,()))) fun y1=>brn (inB x0.1.1 32) (.again (((I.add x0.1.1 (I.of .i64 1)),()),(y1.2.1,(x0.2.2.1,((@Arr.upd (I .u8) 32 x0.2.2.2.1 (I.nat x0.1.1) y1.1.1),()))))) (.done none)) (.done (some ((x0.2.2.2.1,()),(x0.2.1,()))))) K ((I.of .i64 0,()),(h0,(Z_S_A32_intu8,(Z_S_A32_intu8,()))))
def step_readProof (K:Nat) (x:(⟨[.ptr 0 []],[.box a0C (.pl a0C)]⟩:Tm).D):Option (⟨[.pl (.sl (.arr 32 (.int .u8))),.pl .bool],[.box a0C (.pl a0C)]⟩:Tm).D :=
 let h0:S_wirereader_Reader:=x.2.1
 optF none (a1D K ((),(h0,()))) fun y0=>brn (I.ltb (I.of .u64 64) y0.1.1) (some (([],(false,())),(y0.2.1,()))) (iter none (fun (x1:(((I .u64) × ((I .u64) × Unit)) × (S_wirereader_Reader × ((List a0B) × Unit))))=>brn (I.ltb x1.1.2.1 x1.1.1) (optF (.done none) (wirereader_Reader_Hash K ((),(x1.2.1,()))) fun y2=>brn (a1Z (@a1I a0B (@appL a0B x1.2.2.1 (y2.1.1::[])))) (.again ((x1.1.1,((I.add x1.1.2.1 (I.of .u64 1)),())),(y2.2.1,((@appL a0B x1.2.2.1 (y2.1.1::[])),())))) (.done none)) (.done (some ((x1.2.2.1,(true,())),(x1.2.1,()))))) K ((y0.1.1,(I.of .u64 0,())),(y0.2.1,([],()))))
def step_Decode (K:Nat) (x:(⟨[.pl (.sl (.int .u8))],[]⟩:Tm).D):Option (⟨[.pl Y_api_Step,.pl (.int .i64)],[]⟩:Tm).D :=
 let a:(List (I .u8)):=x.1.1
 brn (I.ltb (I.of .i64 8192) (I.ofNat .i64 (@a1I (I .u8) a))) (some (((I.of .i64 0,((I.of .u64 0,(I.of .u64 0,(I.of .u64 0,(Z_U,(I.of .u64 0,(Z_U,(Z_U,(I.of .u64 0,([],()))))))))),(a1C,(I.of .u64 0,(I.of .i64 0,(Z_U,(I.of .u64 0,((I.of .u64 0,(I.of .u64 0,(I.of .u64 0,(Z_U,([],()))))),())))))))),(I.of .i64 6,())),())) (optF none (wirereader_New K ((a,()),())) fun y0=>optF none (wirereader_Reader_Byte K ((),(y0.2.1,()))) fun y1=>brn (I.eqb (I.conv (k:=.u8) .i64 y1.1.1) (I.of .i64 1)) (optF none (wirereader_Reader_Bytes K ((),(y1.2.1,()))) fun y2=>optF none (tx_Decode K ((y2.1.1,()),())) fun y3=>brn (bnot (I.eqb y3.1.2.1 (I.of .i64 0))) (some (((I.of .i64 0,((I.of .u64 0,(I.of .u64 0,(I.of .u64 0,(Z_U,(I.of .u64 0,(Z_U,(Z_U,(I.of .u64 0,([],()))))))))),(a1C,(I.of .u64 0,(I.of .i64 0,(Z_U,(I.of .u64 0,((I.of .u64 0,(I.of .u64 0,(I.of .u64 0,(Z_U,([],()))))),())))))))),(I.of .i64 3,())),())) (optF none (a2F K ((y2.2.1,()),())) fun y4=>brn (bnot y4.1.1) (some (((I.of .i64 0,((I.of .u64 0,(I.of .u64 0,(I.of .u64 0,(Z_U,(I.of .u64 0,(Z_U,(Z_U,(I.of .u64 0,([],()))))))))),(a1C,(I.of .u64 0,(I.of .i64 0,(Z_U,(I.of .u64 0,((I.of .u64 0,(I.of .u64 0,(I.of .u64 0,(Z_U,([],()))))),())))))))),(I.of .i64 3,())),())) (some ((((I.conv (k:=.u8) .i64 y1.1.1),(y3.1.1,(a1C,(I.of .u64 0,(I.of .i64 0,(Z_U,(I.of .u64 0,((I.of .u64 0,(I.of .u64 0,(I.of .u64 0,(Z_U,([],()))))),())))))))),(I.of .i64 0,())),())))) (brn (I.eqb (I.conv (k:=.u8) .i64 y1.1.1) (I.of .i64 2)) (optF none (a1D K ((),(y1.2.1,()))) fun y2=>optF none (a1D K ((),(y2.2.1,()))) fun y3=>optF none (a2C K ((),(y3.2.1,()))) fun y4=>optF none (a2F K ((y4.2.1,()),())) fun y5=>brn (bnot y5.1.1) (some (((I.of .i64 0,((I.of .u64 0,(I.of .u64 0,(I.of .u64 0,(Z_U,(I.of .u64 0,(Z_U,(Z_U,(I.of .u64 0,([],()))))))))),(a1C,(I.of .u64 0,(I.of .i64 0,(Z_U,(I.of .u64 0,((I.of .u64 0,(I.of .u64 0,(I.of .u64 0,(Z_U,([],()))))),())))))))),(I.of .i64 3,())),())) (some ((((I.conv (k:=.u8) .i64 y1.1.1),((I.of .u64 0,(I.of .u64 0,(I.of .u64 0,(Z_U,(I.of .u64 0,(Z_U,(Z_U,(I.of .u64 0,([],()))))))))),((y2.1.1,(y3.1.1,(y4.1.1,()))),(I.of .u64 0,(I.of .i64 0,(Z_U,(I.of .u64 0,((I.of .u64 0,(I.of .u64 0,(I.of .u64 0,(Z_U,([],()))))),())))))))),(I.of .i64 0,())),()))) (brn (I.eqb (I.conv (k:=.u8) .i64 y1.1.1) (I.of .i64 3)) (optF none (a1D K ((),(y1.2.1,()))) fun y2=>optF none (a2F K ((y2.2.1,()),())) fun y3=>brn (bnot y3.1.1) (some (((I.of .i64 0,((I.of .u64 0,(I.of .u64 0,(I.of .u64 0,(Z_U,(I.of .u64 0,(Z_U,(Z_U,(I.of .u64 0,([],()))))))))),(a1C,(I.of .u64 0,(I.of .i64 0,(Z_U,(I.of .u64 0,((I.of .u64 0,(I.of .u64 0,(I.of .u64 0,(Z_U,([],()))))),())))))))),(I.of .i64 3,())),())) (some ((((I.conv (k:=.u8) .i64 y1.1.1),((I.of .u64 0,(I.of .u64 0,(I.of .u64 0,(Z_U,(I.of .u64 0,(Z_U,(Z_U,(I.of .u64 0,([],()))))))))),(a1C,(y2.1.1,(I.of .i64 0,(Z_U,(I.of .u64 0,((I.of .u64 0,(I.of .u64 0,(I.of .u64 0,(Z_U,([],()))))),())))))))),(I.of .i64 0,())),()))) (brn (I.eqb (I.conv (k:=.u8) .i64 y1.1.1) (I.of .i64 4)) (optF none (a1D K ((),(y1.2.1,()))) fun y2=>optF none (a2C K ((),(y2.2.1,()))) fun y3=>brn (bnot (I.leb y2.1.1 (I.of .u64 9223372036854775807))) (some (((I.of .i64 0,((I.of .u64 0,(I.of .u64 0,(I.of .u64 0,(Z_U,(I.of .u64 0,(Z_U,(Z_U,(I.of .u64 0,([],()))))))))),(a1C,(I.of .u64 0,(I.of .i64 0,(Z_U,(I.of .u64 0,((I.of .u64 0,(I.of .u64 0,(I.of .u64 0,(Z_U,([],()))))),())))))))),(I.of .i64 3,())),())) (optF none (a2F K ((y3.2.1,()),())) fun y4=>brn (bnot y4.1.1) (some (((I.of .i64 0,((I.of .u64 0,(I.of .u64 0,(I.of .u64 0,(Z_U,(I.of .u64 0,(Z_U,(Z_U,(I.of .u64 0,([],()))))))))),(a1C,(I.of .u64 0,(I.of .i64 0,(Z_U,(I.of .u64 0,((I.of .u64 0,(I.of .u64 0,(I.of .u64 0,(Z_U,([],()))))),())))))))),(I.of .i64 3,())),())) (some ((((I.conv (k:=.u8) .i64 y1.1.1),((I.of .u64 0,(I.of .u64 0,(I.of .u64 0,(Z_U,(I.of .u64 0,(Z_U,(Z_U,(I.of .u64 0,([],()))))))))),(a1C,(I.of .u64 0,((I.conv (k:=.u64) .i64 (I.and y2.1.1 (I.of .u64 9223372036854775807))),(y3.1.1,(I.of .u64 0,((I.of .u64 0,(I.of .u64 0,(I.of .u64 0,(Z_U,([],()))))),())))))))),(I.of .i64 0,())),())))) (brn (I.eqb (I.conv (k:=.u8) .i64 y1.1.1) (I.of .i64 5)) (optF none (a1D K ((),(y1.2.1,()))) fun y2=>optF none (a2F K ((y2.2.1,()),())) fun y3=>brn (bnot y3.1.1) (some (((I.of .i64 0,((I.of .u64 0,(I.of .u64 0,(I.of .u64 0,(Z_U,(I.of .u64 0,(Z_U,(Z_U,(I.of .u64 0,([],()))))))))),(a1C,(I.of .u64 0,(I.of .i64 0,(Z_U,(I.of .u64 0,((I.of .u64 0,(I.of .u64 0,(I.of .u64 0,(Z_U,([],()))))),())))))))),(I.of .i64 3,())),())) (some ((((I.conv (k:=.u8) .i64 y1.1.1),((I.of .u64 0,(I.of .u64 0,(I.of .u64 0,(Z_U,(I.of .u64 0,(Z_U,(Z_U,(I.of .u64 0,([],()))))))))),(a1C,(I.of .u64 0,(I.of .i64 0,(Z_U,(y2.1.1,((I.of .u64 0,(I.of .u64 0,(I.of .u64 0,(Z_U,([],()))))),())))))))),(I.of .i64 0,())),()))) (brn (I.eqb (I.conv (k:=.u8) .i64 y1.1.1) (I.of .i64 6)) (optF none (a1D K ((),(y1.2.1,()))) fun y2=>optF none (a2C K ((),(y2.2.1,()))) fun y3=>optF none (a2F K ((y3.2.1,()),())) fun y4=>brn (bnot y4.1.1) (some (((I.of .i64 0,((I.of .u64 0,(I.of .u64 0,(I.of .u64 0,(Z_U,(I.of .u64 0,(Z_U,(Z_U,(I.of .u64 0,([],()))))))))),(a1C,(I.of .u64 0,(I.of .i64 0,(Z_U,(I.of .u64 0,((I.of .u64 0,(I.of .u64 0,(I.of .u64 0,(Z_U,([],()))))),())))))))),(I.of .i64 3,())),())) (some ((((I.conv (k:=.u8) .i64 y1.1.1),((I.of .u64 0,(I.of .u64 0,(I.of .u64 0,(Z_U,(I.of .u64 0,(Z_U,(Z_U,(I.of .u64 0,([],()))))))))),(a1C,(I.of .u64 0,(I.of .i64 0,(y3.1.1,(y2.1.1,((I.of .u64 0,(I.of .u64 0,(I.of .u64 0,(Z_U,([],()))))),())))))))),(I.of .i64 0,())),()))) (brn (I.eqb (I.conv (k:=.u8) .i64 y1.1.1) (I.of .i64 7)) (optF none (a1D K ((),(y1.2.1,()))) fun y2=>optF none (a1D K ((),(y2.2.1,()))) fun y3=>optF none (a1D K ((),(y3.2.1,()))) fun y4=>optF none (a2C K ((),(y4.2.1,()))) fun y5=>optF none (step_readProof K ((),(y5.2.1,()))) fun y6=>brn (bnot y6.1.2.1) (some (((I.of .i64 0,((I.of .u64 0,(I.of .u64 0,(I.of .u64 0,(Z_U,(I.of .u64 0,(Z_U,(Z_U,(I.of .u64 0,([],()))))))))),(a1C,(I.of .u64 0,(I.of .i64 0,(Z_U,(I.of .u64 0,((I.of .u64 0,(I.of .u64 0,(I.of .u64 0,(Z_U,([],()))))),())))))))),(I.of .i64 3,())),())) (optF none (a2F K ((y6.2.1,()),())) fun y7=>brn (bnot y7.1.1) (some (((I.of .i64 0,((I.of .u64 0,(I.of .u64 0,(I.of .u64 0,(Z_U,(I.of .u64 0,(Z_U,(Z_U,(I.of .u64 0,([],()))))))))),(a1C,(I.of .u64 0,(I.of .i64 0,(Z_U,(I.of .u64 0,((I.of .u64 0,(I.of .u64 0,(I.of .u64 0,(Z_U,([],()))))),())))))))),(I.of .i64 3,())),())) (some ((((I.conv (k:=.u8) .i64 y1.1.1),((I.of .u64 0,(I.of .u64 0,(I.of .u64 0,(Z_U,(I.of .u64 0,(Z_U,(Z_U,(I.of .u64 0,([],()))))))))),(a1C,(I.of .u64 0,(I.of .i64 0,(Z_U,(I.of .u64 0,((y2.1.1,(y3.1.1,(y4.1.1,(y5.1.1,(y6.1.1,()))))),())))))))),(I.of .i64 0,())),())))) (some (((I.of .i64 0,((I.of .u64 0,(I.of .u64 0,(I.of .u64 0,(Z_U,(I.of .u64 0,(Z_U,(Z_U,(I.of .u64 0,([],()))))))))),(a1C,(I.of .u64 0,(I.of .i64 0,(Z_U,(I.of .u64 0,((I.of .u64 0,(I.of .u64 0,(I.of .u64 0,(Z_U,([],()))))),())))))))),(I.of .i64 3,())),())))))))))
def executor_Machine_ExecuteBytes (K:Nat) (x:(⟨[.ptr 0 [],.pl (.sl (.int .u8))],a0F⟩:Tm).D):Option (⟨[.pl a1V],a0F⟩:Tm).D :=
 let a:(List (I .u8)):=x.1.1
 let h0:a1B:=x.2.1
 let h1:a0T:=x.2.2.1
 let h2:a0Y:=x.2.2.2.1
 let h3:a0W:=x.2.2.2.2.1
 let h4:a0U:=x.2.2.2.2.2.1
 let h5:(List a0G):=x.2.2.2.2.2.2.1
 let h6:(List a0H):=x.2.2.2.2.2.2.2.1
 let h7:(List a0B):=x.2.2.2.2.2.2.2.2.1
 let h8:(List a0B):=x.2.2.2.2.2.2.2.2.2.1
 let h9:(List Bool):=x.2.2.2.2.2.2.2.2.2.2.1
 let h10:(List a0D):=x.2.2.2.2.2.2.2.2.2.2.2.1
 optF none (step_Decode K ((a,()),())) fun y0=>brn (I.neb y0.1.2.1 (I.of .i64 0)) (optF none (executor_Machine_count K ((),(h0,(h1,(h2,(h3,(h4,(h5,(h6,(h7,(h8,(h9,(h10,()))))))))))))) fun y1=>some (((I.of .i64 0,(y0.1.2.1,(a0R,(Z_U,(Z_U,(I.of .u64 0,(Z_U,(Z_U,([],()))))))))),()),y1.2)) (optF none (a1O K ((y0.1.1,()),(h0,(h1,(h2,(h3,(h4,(h5,(h6,(h7,(h8,(h9,(h10,()))))))))))))) fun y1=>some ((y1.1.1,()),y1.2))
def outbox_Outbox_Get (K:Nat) (x:(⟨[.ptr 0 [],.pl (.int .i64)],a1K⟩:Tm).D):Option (⟨[.pl a0J,.pl .bool],a1K⟩:Tm).D :=
 let a:(I .i64):=x.1.1
 let h0:a0Y:=x.2.1
 let h1:a0W:=x.2.2.1
 let h2:(List a0H):=x.2.2.2.1
 let h3:(List a0B):=x.2.2.2.2.1
 brn (I.ltb a (I.of .i64 0)) (some ((a1C,(false,())),(h0,(h1,(h2,(h3,())))))) (optF none (outbox_Outbox_Len K ((),(h0,(h1,(h2,(h3,())))))) fun y0=>brn (I.leb y0.1.1 a) (some ((a1C,(false,())),y0.2)) (brn (inB a (@a1I a0H y0.2.2.2.1)) (some (((@rdL a0H a1C y0.2.2.2.1 (I.nat a)),(true,())),y0.2)) none))
def slices_Clip___api_Hash_api_Hash_ (K:Nat) (x:(⟨[.pl (.sl (.arr 32 (.int .u8)))],[]⟩:Tm).D):Option (⟨[.pl (.sl (.arr 32 (.int .u8)))],[]⟩:Tm).D :=
 let a:(List a0B):=x.1.1
 brn (inB' (I.ofNat .i64 (@a1I a0B a)) (@a1I a0B a)) (brn (eqV (I.ofNat .i64 (@a1I a0B a)) (I.ofNat .i64 (@a1I a0B a))) (some (((@subL a0B a 0 (I.nat (I.ofNat .i64 (@a1I a0B a)))),()),())) none) none
def merkle_proof_stp (K:Nat) (r0:(⟨[.pl (.sl (.arr 32 (.int .u8))),.pl (.int .i64)],[]⟩:Tm).D→Option (⟨[.whole 0],[.row (.arr 32 (.int .u8))]⟩:Tm).D) (x:(⟨[.pl (.sl (.arr 32 (.int .u8))),.pl (.int .i64)],[]⟩:Tm).D):Option (⟨[.whole 0],[.row (.arr 32 (.int .u8))]⟩:Tm).D :=
 let a:(List a0B):=x.1.1
 let b:(I .i64):=x.1.2.1
 brn (@I.eqb .i64 (I.ofNat .i64 (@a1I a0B a)) (I.of .i64 1))
 (some ((),([],())))
 (optF (none) (merkle_splitPoint K (((I.ofNat .i64 (@a1I a0B a)),()),())) fun y0 =>
 brn (@I.ltb .i64 b y0.1.1)
  (brn (@inB' .i64 y0.1.1 (@a1I a0B a))
  (optF (none) (r0 (((@subL a0B a 0 (@I.nat .i64 y0.1.1)),(b,())),())) fun y1 =>
  brn (@inB' .i64 y0.1.1 (@a1I a0B a))
   (optF (none) (merkle_RootOf K (((@subL a0B a (@I.nat .i64 y0.1.1) ((@a1I a0B a) - (@I.nat .i64 y0.1.1))),()),())) fun y2 =>
   brn (a1Z (@a1I a0B (@appL a0B y1.2.1 (y2.1.1 :: []))))
   (some ((),((@appL a0B y1.2.1 (y2.1.1 :: [])),())))
   (none))
   (none))
  (none))
  (brn (@inB' .i64 y0.1.1 (@a1I a0B a))
  (optF (none) (r0 (((@subL a0B a (@I.nat .i64 y0.1.1) ((@a1I a0B a) - (@I.nat .i64 y0.1.1))),((@I.sub .i64 b y0.1.1),())),())) fun y1 =>
  brn (@inB' .i64 y0.1.1 (@a1I a0B a))
   (optF (none) (merkle_RootOf K (((@subL a0B a 0 (@I.nat .i64 y0.1.1)),()),())) fun y2 =>
   brn (a1Z (@a1I a0B (@appL a0B y1.2.1 (y2.1.1 :: []))))
   (some ((),((@appL a0B y1.2.1 (y2.1.1 :: [])),())))
   (none))
   (none))
  (none)))
def merkle_proof_rec (K:Nat):Nat→(⟨[.pl (.sl (.arr 32 (.int .u8))),.pl (.int .i64)],[]⟩:Tm).D→Option (⟨[.whole 0],[.row (.arr 32 (.int .u8))]⟩:Tm).D
 | 0,_=>none
 | k0 + 1,x=>merkle_proof_stp K (merkle_proof_rec K k0) x
def merkle_proof (K:Nat) (x:(⟨[.pl (.sl (.arr 32 (.int .u8))),.pl (.int .i64)],[]⟩:Tm).D):Option (⟨[.whole 0],[.row (.arr 32 (.int .u8))]⟩:Tm).D:=merkle_proof_rec K K x
def outbox_Outbox_Proof (K:Nat) (x:(⟨[.ptr 0 [],.pl (.int .i64),.pl (.int .i64)],a1K⟩:Tm).D):Option (⟨[.pl (.sl (.arr 32 (.int .u8))),.pl .bool],a1K⟩:Tm).D :=
 let a:(I .i64):=x.1.1
 let b:(I .i64):=x.1.2.1
 let h0:a0Y:=x.2.1
 let h1:a0W:=x.2.2.1
 let h2:(List a0H):=x.2.2.2.1
 let h3:(List a0B):=x.2.2.2.2.1
 brn (I.ltb a (I.of .i64 0)) (some (([],(false,())),(h0,(h1,(h2,(h3,())))))) (brn (I.leb b a) (some (([],(false,())),(h0,(h1,(h2,(h3,())))))) (brn (I.ltb (I.ofNat .i64 (@a1I a0B h3)) b) (some (([],(false,())),(h0,(h1,(h2,(h3,())))))) (brn (inB' b (@a1I a0B h3)) (optF none (merkle_proof K (((@subL a0B h3 0 (I.nat b)),(a,())),())) fun y0=>optF none (slices_Clip___api_Hash_api_Hash_ K ((y0.2.1,()),())) fun y1=>some ((y1.1.1,(true,())),(h0,(h1,(h2,(h3,())))))) none)))
def executor_Machine_Claim (K:Nat) (x:(⟨[.ptr 0 [],.pl (.int .u64)],a0F⟩:Tm).D):Option (⟨[.pl Y_api_Claim,.pl .bool],a0F⟩:Tm).D :=
 let a:(I .u64):=x.1.1
 let h0:a1B:=x.2.1
 let h1:a0T:=x.2.2.1
 let h2:a0Y:=x.2.2.2.1
 let h3:a0W:=x.2.2.2.2.1
 let h4:a0U:=x.2.2.2.2.2.1
 let h5:(List a0G):=x.2.2.2.2.2.2.1
 let h6:(List a0H):=x.2.2.2.2.2.2.2.1
 let h7:(List a0B):=x.2.2.2.2.2.2.2.2.1
 let h8:(List a0B):=x.2.2.2.2.2.2.2.2.2.1
 let h9:(List Bool):=x.2.2.2.2.2.2.2.2.2.2.1
 let h10:(List a0D):=x.2.2.2.2.2.2.2.2.2.2.2.1
 jn (fun (x0:(((I .u64) × Unit) × (a1B × (a0T × ((List a0G) × (a0Y × ((List a0H) × (a0W × ((List a0B) × (a0U × ((List a0B) × ((List Bool) × ((List a0D) × (S_api_Claim × Unit))))))))))))))=>optF none (outbox_Outbox_Len K ((),(x0.2.2.2.2.1,(x0.2.2.2.2.2.2.1,(x0.2.2.2.2.2.1,(x0.2.2.2.2.2.2.2.1,())))))) fun y1=>optF none (outbox_Outbox_Get K (((I.conv (k:=.u64) .i64 x0.1.1),()),y1.2)) fun y2=>optF none (outbox_Outbox_Proof K (((I.conv (k:=.u64) .i64 x0.1.1),(y1.1.1,())),y2.2)) fun y3=>brn (bnot y2.1.2.1) (some (((I.of .u64 0,(I.of .u64 0,(I.of .u64 0,(Z_U,([],()))))),(false,())),(x0.2.1,(x0.2.2.1,(y3.2.1,(y3.2.2.1,(x0.2.2.2.2.2.2.2.2.1,(x0.2.2.2.1,(y3.2.2.2.1,(y3.2.2.2.2.1,(x0.2.2.2.2.2.2.2.2.2.1,(x0.2.2.2.2.2.2.2.2.2.2.1,(x0.2.2.2.2.2.2.2.2.2.2.2.1,()))))))))))))) (brn (bnot y3.1.2.1) (some (((I.of .u64 0,(I.of .u64 0,(I.of .u64 0,(Z_U,([],()))))),(false,())),(x0.2.1,(x0.2.2.1,(y3.2.1,(y3.2.2.1,(x0.2.2.2.2.2.2.2.2.1,(x0.2.2.2.1,(y3.2.2.2.1,(y3.2.2.2.2.1,(x0.2.2.2.2.2.2.2.2.2.1,(x0.2.2.2.2.2.2.2.2.2.2.1,(x0.2.2.2.2.2.2.2.2.2.2.2.1,()))))))))))))) (some (((x0.1.1,((I.conv (k:=.i64) .u64 y1.1.1),(y2.1.1.2.1,(y2.1.1.2.2.1,(y3.1.1,()))))),(true,())),(x0.2.1,(x0.2.2.1,(y3.2.1,(y3.2.2.1,(x0.2.2.2.2.2.2.2.2.1,(x0.2.2.2.1,(y3.2.2.2.1,(y3.2.2.2.2.1,(x0.2.2.2.2.2.2.2.2.2.1,(x0.2.2.2.2.2.2.2.2.2.2.1,(x0.2.2.2.2.2.2.2.2.2.2.2.1,()))))))))))))))) fun j0=>optF none (outbox_Outbox_Len K ((),(h2,(h3,(h6,(h7,())))))) fun y1=>brn (I.leb (I.conv (k:=.i64) .u64 y1.1.1) a) (some (((I.of .u64 0,(I.of .u64 0,(I.of .u64 0,(Z_U,([],()))))),(false,())),(h0,(h1,(y1.2.1,(y1.2.2.1,(h4,(h5,(y1.2.2.2.1,(y1.2.2.2.2.1,(h8,(h9,(h10,()))))))))))))) (j0 ((a,()),(h0,(h1,(h5,(y1.2.1,(y1.2.2.2.1,(y1.2.2.1,(y1.2.2.2.2.1,(h4,(h8,(h9,(h10,((I.of .u64 0,(I.of .u64 0,(I.of .u64 0,(Z_U,([],()))))),()))))))))))))))
def pontagetop_awake (K:Nat) (x:(⟨[],[]⟩:Tm).D):Option (⟨[.pl .bool],[]⟩:Tm).D :=
 optF none (executor_New K ((),())) fun y0=>optF none (a1O K (((I.of .i64 6,((I.of .u64 0,(I.of .u64 0,(I.of .u64 0,(Z_U,(I.of .u64 0,(Z_U,(Z_U,(I.of .u64 0,([],()))))))))),(a1C,(I.of .u64 0,(I.of .i64 0,((I.of .u64 1152921504606846976,(I.of .u64 0,(I.of .u64 0,(I.of .u64 0,())))),(I.of .u64 5,((I.of .u64 0,(I.of .u64 0,(I.of .u64 0,(Z_U,([],()))))),())))))))),()),y0.2)) fun y1=>optF none (a1O K (((I.of .i64 1,((I.of .u64 5,(I.of .u64 0,(I.of .u64 6,((I.of .u64 30,(I.of .u64 0,(I.of .u64 0,(I.of .u64 0,())))),(I.of .u64 100000,((I.of .u64 200000000,(I.of .u64 0,(I.of .u64 0,(I.of .u64 0,())))),(Z_U,(I.of .u64 21000,([],()))))))))),(a1C,(I.of .u64 0,(I.of .i64 0,(Z_U,(I.of .u64 0,((I.of .u64 0,(I.of .u64 0,(I.of .u64 0,(Z_U,([],()))))),())))))))),()),y1.2)) fun y2=>optF none (a1O K (((I.of .i64 1,((I.of .u64 5,(I.of .u64 0,(I.of .u64 6,((I.of .u64 30,(I.of .u64 0,(I.of .u64 0,(I.of .u64 0,())))),(I.of .u64 100000,((I.of .u64 200000000,(I.of .u64 0,(I.of .u64 0,(I.of .u64 0,())))),(Z_U,(I.of .u64 21000,([],()))))))))),(a1C,(I.of .u64 0,(I.of .i64 0,(Z_U,(I.of .u64 0,((I.of .u64 0,(I.of .u64 0,(I.of .u64 0,(Z_U,([],()))))),())))))))),()),y2.2)) fun y3=>optF none (a1O K (((I.of .i64 5,((I.of .u64 0,(I.of .u64 0,(I.of .u64 0,(Z_U,(I.of .u64 0,(Z_U,(Z_U,(I.of .u64 0,([],()))))))))),(a1C,(I.of .u64 0,(I.of .i64 0,(Z_U,(I.of .u64 7,((I.of .u64 0,(I.of .u64 0,(I.of .u64 0,(Z_U,([],()))))),())))))))),()),y3.2)) fun y4=>optF none (a1O K (((I.of .i64 2,((I.of .u64 0,(I.of .u64 0,(I.of .u64 0,(Z_U,(I.of .u64 0,(Z_U,(Z_U,(I.of .u64 0,([],()))))))))),((I.of .u64 7,(I.of .u64 0,((I.of .u64 1125899906842624,(I.of .u64 0,(I.of .u64 0,(I.of .u64 0,())))),()))),(I.of .u64 0,(I.of .i64 0,(Z_U,(I.of .u64 0,((I.of .u64 0,(I.of .u64 0,(I.of .u64 0,(Z_U,([],()))))),())))))))),()),y4.2)) fun y5=>optF none (executor_Machine_Claim K ((I.of .u64 0,()),y5.2)) fun y6=>optF none (a1O K (((I.of .i64 7,((I.of .u64 0,(I.of .u64 0,(I.of .u64 0,(Z_U,(I.of .u64 0,(Z_U,(Z_U,(I.of .u64 0,([],()))))))))),(a1C,(I.of .u64 0,(I.of .i64 0,(Z_U,(I.of .u64 0,(y6.1.1,())))))))),()),y6.2)) fun y7=>optF none (a1O K (((I.of .i64 7,((I.of .u64 0,(I.of .u64 0,(I.of .u64 0,(Z_U,(I.of .u64 0,(Z_U,(Z_U,(I.of .u64 0,([],()))))))))),(a1C,(I.of .u64 0,(I.of .i64 0,(Z_U,(I.of .u64 0,(y6.1.1,())))))))),()),y7.2)) fun y8=>brn (I.eqb y1.1.1.2.1 (I.of .i64 0)) (brn (I.eqb y2.1.1.2.1 (I.of .i64 0)) (brn (I.eqb y2.1.1.2.2.1.2.2.1 (I.of .u64 21000)) (brn (I.eqb y2.1.1.2.2.1.1 (I.of .u64 16)) (brn (I.eqb y2.1.1.2.2.1.2.1 (I.of .u64 160)) (brn (I.eqb y3.1.1.2.1 (I.of .i64 11)) (brn (I.eqb y4.1.1.2.1 (I.of .i64 0)) (brn (I.eqb y5.1.1.2.1 (I.of .i64 0)) (brn (I.eqb (I.ofNat .i64 (@a1I a0H y5.1.1.2.2.2.2.2.2.2.2.1)) (I.of .i64 1)) (brn (Ty.eqb a1A y5.1.1.2.2.2.2.2.2.2.1 y2.1.1.2.2.1.2.2.2.2.2.2.1) (brn y6.1.2.1 (brn (I.eqb y7.1.1.2.1 (I.of .i64 0)) (some (((I.eqb y8.1.1.2.1 (I.of .i64 9)),()),())) (some ((false,()),()))) (some ((false,()),()))) (some ((false,()),()))) (some ((false,()),()))) (some ((false,()),()))) (some ((false,()),()))) (some ((false,()),()))) (some ((false,()),()))) (some ((false,()),()))) (some ((false,()),()))) (some ((false,()),()))) (some ((false,()),()))
def pontagetop_SystemRejectedSteps (K:Nat) (x:(⟨[.pl (.sl (.sl (.int .u8)))],[]⟩:Tm).D):Option (⟨[.pl .bool],[]⟩:Tm).D :=
 let a:(List (List (I .u8))):=x.1.1
 brn (I.ltb (I.of .i64 20) (I.ofNat .i64 (@a1I (List (I .u8)) a))) (optF none (pontagetop_awake K ((),())) fun y0=>some ((y0.1.1,()),())) (optF none (executor_New K ((),())) fun y0=>optF none (executor_New K ((),())) fun y1=>jn (fun (x2:(((List (List (I .u8))) × Unit) × (a1B × (a0T × ((List a0G) × (a0Y × ((List a0H) × (a0W × ((List a0B) × (a0U × ((List a0B) × ((List Bool) × ((List a0D) × (a1B × (a0T × ((List a0G) × (a0Y × ((List a0H) × (a0W × ((List a0B) × (a0U × ((List a0B) × ((List Bool) × ((List a0D) × Unit))))))))))))))))))))))))=>iter none (fun x3=>brn (I.ltb x3.1.2.1 (I.ofNat .i64 (@a1I (List (I .u8)) x3.1.1))) (brn (inB x3.1.2.1 (@a1I (List (I .u8)) x3.1.1)) (brn (I.ltb (I.of .i64 300) (I.ofNat .i64 (@a1I (I .u8) (@rdL (List (I .u8)) [] x3.1.1 (I.nat x3.1.2.1))))) (optF (.done none) (pontagetop_awake K ((),())) fun y4=>.done (some ((y4.1.1,()),()))) (brn (inB x3.1.2.1 (@a1I (List (I .u8)) x3.1.1)) (optF (.done none) (executor_Machine_ExecuteBytes K (((@rdL (List (I .u8)) [] x3.1.1 (I.nat x3.1.2.1)),()),(x3.2.1,(x3.2.2.1,(x3.2.2.2.2.1,(x3.2.2.2.2.2.2.1,(x3.2.2.2.2.2.2.2.2.1,(x3.2.2.2.1,(x3.2.2.2.2.2.1,(x3.2.2.2.2.2.2.2.1,(x3.2.2.2.2.2.2.2.2.2.1,(x3.2.2.2.2.2.2.2.2.2.2.1,(x3.2.2.2.2.2.2.2.2.2.2.2.1,()))))))))))))) fun y4=>brn (I.eqb y4.1.1.2.1 (I.of .i64 0)) (optF (.done none) (executor_New K ((),())) fun y5=>.again ((x3.1.1,((I.add x3.1.2.1 (I.of .i64 1)),())),(y5.2.1,(y5.2.2.1,(y5.2.2.2.2.2.2.1,(y5.2.2.2.1,(y5.2.2.2.2.2.2.2.1,(y5.2.2.2.2.1,(y5.2.2.2.2.2.2.2.2.1,(y5.2.2.2.2.2.1,(y5.2.2.2.2.2.2.2.2.2.1,(y5.2.2.2.2.2.2.2.2.2.2.1,(y5.2.2.2.2.2.2.2.2.2.2.2.1,(x3.2.2.2.2.2.2.2.2.2.2.2.2.1,(x3.2.2.2.2.2.2.2.2.2.2.2.2.2.1,(x3.2.2.2.2.2.2.2.2.2.2.2.2.2.2.1,(x3.2.2.2.2.2.2.2.2.2.2.2.2.2.2.2.1,(x3.2.2.2.2.2.2.2.2.2.2.2.2.2.2.2.2.1,(x3.2.2.2.2.2.2.2.2.2.2.2.2.2.2.2.2.2.1,(x3.2.2.2.2.2.2.2.2.2.2.2.2.2.2.2.2.2.2.1,(x3.2.2.2.2.2.2.2.2.2.2.2.2.2.2.2.2.2.2.2.1,(x3.2.2.2.2.2.2.2.2.2.2.2.2.2.2.2.2.2.2.2.2.1,(x3.2.2.2.2.2.2.2.2.2.2.2.2.2.2.2.2.2.2.2.2.2.1,(x3.2.2.2.2.2.2.2.2.2.2.2.2.2.2.2.2.2.2.2.2.2.2.1,())))))))))))))))))))))))) (optF (.done none) (executor_Machine_State K ((),(y4.2.1,(y4.2.2.1,(y4.2.2.2.1,(y4.2.2.2.2.1,(y4.2.2.2.2.2.1,(y4.2.2.2.2.2.2.1,(y4.2.2.2.2.2.2.2.1,(y4.2.2.2.2.2.2.2.2.1,(y4.2.2.2.2.2.2.2.2.2.1,(y4.2.2.2.2.2.2.2.2.2.2.1,(y4.2.2.2.2.2.2.2.2.2.2.2.1,()))))))))))))) fun y5=>optF (.done none) (executor_Machine_State K ((),(x3.2.2.2.2.2.2.2.2.2.2.2.2.1,(x3.2.2.2.2.2.2.2.2.2.2.2.2.2.1,(x3.2.2.2.2.2.2.2.2.2.2.2.2.2.2.2.1,(x3.2.2.2.2.2.2.2.2.2.2.2.2.2.2.2.2.2.1,(x3.2.2.2.2.2.2.2.2.2.2.2.2.2.2.2.2.2.2.2.1,(x3.2.2.2.2.2.2.2.2.2.2.2.2.2.2.1,(x3.2.2.2.2.2.2.2.2.2.2.2.2.2.2.2.2.1,(x3.2.2.2.2.2.2.2.2.2.2.2.2.2.2.2.2.2.2.1,(x3.2.2.2.2.2.2.2.2.2.2.2.2.2.2.2.2.2.2.2.2.1,(x3.2.2.2.2.2.2.2.2.2.2.2.2.2.2.2.2.2.2.2.2.2.1,(x3.2.2.2.2.2.2.2.2.2.2.2.2.2.2.2.2.2.2.2.2.2.2.1,()))))))))))))) fun y6=>brn (I.eqb y5.1.1.1 (I.of .u64 0)) (.done (some ((false,()),()))) (optF (.done none) (pontagelaw0_EqualState K (((I.of .u64 0,(y5.1.1.2.1,(y5.1.1.2.2.1,(y5.1.1.2.2.2.1,((y5.1.1.2.2.2.2.1.1,(y5.1.1.2.2.2.2.1.2.1,(y5.1.1.2.2.2.2.1.2.2.1,(y5.1.1.2.2.2.2.1.2.2.2.1,(y5.1.1.2.2.2.2.1.2.2.2.2.1,(y5.2.2.2.2.2.2.2.2.2.2.2.2.1,y5.1.1.2.2.2.2.1.2.2.2.2.2.2)))))),(y5.2.2.2.2.2.2.2.2.2.2.2.2.2.1,(y5.1.1.2.2.2.2.2.2.1,(y5.2.2.2.2.2.2.2.2.2.2.2.2.2.2.1,(y5.2.2.2.2.2.2.2.2.2.2.2.2.2.2.2.1,(y5.1.1.2.2.2.2.2.2.2.2.2.1,(y5.2.2.2.2.2.2.2.2.2.2.2.2.2.2.2.2.1,y5.1.1.2.2.2.2.2.2.2.2.2.2.2))))))))))),((y6.1.1.1,(y6.1.1.2.1,(y6.1.1.2.2.1,(y6.1.1.2.2.2.1,((y6.1.1.2.2.2.2.1.1,(y6.1.1.2.2.2.2.1.2.1,(y6.1.1.2.2.2.2.1.2.2.1,(y6.1.1.2.2.2.2.1.2.2.2.1,(y6.1.1.2.2.2.2.1.2.2.2.2.1,(y6.2.2.2.2.2.2.2.2.2.2.2.2.1,y6.1.1.2.2.2.2.1.2.2.2.2.2.2)))))),(y6.2.2.2.2.2.2.2.2.2.2.2.2.2.1,(y6.1.1.2.2.2.2.2.2.1,(y6.2.2.2.2.2.2.2.2.2.2.2.2.2.2.1,(y6.2.2.2.2.2.2.2.2.2.2.2.2.2.2.2.1,(y6.1.1.2.2.2.2.2.2.2.2.2.1,(y6.2.2.2.2.2.2.2.2.2.2.2.2.2.2.2.2.1,y6.1.1.2.2.2.2.2.2.2.2.2.2.2))))))))))),())),())) fun y7=>brn (bnot y7.1.1) (.done (some ((false,()),()))) (.again ((x3.1.1,((I.add x3.1.2.1 (I.of .i64 1)),())),(y5.2.1,(y5.2.2.1,(y5.2.2.2.2.2.2.1,(y5.2.2.2.1,(y5.2.2.2.2.2.2.2.1,(y5.2.2.2.2.1,(y5.2.2.2.2.2.2.2.2.1,(y5.2.2.2.2.2.1,(y5.2.2.2.2.2.2.2.2.2.1,(y5.2.2.2.2.2.2.2.2.2.2.1,(y5.2.2.2.2.2.2.2.2.2.2.2.1,(y6.2.1,(y6.2.2.1,(y6.2.2.2.2.2.2.1,(y6.2.2.2.1,(y6.2.2.2.2.2.2.2.1,(y6.2.2.2.2.1,(y6.2.2.2.2.2.2.2.2.1,(y6.2.2.2.2.2.1,(y6.2.2.2.2.2.2.2.2.2.1,(y6.2.2.2.2.2.2.2.2.2.2.1,(y6.2.2.2.2.2.2.2.2.2.2.2.1,()))))))))))))))))))))))))))) (.done none))) (.done none)) (.done (optF none (pontagetop_awake K ((),())) fun y4=>some ((y4.1.1,()),())))) K ((x2.1.1,(I.of .i64 0,())),(x2.2.1,(x2.2.2.1,(x2.2.2.2.1,(x2.2.2.2.2.1,(x2.2.2.2.2.2.1,(x2.2.2.2.2.2.2.1,(x2.2.2.2.2.2.2.2.1,(x2.2.2.2.2.2.2.2.2.1,(x2.2.2.2.2.2.2.2.2.2.1,(x2.2.2.2.2.2.2.2.2.2.2.1,(x2.2.2.2.2.2.2.2.2.2.2.2.1,(x2.2.2.2.2.2.2.2.2.2.2.2.2.1,(x2.2.2.2.2.2.2.2.2.2.2.2.2.2.1,(x2.2.2.2.2.2.2.2.2.2.2.2.2.2.2.1,(x2.2.2.2.2.2.2.2.2.2.2.2.2.2.2.2.1,(x2.2.2.2.2.2.2.2.2.2.2.2.2.2.2.2.2.1,(x2.2.2.2.2.2.2.2.2.2.2.2.2.2.2.2.2.2.1,(x2.2.2.2.2.2.2.2.2.2.2.2.2.2.2.2.2.2.2.1,(x2.2.2.2.2.2.2.2.2.2.2.2.2.2.2.2.2.2.2.2.1,(x2.2.2.2.2.2.2.2.2.2.2.2.2.2.2.2.2.2.2.2.2.1,(x2.2.2.2.2.2.2.2.2.2.2.2.2.2.2.2.2.2.2.2.2.2.1,(x2.2.2.2.2.2.2.2.2.2.2.2.2.2.2.2.2.2.2.2.2.2.2.1,())))))))))))))))))))))))) fun j2=>j2 ((a,()),(y0.2.1,(y0.2.2.1,(y0.2.2.2.2.2.2.1,(y0.2.2.2.1,(y0.2.2.2.2.2.2.2.1,(y0.2.2.2.2.1,(y0.2.2.2.2.2.2.2.2.1,(y0.2.2.2.2.2.1,(y0.2.2.2.2.2.2.2.2.2.1,(y0.2.2.2.2.2.2.2.2.2.2.1,(y0.2.2.2.2.2.2.2.2.2.2.2.1,(y1.2.1,(y1.2.2.1,(y1.2.2.2.2.2.2.1,(y1.2.2.2.1,(y1.2.2.2.2.2.2.2.1,(y1.2.2.2.2.1,(y1.2.2.2.2.2.2.2.2.1,(y1.2.2.2.2.2.1,(y1.2.2.2.2.2.2.2.2.2.1,(y1.2.2.2.2.2.2.2.2.2.2.1,(y1.2.2.2.2.2.2.2.2.2.2.2.1,()))))))))))))))))))))))))
end
end Sym
