/- The contracts of the given functions. -/
import Derived.Test.YtpeicefbediffaaGreatProg
import Derived.Test.YtpeicefbediffaaGreatPart4
import Derived.Test.YtpeicefbediffaaGreatPart3
namespace Sym
open Go Go.Proofs
set_option maxRecDepth 100000
def dd : Nat → List Sh → List Sh
 | 0, l => l
 | n + 1, l => .dead :: dd n l
def tys : List (Nat × Ty) := [(2,(.int .i64)),(3,(.int .i64)),(4,.bool),(5,(.int .u8)),(6,(.int .u8)),(7,a6U),(8,a6U),(9,.str),(10,.str),(11,.str),(22,(.sl a2E)),(23,(.int .u64)),(24,(.arr 8 (.int .u64))),(27,u256),(29,a0K),(33,a0F),(34,(.sl a0D)),(36,a0E),(38,(.int .u64)),(40,a1B),(42,a2E),(44,(.int .i64)),(48,(.sl a1D)),(50,a0O),(51,a0O),(60,(.sl b0J)),(62,(.arr 2 a0E)),(63,(.arr 2 a0K)),(66,a1D),(68,a0D),(98,b0J),(100,(.int .u64)),(107,.opq),(115,(.sl (.int .i64))),(123,.opq),(129,a0S),(134,(.arr 5 (.int .u64))),(144,(.sl a0V)),(146,a1C),(148,.opq),(150,a0V),(152,(.sl u256)),(179,(.arr 12 .bool)),(181,.opq),(183,.opq),(184,.opq),(186,(.sl (.int .u64)))]
def eqs : List (Nat × Ty) := [(2,(.int .i64)),(3,(.int .i64)),(4,.bool),(5,(.int .u8)),(6,(.int .u8)),(7,a6U),(8,a6U),(23,(.int .u64)),(24,(.arr 8 (.int .u64))),(27,u256),(29,a0K),(33,a0F),(38,(.int .u64)),(40,a1B),(42,a2E),(44,(.int .i64)),(63,(.arr 2 a0K)),(66,a1D),(68,a0D),(98,b0J),(100,(.int .u64)),(107,.opq),(123,.opq),(134,(.arr 5 (.int .u64))),(148,.opq),(150,a0V),(179,(.arr 12 .bool)),(181,.opq),(183,.opq),(184,.opq)]
theorem a1Q : tys.all (fun x => tiB Tryz.prog x.1 x.2) = true := by kernel_rfl
theorem a1O : eqs.all (fun x => eqiB Tryz.prog x.1 x.2) = true := by kernel_rfl
theorem follows : Tryz.prog.follows .mixedOrders = true := by kernel_rfl
theorem a0T : d6T Tryz.prog := e3X (by kernel_rfl)
def owns : List Nat := [144, 146]
def meths : List (Nat × String × FuncId × Option Nat) := [(148, "Len", 161, some 144), (148, "Less", 162, some 144), (148, "Pop", 164, none), (148, "Push", 165, none), (148, "Swap", 163, some 144)]
theorem a0P : meths.all (fun x => d8U Tryz.prog x.1 x.2.1 x.2.2.1 x.2.2.2) = true := by kernel_rfl
noncomputable def uint256_FromUint64C : Con := ⟨⟨[.pl (.int .u64)],[]⟩,⟨[.pl u256],[]⟩,a0L⟩
noncomputable def hw22 : List (Nat × How) := []
noncomputable def f6L : Env := a1M Tryz.prog tys eqs hw22 owns meths
def f7T : Anns := fun _ _ => none
theorem ev22 : ∀ x,a0U f6L f7T 22 uint256_FromUint64C.In uint256_FromUint64C.Out 60 K0 x = a0L x := by intro x; kernel_rfl
theorem ok22 : a1G Tryz.prog 22 uint256_FromUint64C := a0G (E := f6L) (a1P a1Q a1O (show HowsOk Tryz.prog hw22 from trivial) follows a0P) a0T fun x _ h => ⟨f7T,60,K0,(ev22 x).trans h⟩
noncomputable def params_GenesisC : Con := ⟨⟨[],[]⟩,⟨[.pl a0K],[]⟩,a5E⟩
noncomputable def hw7 : List (Nat × How) := [(22,.con uint256_FromUint64C)]
noncomputable def env7 : Env := a1M Tryz.prog tys eqs hw7 owns meths
def ann7 : Anns := fun _ _ => none
theorem ev7 : ∀ x,a0U env7 ann7 7 params_GenesisC.In params_GenesisC.Out 60 K0 x = a5E x := by intro x; kernel_rfl
theorem ok7 : a1G Tryz.prog 7 params_GenesisC := a0G (E := env7) (a1P a1Q a1O (show HowsOk Tryz.prog hw7 from (And.intro ok22 trivial)) follows a0P) a0T fun x _ h => ⟨ann7,60,K0,(ev7 x).trans h⟩
noncomputable def pricer_GenesisC : Con := ⟨⟨[],[]⟩,⟨[.pl a0E],[]⟩,a7G⟩
noncomputable def hw8 : List (Nat × How) := [(22,.con uint256_FromUint64C)]
noncomputable def env8 : Env := a1M Tryz.prog tys eqs hw8 owns meths
def ann8 : Anns := fun _ _ => none
theorem ev8 : ∀ x,a0U env8 ann8 8 pricer_GenesisC.In pricer_GenesisC.Out 60 K0 x = a7G x := by intro x; kernel_rfl
theorem ok8 : a1G Tryz.prog 8 pricer_GenesisC := a0G (E := env8) (a1P a1Q a1O (show HowsOk Tryz.prog hw8 from (And.intro ok22 trivial)) follows a0P) a0T fun x _ h => ⟨ann8,60,K0,(ev8 x).trans h⟩
noncomputable def poster_isZeroC : Con := ⟨⟨[.pl u256],[]⟩,⟨[.pl .bool],[]⟩,a4K⟩
noncomputable def hw62 : List (Nat × How) := []
noncomputable def f7S : Env := a1M Tryz.prog tys eqs hw62 owns meths
def f7C : Anns := fun _ _ => none
theorem ev62 : ∀ x,a0U f7S f7C 62 poster_isZeroC.In poster_isZeroC.Out 60 K0 x = a4K x := by intro x; kernel_rfl
theorem ok62 : a1G Tryz.prog 62 poster_isZeroC := a0G (E := f7S) (a1P a1Q a1O (show HowsOk Tryz.prog hw62 from trivial) follows a0P) a0T fun x _ h => ⟨f7C,60,K0,(ev62 x).trans h⟩
theorem ok26 : a1G Tryz.prog 26 c4T := e2Y (fn := Tryz.f26) (by kernel_rfl) (by kernel_rfl) (by kernel_rfl) (by kernel_rfl) (by kernel_rfl)
noncomputable def poster_sumC : Con := ⟨⟨[.pl u256,.pl u256],[]⟩,⟨[.pl (.arr 5 (.int .u64))],[]⟩,b0R⟩
noncomputable def hw93 : List (Nat × How) := [(26,.con c4T)]
noncomputable def f4U : Env := a1M Tryz.prog tys eqs hw93 owns meths
def g0S : Anns := fun p c => match p,c with | [93],0 => some (.tmpl ⟨(dd 2 (.ptr 0 []::.ptr 1 []::.ptr 2 []::.ptr 3 []::.pl (.int .u64)::dd 1 (.pl (.int .i64)::dd 19 []))),[.box u256 (.pl u256),.box u256 (.pl u256),.box (.arr 5 (.int .u64)) (.pl (.arr 5 (.int .u64))),.box (.arr 5 (.int .u64)) (.pl (.arr 5 (.int .u64)))]⟩) | _,_ => none
theorem ev93 : ∀ x,a0U f4U g0S 93 poster_sumC.In poster_sumC.Out 60 K0 x = b0R x := by intro x; kernel_rfl
theorem ok93 : a1G Tryz.prog 93 poster_sumC := a0G (E := f4U) (a1P a1Q a1O (show HowsOk Tryz.prog hw93 from (And.intro ok26 trivial)) follows a0P) a0T fun x _ h => ⟨g0S,60,K0,(ev93 x).trans h⟩
noncomputable def poster_ValidC : Con := ⟨⟨[.pl (.sl a0D)],[]⟩,⟨[.pl .bool],[]⟩,a4T⟩
noncomputable def hw47 : List (Nat × How) := [(62,.con poster_isZeroC),(93,.con poster_sumC)]
noncomputable def f2E : Env := a1M Tryz.prog tys eqs hw47 owns meths
def f5K : Anns := fun p c => match p,c with | [1000000,47],7 => some (.join ⟨(.pl (.sl a0D)::dd 3 (.ptr 0 []::.pl (.sl a0D)::.pl (.int .i64)::.pl (.int .i64)::dd 8 (.pl (.int .i64)::.pl .bool::.pl .bool::dd 9 (.pl .bool::dd 25 [])))),[.box a0D (.pl a0D)]⟩) | [47],0 => some (.tmpl ⟨(.pl (.sl a0D)::dd 4 (.pl (.sl a0D)::.pl (.int .i64)::.pl (.int .i64)::dd 46 [])),[]⟩) | _,_ => none
theorem ev47 : ∀ x,a0U f2E f5K 47 poster_ValidC.In poster_ValidC.Out 60 K0 x = a4T x := by intro x; kernel_rfl
theorem ok47 : a1G Tryz.prog 47 poster_ValidC := a0G (E := f2E) (a1P a1Q a1O (show HowsOk Tryz.prog hw47 from (And.intro ok62 (And.intro ok93 trivial))) follows a0P) a0T fun x _ h => ⟨f5K,60,K0,(ev47 x).trans h⟩
noncomputable def int256_ValidC : Con := ⟨⟨[.pl a0F],[]⟩,⟨[.pl .bool],[]⟩,a1S⟩
noncomputable def hw48 : List (Nat × How) := []
noncomputable def f6C : Env := a1M Tryz.prog tys eqs hw48 owns meths
def g0N : Anns := fun _ _ => none
theorem ev48 : ∀ x,a0U f6C g0N 48 int256_ValidC.In int256_ValidC.Out 60 K0 x = a1S x := by intro x; kernel_rfl
theorem ok48 : a1G Tryz.prog 48 int256_ValidC := a0G (E := f6C) (a1P a1Q a1O (show HowsOk Tryz.prog hw48 from trivial) follows a0P) a0T fun x _ h => ⟨g0N,60,K0,(ev48 x).trans h⟩
noncomputable def pricer_ValidC : Con := ⟨⟨[.pl a0E],[]⟩,⟨[.pl .bool],[]⟩,a5H⟩
noncomputable def hw18 : List (Nat × How) := [(47,.con poster_ValidC),(48,.con int256_ValidC)]
noncomputable def g0L : Env := a1M Tryz.prog tys eqs hw18 owns meths
def f9Z : Anns := fun p c => match p,c with | [18],0 => some (.tmpl ⟨(dd 1 (.ptr 0 []::dd 4 (.pl (.sl a0D)::.pl (.int .i64)::.pl (.int .i64)::dd 17 []))),[.box a0E (.pl a0E)]⟩) | _,_ => none
theorem ev18 : ∀ x,a0U g0L f9Z 18 pricer_ValidC.In pricer_ValidC.Out 60 K0 x = a5H x := by intro x; kernel_rfl
theorem ok18 : a1G Tryz.prog 18 pricer_ValidC := a0G (E := g0L) (a1P a1Q a1O (show HowsOk Tryz.prog hw18 from (And.intro ok47 (And.intro ok48 trivial))) follows a0P) a0T fun x _ h => ⟨f9Z,60,K0,(ev18 x).trans h⟩
noncomputable def poster_FindC : Con := ⟨⟨[.pl (.sl a0D),.pl (.int .u64)],[]⟩,⟨[.pl (.int .i64)],[]⟩,a5Q⟩
noncomputable def hw53 : List (Nat × How) := [(95,.inl),(96,.inl)]
noncomputable def f4M : Env := a1M Tryz.prog tys eqs hw53 owns meths
def f6E : Anns := fun p c => match p,c with | [95,1,2,53],0 => some (.tmpl ⟨(.pl (.sl a0D)::(.clo 96 ((.pair (.ptr 0 []) (.pl .nil))))::dd 5 (.pl (.int .i64)::.pl (.int .i64)::dd 18 [])),[.box (.int .u64) (.pl (.int .u64))]⟩) | _,_ => none
theorem ev53 : ∀ x,a0U f4M f6E 53 poster_FindC.In poster_FindC.Out 90 K0 x = a5Q x := by intro x; kernel_rfl
theorem ok53 : a1G Tryz.prog 53 poster_FindC := a0G (E := f4M) (a1P a1Q a1O (show HowsOk Tryz.prog hw53 from trivial) follows a0P) a0T fun x _ h => ⟨f6E,90,K0,(ev53 x).trans h⟩
theorem ok54 : a1G Tryz.prog 54 insertC := d9X a0T
noncomputable def slices_Clone___api_Poster_api_Poster_C : Con := ⟨⟨[.pl (.sl a0D)],[]⟩,⟨[.whole 0],[.row a0D]⟩,a0Q⟩
noncomputable def hw55 : List (Nat × How) := []
noncomputable def f5Z : Env := a1M Tryz.prog tys eqs hw55 owns meths
def f8Z : Anns := fun _ _ => none
theorem ev55 : ∀ x,a0U f5Z f8Z 55 slices_Clone___api_Poster_api_Poster_C.In slices_Clone___api_Poster_api_Poster_C.Out 60 K0 x = a0Q x := by intro x; kernel_rfl
theorem ok55 : a1G Tryz.prog 55 slices_Clone___api_Poster_api_Poster_C := a0G (E := f5Z) (a1P a1Q a1O (show HowsOk Tryz.prog hw55 from trivial) follows a0P) a0T fun x _ h => ⟨f8Z,60,K0,(ev55 x).trans h⟩
noncomputable def poster_AddC : Con := ⟨⟨[.pl (.sl a0D),.pl (.int .u64)],[]⟩,⟨[.pl (.sl a0D),.pl (.int .i64)],[]⟩,b1I⟩
noncomputable def hw24 : List (Nat × How) := [(47,.con poster_ValidC),(53,.con poster_FindC),(54,.con insertC),(55,.con slices_Clone___api_Poster_api_Poster_C)]
noncomputable def f3R : Env := a1M Tryz.prog tys eqs hw24 owns meths
def f7K : Anns := fun p c => match p,c with | [1000000,24],11 => some (.join ⟨(.pl (.sl a0D)::.pl (.int .u64)::dd 4 (.pl (.int .i64)::dd 39 [])),[]⟩) | [1000000,24],3 => some (.join ⟨(.pl (.sl a0D)::.pl (.int .u64)::dd 5 (.pl .bool::dd 38 [])),[]⟩) | [1000000,24],8 => some (.join ⟨(.pl (.sl a0D)::.pl (.int .u64)::dd 44 []),[]⟩) | [24],1 => some (.tmpl ⟨(.pl (.sl a0D)::.pl (.int .u64)::dd 4 (.pl (.int .i64)::dd 39 [])),[]⟩) | _,_ => none
theorem ev24 : ∀ x,a0U f3R f7K 24 poster_AddC.In poster_AddC.Out 60 K0 x = b1I x := by intro x; kernel_rfl
theorem ok24 : a1G Tryz.prog 24 poster_AddC := a0G (E := f3R) (a1P a1Q a1O (show HowsOk Tryz.prog hw24 from (And.intro ok47 (And.intro ok53 (And.intro ok54 (And.intro ok55 trivial))))) follows a0P) a0T fun x _ h => ⟨f7K,60,K0,(ev24 x).trans h⟩
noncomputable def pricer_AddPosterC : Con := ⟨⟨[.pl a0E,.pl (.int .u64)],[]⟩,⟨[.pl a0E,.pl (.int .i64)],[]⟩,a4S⟩
noncomputable def hw10 : List (Nat × How) := [(18,.con pricer_ValidC),(24,.con poster_AddC)]
noncomputable def g0Q : Env := a1M Tryz.prog tys eqs hw10 owns meths
def f6W : Anns := fun _ _ => none
theorem ev10 : ∀ x,a0U g0Q f6W 10 pricer_AddPosterC.In pricer_AddPosterC.Out 60 K0 x = a4S x := by intro x; kernel_rfl
theorem ok10 : a1G Tryz.prog 10 pricer_AddPosterC := a0G (E := g0Q) (a1P a1Q a1O (show HowsOk Tryz.prog hw10 from (And.intro ok18 (And.intro ok24 trivial))) follows a0P) a0T fun x _ h => ⟨f6W,60,K0,(ev10 x).trans h⟩
noncomputable def uint256_CmpC : Con := ⟨⟨[.pl u256,.pl u256],[]⟩,⟨[.pl (.int .i64)],[]⟩,a3W⟩
noncomputable def f5X : List (Nat × How) := []
noncomputable def e7N : Env := a1M Tryz.prog tys eqs f5X owns meths
def e6X : Anns := fun p _ => match p with | 1000000::_ => none | _ => some (.unroll 6)
theorem g2K : ∀ x,a0U e7N e6X 106 uint256_CmpC.In uint256_CmpC.Out 60 K0 x = a3W x := by intro x; kernel_rfl
theorem e4Y : a1G Tryz.prog 106 uint256_CmpC := a0G (E := e7N) (a1P a1Q a1O (show HowsOk Tryz.prog f5X from trivial) follows a0P) a0T fun x _ h => ⟨e6X,60,K0,(g2K x).trans h⟩
noncomputable def params_GetC : Con := ⟨⟨[.pl a0K,.pl (.int .i64)],[]⟩,⟨[.pl u256,.pl (.int .i64)],[]⟩,b4P⟩
noncomputable def f6A : List (Nat × How) := [(22,.con uint256_FromUint64C),(137,.inl),(138,.inl)]
noncomputable def e6F : Env := a1M Tryz.prog tys eqs f6A owns meths
def e8J : Anns := fun _ _ => none
theorem g1Y : ∀ x,a0U e6F e8J 120 params_GetC.In params_GetC.Out 90 K0 x = b4P x := by intro x; kernel_rfl
theorem g3P : a1G Tryz.prog 120 params_GetC := a0G (E := e6F) (a1P a1Q a1O (show HowsOk Tryz.prog f6A from (And.intro ok22 trivial)) follows a0P) a0T fun x _ h => ⟨e8J,90,K0,(g1Y x).trans h⟩
noncomputable def params_boundsC : Con := ⟨⟨[.pl a0K,.pl (.int .i64)],[]⟩,⟨[.pl (.int .u64),.pl (.int .u64)],[]⟩,b0U⟩
noncomputable def f2R : List (Nat × How) := []
noncomputable def e7H : Env := a1M Tryz.prog tys eqs f2R owns meths
def e8V : Anns := fun p c => match p,c with | [1000000,121],12 => some (.join ⟨(dd 2 (.ptr 0 []::dd 3 (.pl (.int .i64)::dd 7 (.pl .bool::dd 10 [])))),[.box a0K (.pl a0K)]⟩) | [1000000,121],6 => some (.join ⟨(dd 2 (.ptr 0 []::dd 3 (.pl (.int .i64)::.pl .bool::dd 17 []))),[.box a0K (.pl a0K)]⟩) | [1000000,121],9 => some (.join ⟨(dd 2 (.ptr 0 []::dd 3 (.pl (.int .i64)::dd 4 (.pl .bool::dd 13 [])))),[.box a0K (.pl a0K)]⟩) | _,_ => none
theorem g3W : ∀ x,a0U e7H e8V 121 params_boundsC.In params_boundsC.Out 60 K0 x = b0U x := by intro x; kernel_rfl
theorem g3M : a1G Tryz.prog 121 params_boundsC := a0G (E := e7H) (a1P a1Q a1O (show HowsOk Tryz.prog f2R from trivial) follows a0P) a0T fun x _ h => ⟨e8V,60,K0,(g3W x).trans h⟩
noncomputable def params_FirstInvalidC : Con := ⟨⟨[.pl a0K],[]⟩,⟨[.pl (.int .i64)],[]⟩,a3Z⟩
noncomputable def hw99 : List (Nat × How) := [(22,.con uint256_FromUint64C),(106,.con uint256_CmpC),(120,.con params_GetC),(121,.con params_boundsC)]
noncomputable def f4Q : Env := a1M Tryz.prog tys eqs hw99 owns meths
def g0R : Anns := fun p c => match p,c with | [99],0 => some (.tmpl ⟨(dd 1 (.ptr 0 []::dd 1 (.pl (.int .i64)::dd 33 []))),[.box a0K (.pl a0K)]⟩) | _,_ => none
theorem ev99 : ∀ x,a0U f4Q g0R 99 params_FirstInvalidC.In params_FirstInvalidC.Out 60 K0 x = a3Z x := by intro x; kernel_rfl
theorem ok99 : a1G Tryz.prog 99 params_FirstInvalidC := a0G (E := f4Q) (a1P a1Q a1O (show HowsOk Tryz.prog hw99 from (And.intro ok22 (And.intro e4Y (And.intro g3P (And.intro g3M trivial))))) follows a0P) a0T fun x _ h => ⟨g0R,60,K0,(ev99 x).trans h⟩
noncomputable def params_ValidC : Con := ⟨⟨[.pl a0K],[]⟩,⟨[.pl .bool],[]⟩,a6Y⟩
noncomputable def hw57 : List (Nat × How) := [(99,.con params_FirstInvalidC)]
noncomputable def g1L : Env := a1M Tryz.prog tys eqs hw57 owns meths
def f9H : Anns := fun _ _ => none
theorem ev57 : ∀ x,a0U g1L f9H 57 params_ValidC.In params_ValidC.Out 60 K0 x = a6Y x := by intro x; kernel_rfl
theorem ok57 : a1G Tryz.prog 57 params_ValidC := a0G (E := g1L) (a1P a1Q a1O (show HowsOk Tryz.prog hw57 from (And.intro ok99 trivial)) follows a0P) a0T fun x _ h => ⟨f9H,60,K0,(ev57 x).trans h⟩
noncomputable def math_bits_Len64C : Con := ⟨⟨[.pl (.int .u64)],[]⟩,⟨[.pl (.int .i64)],[]⟩,a6C⟩
noncomputable def f6G : List (Nat × How) := []
noncomputable def e8B : Env := a1M Tryz.prog tys eqs f6G owns meths
def e5E : Anns := fun p c => match p,c with | [1000000,100],5 => some (.join ⟨(.pl (.int .u64)::dd 1 (.pl (.int .i64)::dd 22 [])),[]⟩) | [1000000,100],8 => some (.join ⟨(.pl (.int .u64)::dd 1 (.pl (.int .i64)::dd 22 [])),[]⟩) | _,_ => none
theorem g2J : ∀ x,a0U e8B e5E 100 math_bits_Len64C.In math_bits_Len64C.Out 60 K0 x = a6C x := by intro x; kernel_rfl
theorem g4D : a1G Tryz.prog 100 math_bits_Len64C := a0G (E := e8B) (a1P a1Q a1O (show HowsOk Tryz.prog f6G from trivial) follows a0P) a0T fun x _ h => ⟨e5E,60,K0,(g2J x).trans h⟩
noncomputable def uint256_BitLenC : Con := ⟨⟨[.pl u256],[]⟩,⟨[.pl (.int .i64)],[]⟩,a5U⟩
noncomputable def hw58 : List (Nat × How) := [(100,.con math_bits_Len64C)]
noncomputable def f5G : Env := a1M Tryz.prog tys eqs hw58 owns meths
def f9E : Anns := fun p c => match p,c with | [58],0 => some (.tmpl ⟨(dd 1 (.ptr 0 []::dd 1 (.pl (.int .i64)::dd 15 []))),[.box u256 (.pl u256)]⟩) | _,_ => none
theorem ev58 : ∀ x,a0U f5G f9E 58 uint256_BitLenC.In uint256_BitLenC.Out 60 K0 x = a5U x := by intro x; kernel_rfl
theorem ok58 : a1G Tryz.prog 58 uint256_BitLenC := a0G (E := f5G) (a1P a1Q a1O (show HowsOk Tryz.prog hw58 from (And.intro g4D trivial)) follows a0P) a0T fun x _ h => ⟨f9E,60,K0,(ev58 x).trans h⟩
noncomputable def pricer_checkReportC : Con := ⟨⟨[.pl a0E,.pl a0K,.pl a1B,.pl (.int .u64)],[]⟩,⟨[.pl (.int .i64)],[]⟩,a4I⟩
noncomputable def hw28 : List (Nat × How) := [(18,.con pricer_ValidC),(53,.con poster_FindC),(57,.con params_ValidC),(58,.con uint256_BitLenC)]
noncomputable def f3O : Env := a1M Tryz.prog tys eqs hw28 owns meths
def f5W : Anns := fun p c => match p,c with | [1000000,28],9 => some (.join ⟨(dd 4 (.ptr 0 []::dd 1 (.ptr 1 []::dd 17 (.pl .bool::dd 20 [])))),[.box a0E (.pl a0E),.box a1B (.pl a1B)]⟩) | _,_ => none
theorem ev28 : ∀ x,a0U f3O f5W 28 pricer_checkReportC.In pricer_checkReportC.Out 60 K0 x = a4I x := by intro x; kernel_rfl
theorem ok28 : a1G Tryz.prog 28 pricer_checkReportC := a0G (E := f3O) (a1P a1Q a1O (show HowsOk Tryz.prog hw28 from (And.intro ok18 (And.intro ok53 (And.intro ok57 (And.intro ok58 trivial))))) follows a0P) a0T fun x _ h => ⟨f5W,60,K0,(ev28 x).trans h⟩
noncomputable def math_bits_Mul64C : Con := ⟨⟨[.pl (.int .u64),.pl (.int .u64)],[]⟩,⟨[.pl (.int .u64),.pl (.int .u64)],[]⟩,a6M⟩
noncomputable def g0C : List (Nat × How) := []
noncomputable def e6V : Env := a1M Tryz.prog tys eqs g0C owns meths
def e8M : Anns := fun _ _ => none
theorem g2X : ∀ x,a0U e6V e8M 102 math_bits_Mul64C.In math_bits_Mul64C.Out 60 K0 x = a6M x := by intro x; kernel_rfl
theorem f5F : a1G Tryz.prog 102 math_bits_Mul64C := a0G (E := e6V) (a1P a1Q a1O (show HowsOk Tryz.prog g0C from trivial) follows a0P) a0T fun x _ h => ⟨e8M,60,K0,(g2X x).trans h⟩
noncomputable def muldiv_MulC : Con := ⟨⟨[.pl u256,.pl u256],[]⟩,⟨[.pl u256,.pl u256],[]⟩,b0P⟩
noncomputable def f7R : List (Nat × How) := [(26,.con c4T),(102,.con math_bits_Mul64C)]
noncomputable def e5Z : Env := a1M Tryz.prog tys eqs f7R owns meths
def e7V : Anns := fun p c => match p,c with | [122],0 => some (.tmpl ⟨(dd 2 (.ptr 0 []::.ptr 1 []::.ptr 2 []::.ptr 3 []::.ptr 4 []::dd 6 (.pl (.int .i64)::dd 55 []))),[.box u256 (.pl u256),.box u256 (.pl u256),.box u256 (.pl u256),.box u256 (.pl u256),.box (.arr 8 (.int .u64)) (.pl (.arr 8 (.int .u64)))]⟩) | [122],2 => some (.tmpl ⟨(dd 2 (.ptr 0 []::.ptr 1 []::.ptr 2 []::.ptr 3 []::.ptr 4 []::.pl (.int .i64)::.pl (.int .u64)::dd 4 (.pl (.int .i64)::dd 2 (.pl (.int .i64)::dd 52 [])))),[.box u256 (.pl u256),.box u256 (.pl u256),.box u256 (.pl u256),.box u256 (.pl u256),.box (.arr 8 (.int .u64)) (.pl (.arr 8 (.int .u64)))]⟩) | _,_ => none
theorem g2D : ∀ x,a0U e5Z e7V 122 muldiv_MulC.In muldiv_MulC.Out 60 K0 x = b0P x := by intro x; kernel_rfl
theorem g4F : a1G Tryz.prog 122 muldiv_MulC := a0G (E := e5Z) (a1P a1Q a1O (show HowsOk Tryz.prog f7R from (And.intro ok26 (And.intro f5F trivial))) follows a0P) a0T fun x _ h => ⟨e7V,60,K0,(g2D x).trans h⟩
noncomputable def muldiv_shiftLeftC : Con := ⟨⟨[.pl u256,.pl (.int .u64)],[]⟩,⟨[.pl u256,.pl (.int .u64)],[]⟩,a5P⟩
noncomputable def f2S : List (Nat × How) := []
noncomputable def e7M : Env := a1M Tryz.prog tys eqs f2S owns meths
def e6Z : Anns := fun p c => match p,c with | [139],0 => some (.tmpl ⟨(dd 1 (.pl (.int .u64)::.ptr 0 []::dd 1 (.ptr 1 []::dd 1 (.pl (.int .u64)::.pl (.int .i64)::dd 27 [])))),[.box u256 (.pl u256),.box u256 (.pl u256)]⟩) | _,_ => none
theorem g2R : ∀ x,a0U e7M e6Z 139 muldiv_shiftLeftC.In muldiv_shiftLeftC.Out 60 K0 x = a5P x := by intro x; kernel_rfl
theorem g4G : a1G Tryz.prog 139 muldiv_shiftLeftC := a0G (E := e7M) (a1P a1Q a1O (show HowsOk Tryz.prog f2S from trivial) follows a0P) a0T fun x _ h => ⟨e6Z,60,K0,(g2R x).trans h⟩
theorem f5P : a1G Tryz.prog 127 d6K := e3K (fn := Tryz.f127) (by kernel_rfl) (by kernel_rfl) (by kernel_rfl) (by kernel_rfl) (by kernel_rfl)
noncomputable def muldiv_subWrapC : Con := ⟨⟨[.pl u256,.pl u256],[]⟩,⟨[.pl u256],[]⟩,a5V⟩
noncomputable def f3H : List (Nat × How) := [(127,.con d6K)]
noncomputable def e6R : Env := a1M Tryz.prog tys eqs f3H owns meths
def e5K : Anns := fun p c => match p,c with | [140],0 => some (.tmpl ⟨(dd 2 (.ptr 0 []::.ptr 1 []::.ptr 2 []::.pl (.int .u64)::dd 1 (.pl (.int .i64)::dd 17 []))),[.box u256 (.pl u256),.box u256 (.pl u256),.box u256 (.pl u256)]⟩) | _,_ => none
theorem g3R : ∀ x,a0U e6R e5K 140 muldiv_subWrapC.In muldiv_subWrapC.Out 60 K0 x = a5V x := by intro x; kernel_rfl
theorem g4H : a1G Tryz.prog 140 muldiv_subWrapC := a0G (E := e6R) (a1P a1Q a1O (show HowsOk Tryz.prog f3H from (And.intro f5P trivial)) follows a0P) a0T fun x _ h => ⟨e5K,60,K0,(g3R x).trans h⟩
noncomputable def muldiv_Div512C : Con := ⟨⟨[.pl u256,.pl u256,.pl u256],[]⟩,⟨[.pl u256,.pl u256,.pl (.int .i64)],[]⟩,a5C⟩
noncomputable def f7P : List (Nat × How) := [(106,.con uint256_CmpC),(139,.con muldiv_shiftLeftC),(140,.con muldiv_subWrapC)]
noncomputable def e6E : Env := a1M Tryz.prog tys eqs f7P owns meths
def e8H : Anns := fun p c => match p,c with | [1000000,123],13 => some (.join ⟨(dd 3 (.ptr 0 []::dd 1 (.ptr 1 []::.ptr 2 []::.ptr 3 []::dd 1 (.pl (.int .i64)::dd 37 (.pl .bool::dd 14 []))))),[.box u256 (.pl u256),.box u256 (.pl u256),.box u256 (.pl u256),.box u256 (.pl u256)]⟩) | [123],0 => some (.tmpl ⟨(dd 3 (.ptr 0 []::dd 1 (.ptr 1 []::.ptr 2 []::.ptr 3 []::dd 1 (.pl (.int .i64)::dd 52 [])))),[.box u256 (.pl u256),.box u256 (.pl u256),.box u256 (.pl u256),.box u256 (.pl u256)]⟩) | _,_ => none
theorem g2I : ∀ x,a0U e6E e8H 123 muldiv_Div512C.In muldiv_Div512C.Out 60 K0 x = a5C x := by intro x; kernel_rfl
theorem f6O : a1G Tryz.prog 123 muldiv_Div512C := a0G (E := e6E) (a1P a1Q a1O (show HowsOk Tryz.prog f7P from (And.intro e4Y (And.intro g4G (And.intro g4H trivial)))) follows a0P) a0T fun x _ h => ⟨e8H,60,K0,(g2I x).trans h⟩
noncomputable def muldiv_MulDivFloorC : Con := ⟨⟨[.pl u256,.pl u256,.pl u256],[]⟩,⟨[.pl u256,.pl (.int .i64)],[]⟩,a3P⟩
noncomputable def g0Z : List (Nat × How) := [(122,.con muldiv_MulC),(123,.con muldiv_Div512C)]
noncomputable def e8E : Env := a1M Tryz.prog tys eqs g0Z owns meths
def e6G : Anns := fun _ _ => none
theorem g4E : ∀ x,a0U e8E e6G 101 muldiv_MulDivFloorC.In muldiv_MulDivFloorC.Out 60 K0 x = a3P x := by intro x; kernel_rfl
theorem g1W : a1G Tryz.prog 101 muldiv_MulDivFloorC := a0G (E := e8E) (a1P a1Q a1O (show HowsOk Tryz.prog g0Z from (And.intro g4F (And.intro f6O trivial))) follows a0P) a0T fun x _ h => ⟨e6G,60,K0,(g4E x).trans h⟩
noncomputable def alloc_AllocateC : Con := ⟨⟨[.pl (.int .u64),.pl (.int .u64),.pl (.int .u64),.pl (.int .u64)],[]⟩,⟨[.pl (.int .u64),.pl (.int .i64)],[]⟩,a7H⟩
noncomputable def hw59 : List (Nat × How) := [(22,.con uint256_FromUint64C),(101,.con muldiv_MulDivFloorC)]
noncomputable def f9I : Env := a1M Tryz.prog tys eqs hw59 owns meths
def f2U : Anns := fun p c => match p,c with | [1000000,59],3 => some (.join ⟨(.pl (.int .u64)::.pl (.int .u64)::.pl (.int .u64)::.pl (.int .u64)::dd 8 (.pl .bool::dd 30 [])),[]⟩) | [1000000,59],6 => some (.join ⟨(.pl (.int .u64)::.pl (.int .u64)::.pl (.int .u64)::.pl (.int .u64)::dd 39 []),[]⟩) | _,_ => none
theorem ev59 : ∀ x,a0U f9I f2U 59 alloc_AllocateC.In alloc_AllocateC.Out 60 K0 x = a7H x := by intro x; kernel_rfl
theorem ok59 : a1G Tryz.prog 59 alloc_AllocateC := a0G (E := f9I) (a1P a1Q a1O (show HowsOk Tryz.prog hw59 from (And.intro ok22 (And.intro g1W trivial))) follows a0P) a0T fun x _ h => ⟨f2U,60,K0,(ev59 x).trans h⟩
noncomputable def uint256_MulC : Con := ⟨⟨[.pl u256,.pl u256],[]⟩,⟨[.pl u256,.pl (.int .i64)],[]⟩,a7E⟩
noncomputable def hw60 : List (Nat × How) := [(26,.con c4T),(102,.con math_bits_Mul64C)]
noncomputable def g1C : Env := a1M Tryz.prog tys eqs hw60 owns meths
def f6B : Anns := fun p c => match p,c with | [60],0 => some (.tmpl ⟨(dd 2 (.ptr 0 []::.ptr 1 []::.ptr 2 []::dd 1 (.ptr 3 []::dd 6 (.pl (.int .i64)::dd 56 [])))),[.box u256 (.pl u256),.box u256 (.pl u256),.box u256 (.pl u256),.box u256 (.pl u256)]⟩) | [60],2 => some (.tmpl ⟨(dd 2 (.ptr 0 []::.ptr 1 []::.ptr 2 []::dd 1 (.ptr 3 []::.pl (.int .i64)::.pl (.int .u64)::dd 4 (.pl (.int .i64)::dd 2 (.pl (.int .i64)::dd 53 []))))),[.box u256 (.pl u256),.box u256 (.pl u256),.box u256 (.pl u256),.box u256 (.pl u256)]⟩) | _,_ => none
theorem ev60 : ∀ x,a0U g1C f6B 60 uint256_MulC.In uint256_MulC.Out 60 K0 x = a7E x := by intro x; kernel_rfl
theorem ok60 : a1G Tryz.prog 60 uint256_MulC := a0G (E := g1C) (a1P a1Q a1O (show HowsOk Tryz.prog hw60 from (And.intro ok26 (And.intro f5F trivial))) follows a0P) a0T fun x _ h => ⟨f6B,60,K0,(ev60 x).trans h⟩
noncomputable def pricer_allocateC : Con := ⟨⟨[.pl a0E,.pl a0K,.pl a1B,.pl (.int .u64)],[]⟩,⟨[.pl a0O,.pl (.int .i64)],[]⟩,a6L⟩
noncomputable def hw29 : List (Nat × How) := [(22,.con uint256_FromUint64C),(59,.con alloc_AllocateC),(60,.con uint256_MulC)]
noncomputable def f3X : Env := a1M Tryz.prog tys eqs hw29 owns meths
def f3P : Anns := fun _ _ => none
theorem ev29 : ∀ x,a0U f3X f3P 29 pricer_allocateC.In pricer_allocateC.Out 60 K0 x = a6L x := by intro x; kernel_rfl
theorem ok29 : a1G Tryz.prog 29 pricer_allocateC := a0G (E := f3X) (a1P a1Q a1O (show HowsOk Tryz.prog hw29 from (And.intro ok22 (And.intro ok59 (And.intro ok60 trivial)))) follows a0P) a0T fun x _ h => ⟨f3P,60,K0,(ev29 x).trans h⟩
noncomputable def uint256_AddC : Con := ⟨⟨[.pl u256,.pl u256],[]⟩,⟨[.pl u256,.pl (.int .i64)],[]⟩,a1V⟩
noncomputable def hw61 : List (Nat × How) := [(26,.con c4T)]
noncomputable def f4K : Env := a1M Tryz.prog tys eqs hw61 owns meths
def f8P : Anns := fun p _ => match p with | 1000000::_ => none | _ => some (.unroll 6)
theorem ev61 : ∀ x,a0U f4K f8P 61 uint256_AddC.In uint256_AddC.Out 60 K0 x = a1V x := by intro x; kernel_rfl
theorem ok61 : a1G Tryz.prog 61 uint256_AddC := a0G (E := f4K) (a1P a1Q a1O (show HowsOk Tryz.prog hw61 from (And.intro ok26 trivial)) follows a0P) a0T fun x _ h => ⟨f8P,60,K0,(ev61 x).trans h⟩
noncomputable def poster_AccrueC : Con := ⟨⟨[.pl (.sl a0D),.pl (.int .u64),.pl u256,.pl u256,.pl (.int .u64)],[]⟩,⟨[.pl (.sl a0D),.pl (.int .i64)],[]⟩,a8D⟩
noncomputable def hw30 : List (Nat × How) := [(47,.con poster_ValidC),(53,.con poster_FindC),(55,.con slices_Clone___api_Poster_api_Poster_C),(61,.con uint256_AddC),(62,.con poster_isZeroC)]
noncomputable def f9T : Env := a1M Tryz.prog tys eqs hw30 owns meths
def f5M : Anns := fun p c => match p,c with | [1000000,30],14 => some (.join ⟨(.pl (.sl a0D)::dd 3 (.pl (.int .u64)::dd 7 (.pl (.int .i64)::.ptr 0 []::dd 2 (.ptr 1 []::dd 1 (.ptr 2 []::dd 1 (.ptr 3 []::dd 84 [])))))),[.box a0D (.pl a0D),.box u256 (.pl u256),.box u256 (.pl u256),.box u256 (.pl u256)]⟩) | [1000000,30],16 => some (.join ⟨(.pl (.sl a0D)::dd 11 (.pl (.int .i64)::.ptr 0 []::dd 2 (.ptr 1 []::dd 1 (.ptr 2 []::dd 1 (.ptr 3 []::dd 84 []))))),[.box a0D (.pl a0D),.box u256 (.pl u256),.box u256 (.pl u256),.box u256 (.pl u256)]⟩) | [1000000,30],4 => some (.join ⟨(.pl (.sl a0D)::dd 3 (.pl (.int .u64)::dd 2 (.ptr 0 []::.ptr 1 []::dd 3 (.pl (.int .i64)::dd 13 (.pl .bool::dd 78 []))))),[.box u256 (.pl u256),.box u256 (.pl u256)]⟩) | [1000000,30],7 => some (.join ⟨(.pl (.sl a0D)::dd 3 (.pl (.int .u64)::dd 2 (.ptr 0 []::.ptr 1 []::dd 3 (.pl (.int .i64)::dd 92 [])))),[.box u256 (.pl u256),.box u256 (.pl u256)]⟩) | _,_ => none
theorem ev30 : ∀ x,a0U f9T f5M 30 poster_AccrueC.In poster_AccrueC.Out 60 K0 x = a8D x := by intro x; kernel_rfl
theorem ok30 : a1G Tryz.prog 30 poster_AccrueC := a0G (E := f9T) (a1P a1Q a1O (show HowsOk Tryz.prog hw30 from (And.intro ok47 (And.intro ok53 (And.intro ok55 (And.intro ok61 (And.intro ok62 trivial)))))) follows a0P) a0T fun x _ h => ⟨f5M,60,K0,(ev30 x).trans h⟩
noncomputable def debtqueue_items_LenC : Con := ⟨⟨[.pl (.sl a0V)],[]⟩,⟨[.pl (.int .i64)],[]⟩,a3X⟩
noncomputable def f2C : List (Nat × How) := []
noncomputable def e7S : Env := a1M Tryz.prog tys eqs f2C owns meths
def e6O : Anns := fun _ _ => none
theorem g3U : ∀ x,a0U e7S e6O 161 debtqueue_items_LenC.In debtqueue_items_LenC.Out 60 K0 x = a3X x := by intro x; kernel_rfl
theorem f2Y : a1G Tryz.prog 161 debtqueue_items_LenC := a0G (E := e7S) (a1P a1Q a1O (show HowsOk Tryz.prog f2C from trivial) follows a0P) a0T fun x _ h => ⟨e6O,60,K0,(g3U x).trans h⟩
noncomputable def debtqueue_items_LessC : Con := ⟨⟨[.pl (.sl a0V),.pl (.int .i64),.pl (.int .i64)],[]⟩,⟨[.pl .bool],[]⟩,a1N⟩
noncomputable def f8B : List (Nat × How) := []
noncomputable def e8G : Env := a1M Tryz.prog tys eqs f8B owns meths
def e8D : Anns := fun _ _ => none
theorem g2H : ∀ x,a0U e8G e8D 162 debtqueue_items_LessC.In debtqueue_items_LessC.Out 60 K0 x = a1N x := by intro x; kernel_rfl
theorem f8L : a1G Tryz.prog 162 debtqueue_items_LessC := a0G (E := e8G) (a1P a1Q a1O (show HowsOk Tryz.prog f8B from trivial) follows a0P) a0T fun x _ h => ⟨e8D,60,K0,(g2H x).trans h⟩
noncomputable def container_heap_PushC : Con := ⟨⟨[.iface 148 (.ptr 0 [.fld 0]),.iface 150 (.pl a0V)],[.box a1C (.pair (.whole 1) (.pl .nil)),.row a0V]⟩,⟨[],[.box a1C (.pair (.whole 1) (.pl .nil)),.row a0V]⟩,a3Y⟩
noncomputable def f7M : List (Nat × How) := [(124,.inl),(161,.con debtqueue_items_LenC),(162,.con debtqueue_items_LessC),(163,.inl),(165,.inl)]
noncomputable def e8S : Env := a1M Tryz.prog tys eqs f7M owns meths
def e8C : Anns := fun p c => match p,c with | [124,1,4,103],0 => some (.tmpl ⟨((.iface 148 (.ptr 0 [.fld 0]))::.pl (.int .i64)::dd 33 (.ptr 0 []::[])),[.box a1C ((.pair (.whole 1) (.pl .nil))),.row a0V]⟩) | _,_ => none
theorem g3V : ∀ x,a0U e8S e8C 103 container_heap_PushC.In container_heap_PushC.Out 140 K0 x = a3Y x := by intro x; kernel_rfl
theorem g4K : a1G Tryz.prog 103 container_heap_PushC := a0G (E := e8S) (a1P a1Q a1O (show HowsOk Tryz.prog f7M from (And.intro f2Y (And.intro f8L trivial))) follows a0P) a0T fun x _ h => ⟨e8C,140,K0,(g3V x).trans h⟩
noncomputable def debtqueue_NewC : Con := ⟨⟨[.pl (.sl a0D)],[]⟩,⟨[.ptr 0 []],[.box a1C (.pair (.whole 1) (.pl .nil)),.row a0V]⟩,a7Y⟩
noncomputable def hw63 : List (Nat × How) := [(103,.con container_heap_PushC)]
noncomputable def f4S : Env := a1M Tryz.prog tys eqs hw63 owns meths
def f7O : Anns := fun p c => match p,c with | [63],0 => some (.tmpl ⟨(dd 3 (.ptr 0 []::dd 4 (.pl (.sl a0D)::.pl (.int .i64)::.pl (.int .i64)::dd 19 []))),[.box a1C ((.pair (.whole 1) (.pl .nil))),.row a0V]⟩) | _,_ => none
theorem ev63 : ∀ x,a0U f4S f7O 63 debtqueue_NewC.In debtqueue_NewC.Out 140 K0 x = a7Y x := by intro x; kernel_rfl
theorem ok63 : a1G Tryz.prog 63 debtqueue_NewC := a0G (E := f4S) (a1P a1Q a1O (show HowsOk Tryz.prog hw63 from (And.intro g4K trivial)) follows a0P) a0T fun x _ h => ⟨f7O,140,K0,(ev63 x).trans h⟩
noncomputable def debtqueue_Queue_LenC : Con := ⟨⟨[.ptr 0 []],[.box a1C (.pair (.whole 1) (.pl .nil)),.row a0V]⟩,⟨[.pl (.int .i64)],[.box a1C (.pair (.whole 1) (.pl .nil)),.row a0V]⟩,a8C⟩
noncomputable def f7F : List (Nat × How) := []
noncomputable def e8N : Env := a1M Tryz.prog tys eqs f7F owns meths
def e5O : Anns := fun _ _ => none
theorem g2P : ∀ x,a0U e8N e5O 125 debtqueue_Queue_LenC.In debtqueue_Queue_LenC.Out 60 K0 x = a8C x := by intro x; kernel_rfl
theorem g3T : a1G Tryz.prog 125 debtqueue_Queue_LenC := a0G (E := e8N) (a1P a1Q a1O (show HowsOk Tryz.prog f7F from trivial) follows a0P) a0T fun x _ h => ⟨e5O,60,K0,(g2P x).trans h⟩
noncomputable def debtqueue_Queue_PeekC : Con := ⟨⟨[.ptr 0 []],[.box a1C (.pair (.whole 1) (.pl .nil)),.row a0V]⟩,⟨[.pl a0D,.pl .bool],[.box a1C (.pair (.whole 1) (.pl .nil)),.row a0V]⟩,a4R⟩
noncomputable def f6U : List (Nat × How) := [(125,.con debtqueue_Queue_LenC)]
noncomputable def e7L : Env := a1M Tryz.prog tys eqs f6U owns meths
def e5A : Anns := fun _ _ => none
theorem g3H : ∀ x,a0U e7L e5A 104 debtqueue_Queue_PeekC.In debtqueue_Queue_PeekC.Out 60 K0 x = a4R x := by intro x; kernel_rfl
theorem g2W : a1G Tryz.prog 104 debtqueue_Queue_PeekC := a0G (E := e7L) (a1P a1Q a1O (show HowsOk Tryz.prog f6U from (And.intro g3T trivial)) follows a0P) a0T fun x _ h => ⟨e5A,60,K0,(g3H x).trans h⟩
noncomputable def debtqueue_Queue_PopC : Con := ⟨⟨[.ptr 0 []],[.box a1C (.pair (.whole 1) (.pl .nil)),.row a0V]⟩,⟨[.pl a0D,.pl .bool],[.box a1C (.pair (.whole 1) (.pl .nil)),.row a0V]⟩,a2P⟩
noncomputable def hw64 : List (Nat × How) := [(104,.con debtqueue_Queue_PeekC),(105,.inl),(126,.inl),(161,.con debtqueue_items_LenC),(162,.con debtqueue_items_LessC),(163,.inl),(164,.inl)]
noncomputable def g0G : Env := a1M Tryz.prog tys eqs hw64 owns meths
def f3E : Anns := fun p c => match p,c with | [126,3,2,105,3,4,64],0 => some (.tmpl ⟨((.iface 148 (.ptr 0 [.fld 0]))::.pl (.int .i64)::.pl (.int .i64)::dd 4 (.pl (.int .i64)::dd 40 ((.iface 148 (.ptr 0 [.fld 0]))::dd 16 (.ptr 2 []::dd 1 (.ptr 3 []::.pl .bool::dd 13 (.ptr 0 []::[])))))),[.box a1C ((.pair (.whole 1) (.pl .nil))),.row a0V,.box a0D (.pl a0D),.box a0D (.pl a0D)]⟩) | _,_ => none
theorem ev64 : ∀ x,a0U g0G f3E 64 debtqueue_Queue_PopC.In debtqueue_Queue_PopC.Out 140 K0 x = a2P x := by intro x; kernel_rfl
theorem ok64 : a1G Tryz.prog 64 debtqueue_Queue_PopC := a0G (E := g0G) (a1P a1Q a1O (show HowsOk Tryz.prog hw64 from (And.intro g2W (And.intro f2Y (And.intro f8L trivial)))) follows a0P) a0T fun x _ h => ⟨f3E,140,K0,(ev64 x).trans h⟩
noncomputable def uint256_MinC : Con := ⟨⟨[.pl u256,.pl (.sl u256)],[]⟩,⟨[.pl u256],[]⟩,b0F⟩
noncomputable def hw65 : List (Nat × How) := [(106,.con uint256_CmpC)]
noncomputable def f9P : Env := a1M Tryz.prog tys eqs hw65 owns meths
def f7X : Anns := fun p c => match p,c with | [65],0 => some (.tmpl ⟨(dd 2 (.ptr 0 []::dd 1 (.ptr 1 []::dd 2 (.pl (.sl u256)::.pl (.int .i64)::.pl (.int .i64)::dd 10 [])))),[.box u256 (.pl u256),.box u256 (.pl u256)]⟩) | _,_ => none
theorem ev65 : ∀ x,a0U f9P f7X 65 uint256_MinC.In uint256_MinC.Out 60 K0 x = b0F x := by intro x; kernel_rfl
theorem ok65 : a1G Tryz.prog 65 uint256_MinC := a0G (E := f9P) (a1P a1Q a1O (show HowsOk Tryz.prog hw65 from (And.intro e4Y trivial)) follows a0P) a0T fun x _ h => ⟨f7X,60,K0,(ev65 x).trans h⟩
noncomputable def uint256_SubC : Con := ⟨⟨[.pl u256,.pl u256],[]⟩,⟨[.pl u256,.pl (.int .i64)],[]⟩,a8X⟩
noncomputable def f2K : List (Nat × How) := [(127,.con d6K)]
noncomputable def e5C : Env := a1M Tryz.prog tys eqs f2K owns meths
def e6T : Anns := fun p _ => match p with | 1000000::_ => none | _ => some (.unroll 6)
theorem g2Q : ∀ x,a0U e5C e6T 107 uint256_SubC.In uint256_SubC.Out 60 K0 x = a8X x := by intro x; kernel_rfl
theorem g1M : a1G Tryz.prog 107 uint256_SubC := a0G (E := e5C) (a1P a1Q a1O (show HowsOk Tryz.prog f2K from (And.intro f5P trivial)) follows a0P) a0T fun x _ h => ⟨e6T,60,K0,(g2Q x).trans h⟩
noncomputable def uint256_SaturatingSubC : Con := ⟨⟨[.pl u256,.pl u256],[]⟩,⟨[.pl u256],[]⟩,a2C⟩
noncomputable def hw66 : List (Nat × How) := [(107,.con uint256_SubC)]
noncomputable def f7Y : Env := a1M Tryz.prog tys eqs hw66 owns meths
def f4X : Anns := fun _ _ => none
theorem ev66 : ∀ x,a0U f7Y f4X 66 uint256_SaturatingSubC.In uint256_SaturatingSubC.Out 60 K0 x = a2C x := by intro x; kernel_rfl
theorem ok66 : a1G Tryz.prog 66 uint256_SaturatingSubC := a0G (E := f7Y) (a1P a1Q a1O (show HowsOk Tryz.prog hw66 from (And.intro g1M trivial)) follows a0P) a0T fun x _ h => ⟨f4X,60,K0,(ev66 x).trans h⟩
noncomputable def payout_PlanC : Con := ⟨⟨[.pl (.sl a0D),.pl u256],[]⟩,⟨[.pl (.sl a1D),.pl (.int .i64)],[]⟩,b0I⟩
noncomputable def hw31 : List (Nat × How) := [(47,.con poster_ValidC),(63,.con debtqueue_NewC),(64,.con debtqueue_Queue_PopC),(65,.con uint256_MinC),(66,.con uint256_SaturatingSubC)]
noncomputable def f4V : Env := a1M Tryz.prog tys eqs hw31 owns meths
def f3M : Anns := fun p c => match p,c with | [1000000,31],9 => some (.join ⟨(dd 3 (.ptr 0 []::dd 2 (.whole 1::.ptr 2 []::.ptr 4 []::dd 14 (.pl u256::.pl u256::.pl .bool::dd 23 [])))),[.box u256 (.pl u256),.row a1D,.box a1C ((.pair (.whole 3) (.pl .nil))),.row a0V,.box a0D (.pl a0D)]⟩) | [31],0 => some (.tmpl ⟨(dd 3 (.ptr 0 []::dd 2 (.whole 1::.ptr 2 []::.ptr 4 []::.pl .bool::dd 39 []))),[.box u256 (.pl u256),.row a1D,.box a1C ((.pair (.whole 3) (.pl .nil))),.row a0V,.box a0D (.pl a0D)]⟩) | _,_ => none
theorem ev31 : ∀ x,a0U f4V f3M 31 payout_PlanC.In payout_PlanC.Out 60 K0 x = b0I x := by intro x; kernel_rfl
theorem ok31 : a1G Tryz.prog 31 payout_PlanC := a0G (E := f4V) (a1P a1Q a1O (show HowsOk Tryz.prog hw31 from (And.intro ok47 (And.intro ok63 (And.intro ok64 (And.intro ok65 (And.intro ok66 trivial)))))) follows a0P) a0T fun x _ h => ⟨f3M,60,K0,(ev31 x).trans h⟩
noncomputable def poster_SettleC : Con := ⟨⟨[.pl (.sl a0D),.pl (.int .u64),.pl u256],[]⟩,⟨[.pl (.sl a0D),.pl (.int .i64)],[]⟩,a8A⟩
noncomputable def hw67 : List (Nat × How) := [(47,.con poster_ValidC),(53,.con poster_FindC),(55,.con slices_Clone___api_Poster_api_Poster_C),(61,.con uint256_AddC),(62,.con poster_isZeroC),(107,.con uint256_SubC)]
noncomputable def g0M : Env := a1M Tryz.prog tys eqs hw67 owns meths
def f5A : Anns := fun p c => match p,c with | [1000000,67],17 => some (.join ⟨(.pl (.sl a0D)::dd 7 (.pl (.int .i64)::.ptr 0 []::dd 51 [])),[.box a0D (.pl a0D)]⟩) | _,_ => none
theorem ev67 : ∀ x,a0U g0M f5A 67 poster_SettleC.In poster_SettleC.Out 60 K0 x = a8A x := by intro x; kernel_rfl
theorem ok67 : a1G Tryz.prog 67 poster_SettleC := a0G (E := g0M) (a1P a1Q a1O (show HowsOk Tryz.prog hw67 from (And.intro ok47 (And.intro ok53 (And.intro ok55 (And.intro ok61 (And.intro ok62 (And.intro g1M trivial))))))) follows a0P) a0T fun x _ h => ⟨f5A,60,K0,(ev67 x).trans h⟩
noncomputable def payout_ApplyC : Con := ⟨⟨[.pl (.sl a0D),.pl (.sl a1D)],[]⟩,⟨[.pl (.sl a0D),.pl (.int .i64)],[]⟩,a9B⟩
noncomputable def hw32 : List (Nat × How) := [(55,.con slices_Clone___api_Poster_api_Poster_C),(67,.con poster_SettleC)]
noncomputable def f3C : Env := a1M Tryz.prog tys eqs hw32 owns meths
def g0T : Anns := fun p c => match p,c with | [32],0 => some (.tmpl ⟨(dd 6 (.pl (.sl a0D)::dd 5 (.pl (.sl a1D)::.pl (.int .i64)::.pl (.int .i64)::dd 17 []))),[]⟩) | _,_ => none
theorem ev32 : ∀ x,a0U f3C g0T 32 payout_ApplyC.In payout_ApplyC.Out 60 K0 x = a9B x := by intro x; kernel_rfl
theorem ok32 : a1G Tryz.prog 32 payout_ApplyC := a0G (E := f3C) (a1P a1Q a1O (show HowsOk Tryz.prog hw32 from (And.intro ok55 (And.intro ok67 trivial))) follows a0P) a0T fun x _ h => ⟨g0T,60,K0,(ev32 x).trans h⟩
noncomputable def payout_SumC : Con := ⟨⟨[.pl (.sl a1D)],[]⟩,⟨[.pl u256,.pl (.int .i64)],[]⟩,b1O⟩
noncomputable def hw68 : List (Nat × How) := [(61,.con uint256_AddC)]
noncomputable def f2F : Env := a1M Tryz.prog tys eqs hw68 owns meths
def f5U : Anns := fun p c => match p,c with | [68],0 => some (.tmpl ⟨(dd 2 (.ptr 0 []::dd 1 (.ptr 1 []::dd 4 (.pl (.sl a1D)::.pl (.int .i64)::.pl (.int .i64)::dd 16 [])))),[.box u256 (.pl u256),.box u256 (.pl u256)]⟩) | _,_ => none
theorem ev68 : ∀ x,a0U f2F f5U 68 payout_SumC.In payout_SumC.Out 60 K0 x = b1O x := by intro x; kernel_rfl
theorem ok68 : a1G Tryz.prog 68 payout_SumC := a0G (E := f2F) (a1P a1Q a1O (show HowsOk Tryz.prog hw68 from (And.intro ok61 trivial)) follows a0P) a0T fun x _ h => ⟨f5U,60,K0,(ev68 x).trans h⟩
noncomputable def poster_TotalDueC : Con := ⟨⟨[.pl (.sl a0D)],[]⟩,⟨[.pl u256,.pl (.int .i64)],[]⟩,a6J⟩
noncomputable def hw69 : List (Nat × How) := [(47,.con poster_ValidC),(61,.con uint256_AddC)]
noncomputable def f7D : Env := a1M Tryz.prog tys eqs hw69 owns meths
def f4O : Anns := fun p c => match p,c with | [69],0 => some (.tmpl ⟨(dd 2 (.ptr 0 []::dd 1 (.ptr 1 []::dd 8 (.pl (.sl a0D)::.pl (.int .i64)::.pl (.int .i64)::dd 16 [])))),[.box u256 (.pl u256),.box u256 (.pl u256)]⟩) | _,_ => none
theorem ev69 : ∀ x,a0U f7D f4O 69 poster_TotalDueC.In poster_TotalDueC.Out 60 K0 x = a6J x := by intro x; kernel_rfl
theorem ok69 : a1G Tryz.prog 69 poster_TotalDueC := a0G (E := f7D) (a1P a1Q a1O (show HowsOk Tryz.prog hw69 from (And.intro ok47 (And.intro ok61 trivial))) follows a0P) a0T fun x _ h => ⟨f4O,60,K0,(ev69 x).trans h⟩
noncomputable def int256_NewC : Con := ⟨⟨[.pl .bool,.pl u256],[]⟩,⟨[.pl a0F],[]⟩,a5B⟩
noncomputable def g0X : List (Nat × How) := []
noncomputable def e7R : Env := a1M Tryz.prog tys eqs g0X owns meths
def e5F : Anns := fun _ _ => none
theorem g2Y : ∀ x,a0U e7R e5F 128 int256_NewC.In int256_NewC.Out 60 K0 x = a5B x := by intro x; kernel_rfl
theorem e1B : a1G Tryz.prog 128 int256_NewC := a0G (E := e7R) (a1P a1Q a1O (show HowsOk Tryz.prog g0X from trivial) follows a0P) a0T fun x _ h => ⟨e5F,60,K0,(g2Y x).trans h⟩
noncomputable def int256_DiffC : Con := ⟨⟨[.pl u256,.pl u256],[]⟩,⟨[.pl a0F],[]⟩,b0G⟩
noncomputable def f7B : List (Nat × How) := [(66,.con uint256_SaturatingSubC),(106,.con uint256_CmpC),(128,.con int256_NewC)]
noncomputable def e6W : Env := a1M Tryz.prog tys eqs f7B owns meths
def e8K : Anns := fun _ _ => none
theorem g4C : ∀ x,a0U e6W e8K 108 int256_DiffC.In int256_DiffC.Out 60 K0 x = b0G x := by intro x; kernel_rfl
theorem f2J : a1G Tryz.prog 108 int256_DiffC := a0G (E := e6W) (a1P a1Q a1O (show HowsOk Tryz.prog f7B from (And.intro ok66 (And.intro e4Y (And.intro e1B trivial)))) follows a0P) a0T fun x _ h => ⟨e8K,60,K0,(g4C x).trans h⟩
noncomputable def l1price_SurplusC : Con := ⟨⟨[.pl u256,.pl u256],[]⟩,⟨[.pl a0F],[]⟩,a7S⟩
noncomputable def hw70 : List (Nat × How) := [(108,.con int256_DiffC)]
noncomputable def f9R : Env := a1M Tryz.prog tys eqs hw70 owns meths
def f6R : Anns := fun _ _ => none
theorem ev70 : ∀ x,a0U f9R f6R 70 l1price_SurplusC.In l1price_SurplusC.Out 60 K0 x = a7S x := by intro x; kernel_rfl
theorem ok70 : a1G Tryz.prog 70 l1price_SurplusC := a0G (E := f9R) (a1P a1Q a1O (show HowsOk Tryz.prog hw70 from (And.intro f2J trivial)) follows a0P) a0T fun x _ h => ⟨f6R,60,K0,(ev70 x).trans h⟩
noncomputable def int256_NegC : Con := ⟨⟨[.pl a0F],[]⟩,⟨[.pl a0F,.pl (.int .i64)],[]⟩,b0Q⟩
noncomputable def f4Y : List (Nat × How) := [(48,.con int256_ValidC),(128,.con int256_NewC)]
noncomputable def e4Z : Env := a1M Tryz.prog tys eqs f4Y owns meths
def e5L : Anns := fun _ _ => none
theorem g2Z : ∀ x,a0U e4Z e5L 129 int256_NegC.In int256_NegC.Out 60 K0 x = b0Q x := by intro x; kernel_rfl
theorem g1G : a1G Tryz.prog 129 int256_NegC := a0G (E := e4Z) (a1P a1Q a1O (show HowsOk Tryz.prog f4Y from (And.intro ok48 (And.intro e1B trivial))) follows a0P) a0T fun x _ h => ⟨e5L,60,K0,(g2Z x).trans h⟩
noncomputable def muldiv_DivModC : Con := ⟨⟨[.pl u256,.pl u256],[]⟩,⟨[.pl u256,.pl u256,.pl (.int .i64)],[]⟩,a8B⟩
noncomputable def f3G : List (Nat × How) := [(123,.con muldiv_Div512C)]
noncomputable def e7O : Env := a1M Tryz.prog tys eqs f3G owns meths
def e7F : Anns := fun _ _ => none
theorem g3N : ∀ x,a0U e7O e7F 141 muldiv_DivModC.In muldiv_DivModC.Out 60 K0 x = a8B x := by intro x; kernel_rfl
theorem g2A : a1G Tryz.prog 141 muldiv_DivModC := a0G (E := e7O) (a1P a1Q a1O (show HowsOk Tryz.prog f3G from (And.intro f6O trivial)) follows a0P) a0T fun x _ h => ⟨e7F,60,K0,(g3N x).trans h⟩
noncomputable def int256_DivFloorC : Con := ⟨⟨[.pl a0F,.pl u256],[]⟩,⟨[.pl a0F,.pl (.int .i64)],[]⟩,a3F⟩
noncomputable def f3K : List (Nat × How) := [(22,.con uint256_FromUint64C),(48,.con int256_ValidC),(61,.con uint256_AddC),(128,.con int256_NewC),(141,.con muldiv_DivModC)]
noncomputable def e5N : Env := a1M Tryz.prog tys eqs f3K owns meths
def e5G : Anns := fun p c => match p,c with | [1000000,130],8 => some (.join ⟨(dd 2 (.ptr 0 []::dd 1 (.ptr 1 []::dd 1 (.ptr 2 []::dd 24 (.pl .bool::dd 10 []))))),[.box a0F (.pl a0F),.box a0F (.pl a0F),.box u256 (.pl u256)]⟩) | _,_ => none
theorem g2E : ∀ x,a0U e5N e5G 130 int256_DivFloorC.In int256_DivFloorC.Out 60 K0 x = a3F x := by intro x; kernel_rfl
theorem g4I : a1G Tryz.prog 130 int256_DivFloorC := a0G (E := e5N) (a1P a1Q a1O (show HowsOk Tryz.prog f3K from (And.intro ok22 (And.intro ok48 (And.intro ok61 (And.intro e1B (And.intro g2A trivial)))))) follows a0P) a0T fun x _ h => ⟨e5G,60,K0,(g2E x).trans h⟩
noncomputable def int256_AddC : Con := ⟨⟨[.pl a0F,.pl a0F],[]⟩,⟨[.pl a0F,.pl (.int .i64)],[]⟩,b4T⟩
noncomputable def f2M : List (Nat × How) := [(48,.con int256_ValidC),(61,.con uint256_AddC),(108,.con int256_DiffC),(128,.con int256_NewC)]
noncomputable def e8W : Env := a1M Tryz.prog tys eqs f2M owns meths
def e5P : Anns := fun p c => match p,c with | [1000000,142],4 => some (.join ⟨(dd 2 (.ptr 0 []::.ptr 1 []::.ptr 2 []::dd 45 [])),[.box a0F (.pl a0F),.box a0F (.pl a0F),.box a0F (.pl a0F)]⟩) | _,_ => none
theorem g3F : ∀ x,a0U e8W e5P 142 int256_AddC.In int256_AddC.Out 60 K0 x = b4T x := by intro x; kernel_rfl
theorem g4B : a1G Tryz.prog 142 int256_AddC := a0G (E := e8W) (a1P a1Q a1O (show HowsOk Tryz.prog f2M from (And.intro ok48 (And.intro ok61 (And.intro f2J (And.intro e1B trivial))))) follows a0P) a0T fun x _ h => ⟨e5P,60,K0,(g3F x).trans h⟩
noncomputable def int256_SubC : Con := ⟨⟨[.pl a0F,.pl a0F],[]⟩,⟨[.pl a0F,.pl (.int .i64)],[]⟩,a8M⟩
noncomputable def f9O : List (Nat × How) := [(48,.con int256_ValidC),(129,.con int256_NegC),(142,.con int256_AddC)]
noncomputable def e7B : Env := a1M Tryz.prog tys eqs f9O owns meths
def e6D : Anns := fun p c => match p,c with | [1000000,131],5 => some (.join ⟨(dd 2 (.ptr 0 []::dd 1 (.ptr 1 []::dd 1 (.ptr 2 []::dd 19 [])))),[.box a0F (.pl a0F),.box a0F (.pl a0F),.box a0F (.pl a0F)]⟩) | _,_ => none
theorem g4J : ∀ x,a0U e7B e6D 131 int256_SubC.In int256_SubC.Out 60 K0 x = a8M x := by intro x; kernel_rfl
theorem g2U : a1G Tryz.prog 131 int256_SubC := a0G (E := e7B) (a1P a1Q a1O (show HowsOk Tryz.prog f9O from (And.intro ok48 (And.intro g1G (And.intro g4B trivial)))) follows a0P) a0T fun x _ h => ⟨e6D,60,K0,(g4J x).trans h⟩
noncomputable def int256_MulC : Con := ⟨⟨[.pl a0F,.pl a0F],[]⟩,⟨[.pl a0F,.pl (.int .i64)],[]⟩,a9I⟩
noncomputable def f2N : List (Nat × How) := [(48,.con int256_ValidC),(60,.con uint256_MulC),(128,.con int256_NewC)]
noncomputable def e7K : Env := a1M Tryz.prog tys eqs f2N owns meths
def e8A : Anns := fun p c => match p,c with | [1000000,132],4 => some (.join ⟨(dd 2 (.ptr 0 []::.ptr 1 []::.ptr 2 []::dd 31 [])),[.box a0F (.pl a0F),.box a0F (.pl a0F),.box a0F (.pl a0F)]⟩) | _,_ => none
theorem g3Z : ∀ x,a0U e7K e8A 132 int256_MulC.In int256_MulC.Out 60 K0 x = a9I x := by intro x; kernel_rfl
theorem g2V : a1G Tryz.prog 132 int256_MulC := a0G (E := e7K) (a1P a1Q a1O (show HowsOk Tryz.prog f2N from (And.intro ok48 (And.intro ok60 (And.intro e1B trivial)))) follows a0P) a0T fun x _ h => ⟨e8A,60,K0,(g3Z x).trans h⟩
noncomputable def uint256_maxValueC : Con := ⟨⟨[],[]⟩,⟨[.pl u256],[]⟩,b0E⟩
noncomputable def f8D : List (Nat × How) := []
noncomputable def e5W : Env := a1M Tryz.prog tys eqs f8D owns meths
def e8R : Anns := fun _ _ => none
theorem g3E : ∀ x,a0U e5W e8R 143 uint256_maxValueC.In uint256_maxValueC.Out 60 K0 x = b0E x := by intro x; kernel_rfl
theorem g3B : a1G Tryz.prog 143 uint256_maxValueC := a0G (E := e5W) (a1P a1Q a1O (show HowsOk Tryz.prog f8D from trivial) follows a0P) a0T fun x _ h => ⟨e8R,60,K0,(g3E x).trans h⟩
noncomputable def uint256_SaturatingAddC : Con := ⟨⟨[.pl u256,.pl u256],[]⟩,⟨[.pl u256],[]⟩,a2A⟩
noncomputable def f4G : List (Nat × How) := [(61,.con uint256_AddC),(143,.con uint256_maxValueC)]
noncomputable def e5M : Env := a1M Tryz.prog tys eqs f4G owns meths
def e5H : Anns := fun _ _ => none
theorem g3A : ∀ x,a0U e5M e5H 133 uint256_SaturatingAddC.In uint256_SaturatingAddC.Out 60 K0 x = a2A x := by intro x; kernel_rfl
theorem g1Q : a1G Tryz.prog 133 uint256_SaturatingAddC := a0G (E := e5M) (a1P a1Q a1O (show HowsOk Tryz.prog f4G from (And.intro ok61 (And.intro g3B trivial))) follows a0P) a0T fun x _ h => ⟨e5H,60,K0,(g3A x).trans h⟩
noncomputable def l1price_DeltaC : Con := ⟨⟨[.pl a0F,.pl a0F,.pl (.int .u64),.pl a0K],[]⟩,⟨[.pl a0F,.pl (.int .i64)],[]⟩,a7V⟩
noncomputable def f4C : List (Nat × How) := [(22,.con uint256_FromUint64C),(48,.con int256_ValidC),(57,.con params_ValidC),(129,.con int256_NegC),(130,.con int256_DivFloorC),(131,.con int256_SubC),(132,.con int256_MulC),(133,.con uint256_SaturatingAddC)]
noncomputable def e7Q : Env := a1M Tryz.prog tys eqs f4C owns meths
def e8O : Anns := fun p c => match p,c with | [1000000,109],6 => some (.join ⟨(dd 2 (.pl (.int .u64)::dd 1 (.ptr 0 []::.ptr 1 []::dd 1 (.ptr 2 []::.ptr 3 []::dd 96 [])))),[.box a0F (.pl a0F),.box a0F (.pl a0F),.box a0K (.pl a0K),.box a0F (.pl a0F)]⟩) | _,_ => none
theorem g2S : ∀ x,a0U e7Q e8O 109 l1price_DeltaC.In l1price_DeltaC.Out 60 K0 x = a7V x := by intro x; kernel_rfl
theorem g2M : a1G Tryz.prog 109 l1price_DeltaC := a0G (E := e7Q) (a1P a1Q a1O (show HowsOk Tryz.prog f4C from (And.intro ok22 (And.intro ok48 (And.intro ok57 (And.intro g1G (And.intro g4I (And.intro g2U (And.intro g2V (And.intro g1Q trivial))))))))) follows a0P) a0T fun x _ h => ⟨e8O,60,K0,(g2S x).trans h⟩
noncomputable def int256_AddClampedC : Con := ⟨⟨[.pl u256,.pl a0F],[]⟩,⟨[.pl u256,.pl (.int .i64)],[]⟩,a5Y⟩
noncomputable def f7I : List (Nat × How) := [(48,.con int256_ValidC),(61,.con uint256_AddC),(66,.con uint256_SaturatingSubC)]
noncomputable def e6S : Env := a1M Tryz.prog tys eqs f7I owns meths
def e7W : Anns := fun _ _ => none
theorem g1P : ∀ x,a0U e6S e7W 110 int256_AddClampedC.In int256_AddClampedC.Out 60 K0 x = a5Y x := by intro x; kernel_rfl
theorem g1N : a1G Tryz.prog 110 int256_AddClampedC := a0G (E := e6S) (a1P a1Q a1O (show HowsOk Tryz.prog f7I from (And.intro ok48 (And.intro ok61 (And.intro ok66 trivial)))) follows a0P) a0T fun x _ h => ⟨e7W,60,K0,(g1P x).trans h⟩
noncomputable def l1price_NextC : Con := ⟨⟨[.pl u256,.pl a0F,.pl a0F,.pl (.int .u64),.pl a0K],[]⟩,⟨[.pl u256,.pl (.int .i64)],[]⟩,a9A⟩
noncomputable def hw71 : List (Nat × How) := [(48,.con int256_ValidC),(57,.con params_ValidC),(109,.con l1price_DeltaC),(110,.con int256_AddClampedC)]
noncomputable def f6I : Env := a1M Tryz.prog tys eqs hw71 owns meths
def g0Y : Anns := fun p c => match p,c with | [1000000,71],5 => some (.join ⟨(dd 3 (.pl (.int .u64)::dd 1 (.ptr 0 []::.ptr 1 []::.ptr 2 []::dd 1 (.ptr 3 []::.ptr 4 []::dd 8 (.pl .bool::dd 30 []))))),[.box u256 (.pl u256),.box a0F (.pl a0F),.box a0F (.pl a0F),.box a0K (.pl a0K),.box u256 (.pl u256)]⟩) | [1000000,71],8 => some (.join ⟨(dd 3 (.pl (.int .u64)::dd 1 (.ptr 0 []::.ptr 1 []::.ptr 2 []::dd 1 (.ptr 3 []::.ptr 4 []::dd 39 [])))),[.box u256 (.pl u256),.box a0F (.pl a0F),.box a0F (.pl a0F),.box a0K (.pl a0K),.box u256 (.pl u256)]⟩) | _,_ => none
theorem ev71 : ∀ x,a0U f6I g0Y 71 l1price_NextC.In l1price_NextC.Out 60 K0 x = a9A x := by intro x; kernel_rfl
theorem ok71 : a1G Tryz.prog 71 l1price_NextC := a0G (E := f6I) (a1P a1Q a1O (show HowsOk Tryz.prog hw71 from (And.intro ok48 (And.intro ok57 (And.intro g2M (And.intro g1N trivial))))) follows a0P) a0T fun x _ h => ⟨g0Y,60,K0,(ev71 x).trans h⟩
noncomputable def pricer_adjustC : Con := ⟨⟨[.pl a0E,.pl a0K,.pl u256,.pl a0O],[]⟩,⟨[.pl a0E,.pl (.int .i64)],[]⟩,a7Z⟩
noncomputable def hw33 : List (Nat × How) := [(66,.con uint256_SaturatingSubC),(68,.con payout_SumC),(69,.con poster_TotalDueC),(70,.con l1price_SurplusC),(71,.con l1price_NextC)]
noncomputable def f8U : Env := a1M Tryz.prog tys eqs hw33 owns meths
def f8O : Anns := fun _ _ => none
theorem ev33 : ∀ x,a0U f8U f8O 33 pricer_adjustC.In pricer_adjustC.Out 60 K0 x = a7Z x := by intro x; kernel_rfl
theorem ok33 : a1G Tryz.prog 33 pricer_adjustC := a0G (E := f8U) (a1P a1Q a1O (show HowsOk Tryz.prog hw33 from (And.intro ok66 (And.intro ok68 (And.intro ok69 (And.intro ok70 (And.intro ok71 trivial)))))) follows a0P) a0T fun x _ h => ⟨f8O,60,K0,(ev33 x).trans h⟩
noncomputable def pricer_ReportC : Con := ⟨⟨[.pl a0E,.pl a0K,.pl u256,.pl a1B,.pl (.int .u64)],[]⟩,⟨[.pl a0E,.pl a0O,.pl (.int .i64)],[]⟩,a5R⟩
noncomputable def hw14 : List (Nat × How) := [(28,.con pricer_checkReportC),(29,.con pricer_allocateC),(30,.con poster_AccrueC),(31,.con payout_PlanC),(32,.con payout_ApplyC),(33,.con pricer_adjustC)]
noncomputable def f3B : Env := a1M Tryz.prog tys eqs hw14 owns meths
def f4P : Anns := fun p c => match p,c with | [1000000,14],11 => some (.join ⟨(dd 5 (.ptr 0 []::.ptr 1 []::.ptr 2 []::.ptr 3 []::dd 1 (.ptr 4 []::.ptr 5 []::dd 2 (.ptr 6 []::.pl (.int .i64)::dd 86 [])))),[.box a0E (.pl a0E),.box a0K (.pl a0K),.box u256 (.pl u256),.box a1B (.pl a1B),.box a0E (.pl a0E),.box a0O (.pl a0O),.box a0O (.pl a0O)]⟩) | [1000000,14],13 => some (.join ⟨(dd 5 (.ptr 0 []::.ptr 1 []::.ptr 2 []::.ptr 3 []::dd 1 (.ptr 4 []::.ptr 5 []::dd 2 (.ptr 6 []::.pl (.int .i64)::dd 86 [])))),[.box a0E (.pl a0E),.box a0K (.pl a0K),.box u256 (.pl u256),.box a1B (.pl a1B),.box a0E (.pl a0E),.box a0O (.pl a0O),.box a0O (.pl a0O)]⟩) | [1000000,14],15 => some (.join ⟨(dd 5 (.ptr 0 []::dd 2 (.ptr 1 []::dd 1 (.ptr 2 []::.ptr 3 []::dd 2 (.ptr 4 []::.pl (.int .i64)::dd 86 []))))),[.box a0E (.pl a0E),.box a1B (.pl a1B),.box a0E (.pl a0E),.box a0O (.pl a0O),.box a0O (.pl a0O)]⟩) | [1000000,14],9 => some (.join ⟨(dd 5 (.ptr 0 []::.ptr 1 []::.ptr 2 []::.ptr 3 []::dd 1 (.ptr 4 []::.ptr 5 []::dd 2 (.ptr 6 []::.pl (.int .i64)::dd 86 [])))),[.box a0E (.pl a0E),.box a0K (.pl a0K),.box u256 (.pl u256),.box a1B (.pl a1B),.box a0E (.pl a0E),.box a0O (.pl a0O),.box a0O (.pl a0O)]⟩) | _,_ => none
theorem ev14 : ∀ x,a0U f3B f4P 14 pricer_ReportC.In pricer_ReportC.Out 60 K0 x = a5R x := by intro x; kernel_rfl
theorem ok14 : a1G Tryz.prog 14 pricer_ReportC := a0G (E := f3B) (a1P a1Q a1O (show HowsOk Tryz.prog hw14 from (And.intro ok28 (And.intro ok29 (And.intro ok30 (And.intro ok31 (And.intro ok32 (And.intro ok33 trivial))))))) follows a0P) a0T fun x _ h => ⟨f4P,60,K0,(ev14 x).trans h⟩
noncomputable def pontagelaw21_awakeC : Con := ⟨⟨[],[]⟩,⟨[.pl .bool],[]⟩,a4Q⟩
noncomputable def hw5 : List (Nat × How) := [(7,.con params_GenesisC),(8,.con pricer_GenesisC),(10,.con pricer_AddPosterC),(14,.con pricer_ReportC)]
noncomputable def env5 : Env := a1M Tryz.prog tys eqs hw5 owns meths
def ann5 : Anns := fun _ _ => none
theorem ev5 : ∀ x,a0U env5 ann5 5 pontagelaw21_awakeC.In pontagelaw21_awakeC.Out 160 K0 x = a4Q x := by intro x; kernel_rfl
theorem ok5 : a1G Tryz.prog 5 pontagelaw21_awakeC := a0G (E := env5) (a1P a1Q a1O (show HowsOk Tryz.prog hw5 from (And.intro ok7 (And.intro ok8 (And.intro ok10 (And.intro ok14 trivial))))) follows a0P) a0T fun x _ h => ⟨ann5,160,K0,(ev5 x).trans h⟩
noncomputable def pontagelaw14_ValidParamsC : Con := ⟨⟨[.pl (.arr 8 (.int .u64))],[]⟩,⟨[.pl a0K],[]⟩,a3C⟩
noncomputable def hw6 : List (Nat × How) := [(7,.con params_GenesisC)]
noncomputable def env6 : Env := a1M Tryz.prog tys eqs hw6 owns meths
def ann6 : Anns := fun _ _ => none
theorem ev6 : ∀ x,a0U env6 ann6 6 pontagelaw14_ValidParamsC.In pontagelaw14_ValidParamsC.Out 160 K0 x = a3C x := by intro x; kernel_rfl
theorem ok6 : a1G Tryz.prog 6 pontagelaw14_ValidParamsC := a0G (E := env6) (a1P a1Q a1O (show HowsOk Tryz.prog hw6 from (And.intro ok7 trivial)) follows a0P) a0T fun x _ h => ⟨ann6,160,K0,(ev6 x).trans h⟩
noncomputable def pontagelaw0_ModC : Con := ⟨⟨[.pl (.int .i64),.pl (.int .i64)],[]⟩,⟨[.pl (.int .i64)],[]⟩,a9C⟩
noncomputable def hw23 : List (Nat × How) := []
noncomputable def f9U : Env := a1M Tryz.prog tys eqs hw23 owns meths
def f3F : Anns := fun _ _ => none
theorem ev23 : ∀ x,a0U f9U f3F 23 pontagelaw0_ModC.In pontagelaw0_ModC.Out 160 K0 x = a9C x := by intro x; kernel_rfl
theorem ok23 : a1G Tryz.prog 23 pontagelaw0_ModC := a0G (E := f9U) (a1P a1Q a1O (show HowsOk Tryz.prog hw23 from trivial) follows a0P) a0T fun x _ h => ⟨f3F,160,K0,(ev23 x).trans h⟩
noncomputable def pontagelaw21_normalizeC : Con := ⟨⟨[.pl a2E,.pl (.int .i64),.pl a0E,.pl (.int .u64)],[]⟩,⟨[.pl a2E],[]⟩,a4V⟩
noncomputable def hw9 : List (Nat × How) := [(23,.con pontagelaw0_ModC)]
noncomputable def env9 : Env := a1M Tryz.prog tys eqs hw9 owns meths
def ann9 : Anns := fun _ _ => none
theorem ev9 : ∀ x,a0U env9 ann9 9 pontagelaw21_normalizeC.In pontagelaw21_normalizeC.Out 160 K0 x = a4V x := by intro x; kernel_rfl
theorem ok9 : a1G Tryz.prog 9 pontagelaw21_normalizeC := a0G (E := env9) (a1P a1Q a1O (show HowsOk Tryz.prog hw9 from (And.intro ok23 trivial)) follows a0P) a0T fun x _ h => ⟨ann9,160,K0,(ev9 x).trans h⟩
noncomputable def pontageref1_normC : Con := ⟨⟨[.pl (.sl (.int .i64))],[]⟩,⟨[.pl (.sl (.int .i64))],[]⟩,a3V⟩
noncomputable def f9J : List (Nat × How) := []
noncomputable def e7P : Env := a1M Tryz.prog tys eqs f9J owns meths
def e6P : Anns := fun p c => match p,c with | [113],0 => some (.tmpl ⟨(.pl (.sl (.int .i64))::dd 2 (.pl (.int .i64)::dd 17 [])),[]⟩) | _,_ => none
theorem g1R : ∀ x,a0U e7P e6P 113 pontageref1_normC.In pontageref1_normC.Out 60 K0 x = a3V x := by intro x; kernel_rfl
theorem f0M : a1G Tryz.prog 113 pontageref1_normC := a0G (E := e7P) (a1P a1Q a1O (show HowsOk Tryz.prog f9J from trivial) follows a0P) a0T fun x _ h => ⟨e6P,60,K0,(g1R x).trans h⟩
noncomputable def pontageref1_FromUint256C : Con := ⟨⟨[.pl u256],[]⟩,⟨[.pl (.sl (.int .i64))],[]⟩,a0I⟩
noncomputable def hw79 : List (Nat × How) := [(113,.con pontageref1_normC)]
noncomputable def f5V : Env := a1M Tryz.prog tys eqs hw79 owns meths
def f7L : Anns := fun p c => match p,c with | [79],0 => some (.tmpl ⟨(dd 1 (.ptr 0 []::dd 1 (.whole 1::.pl (.int .i64)::dd 21 []))),[.box u256 (.pl u256),.row (.int .i64)]⟩) | _,_ => none
theorem ev79 : ∀ x,a0U f5V f7L 79 pontageref1_FromUint256C.In pontageref1_FromUint256C.Out 60 K0 x = a0I x := by intro x; kernel_rfl
theorem ok79 : a1G Tryz.prog 79 pontageref1_FromUint256C := a0G (E := f5V) (a1P a1Q a1O (show HowsOk Tryz.prog hw79 from (And.intro f0M trivial)) follows a0P) a0T fun x _ h => ⟨f7L,60,K0,(ev79 x).trans h⟩
noncomputable def pontageref1_AddC : Con := ⟨⟨[.pl (.sl (.int .i64)),.pl (.sl (.int .i64))],[]⟩,⟨[.pl (.sl (.int .i64))],[]⟩,a2B⟩
noncomputable def hw80 : List (Nat × How) := []
noncomputable def g1A : Env := a1M Tryz.prog tys eqs hw80 owns meths
def f8C : Anns := fun p c => match p,c with | [1000000,80],7 => some (.join ⟨(.pl (.sl (.int .i64))::.pl (.sl (.int .i64))::dd 3 (.whole 0::.pl (.int .i64)::.pl (.int .i64)::dd 44 [])),[.row (.int .i64)]⟩) | [1000000,80],9 => some (.join ⟨(.pl (.sl (.int .i64))::.pl (.sl (.int .i64))::dd 3 (.whole 0::.pl (.int .i64)::.pl (.int .i64)::dd 44 [])),[.row (.int .i64)]⟩) | [80],0 => some (.tmpl ⟨(.pl (.sl (.int .i64))::.pl (.sl (.int .i64))::dd 3 (.whole 0::.pl (.int .i64)::.pl (.int .i64)::dd 44 [])),[.row (.int .i64)]⟩) | _,_ => none
theorem ev80 : ∀ x,a0U g1A f8C 80 pontageref1_AddC.In pontageref1_AddC.Out 60 K0 x = a2B x := by intro x; kernel_rfl
theorem ok80 : a1G Tryz.prog 80 pontageref1_AddC := a0G (E := g1A) (a1P a1Q a1O (show HowsOk Tryz.prog hw80 from trivial) follows a0P) a0T fun x _ h => ⟨f8C,60,K0,(ev80 x).trans h⟩
noncomputable def pontageref1_IsZeroC : Con := ⟨⟨[.pl u256],[]⟩,⟨[.pl .bool],[]⟩,a3B⟩
noncomputable def hw82 : List (Nat × How) := []
noncomputable def f8V : Env := a1M Tryz.prog tys eqs hw82 owns meths
def f6M : Anns := fun _ _ => none
theorem ev82 : ∀ x,a0U f8V f6M 82 pontageref1_IsZeroC.In pontageref1_IsZeroC.Out 60 K0 x = a3B x := by intro x; kernel_rfl
theorem ok82 : a1G Tryz.prog 82 pontageref1_IsZeroC := a0G (E := f8V) (a1P a1Q a1O (show HowsOk Tryz.prog hw82 from trivial) follows a0P) a0T fun x _ h => ⟨f6M,60,K0,(ev82 x).trans h⟩
noncomputable def pontageref1_CmpC : Con := ⟨⟨[.pl (.sl (.int .i64)),.pl (.sl (.int .i64))],[]⟩,⟨[.pl (.int .i64)],[]⟩,a3G⟩
noncomputable def hw87 : List (Nat × How) := []
noncomputable def g0P : Env := a1M Tryz.prog tys eqs hw87 owns meths
def g0O : Anns := fun p c => match p,c with | [87],0 => some (.tmpl ⟨(.pl (.sl (.int .i64))::.pl (.sl (.int .i64))::dd 3 (.pl (.int .i64)::dd 35 [])),[]⟩) | _,_ => none
theorem ev87 : ∀ x,a0U g0P g0O 87 pontageref1_CmpC.In pontageref1_CmpC.Out 60 K0 x = a3G x := by intro x; kernel_rfl
theorem ok87 : a1G Tryz.prog 87 pontageref1_CmpC := a0G (E := g0P) (a1P a1Q a1O (show HowsOk Tryz.prog hw87 from trivial) follows a0P) a0T fun x _ h => ⟨g0O,60,K0,(ev87 x).trans h⟩
noncomputable def pontageref16_ValidPosterC : Con := ⟨⟨[.pl a0D],[]⟩,⟨[.pl .bool],[]⟩,a4A⟩
noncomputable def hw94 : List (Nat × How) := [(79,.con pontageref1_FromUint256C),(80,.con pontageref1_AddC),(82,.con pontageref1_IsZeroC),(87,.con pontageref1_CmpC)]
noncomputable def f4T : Env := a1M Tryz.prog tys eqs hw94 owns meths
def g1I : Anns := fun _ _ => none
theorem ev94 : ∀ x,a0U f4T g1I 94 pontageref16_ValidPosterC.In pontageref16_ValidPosterC.Out 60 K0 x = a4A x := by intro x; kernel_rfl
theorem ok94 : a1G Tryz.prog 94 pontageref16_ValidPosterC := a0G (E := f4T) (a1P a1Q a1O (show HowsOk Tryz.prog hw94 from (And.intro ok79 (And.intro ok80 (And.intro ok82 (And.intro ok87 trivial))))) follows a0P) a0T fun x _ h => ⟨g1I,60,K0,(ev94 x).trans h⟩
noncomputable def pontageref16_ValidC : Con := ⟨⟨[.pl (.sl a0D)],[]⟩,⟨[.pl .bool],[]⟩,a2T⟩
noncomputable def hw51 : List (Nat × How) := [(94,.con pontageref16_ValidPosterC)]
noncomputable def f7W : Env := a1M Tryz.prog tys eqs hw51 owns meths
def g0K : Anns := fun p c => match p,c with | [51],0 => some (.tmpl ⟨(.pl (.sl a0D)::dd 2 (.pl (.int .i64)::dd 33 [])),[]⟩) | _,_ => none
theorem ev51 : ∀ x,a0U f7W g0K 51 pontageref16_ValidC.In pontageref16_ValidC.Out 60 K0 x = a2T x := by intro x; kernel_rfl
theorem ok51 : a1G Tryz.prog 51 pontageref16_ValidC := a0G (E := f7W) (a1P a1Q a1O (show HowsOk Tryz.prog hw51 from (And.intro ok94 trivial)) follows a0P) a0T fun x _ h => ⟨g0K,60,K0,(ev51 x).trans h⟩
noncomputable def pontageref3_ValidC : Con := ⟨⟨[.pl a0F],[]⟩,⟨[.pl .bool],[]⟩,a2Y⟩
noncomputable def hw52 : List (Nat × How) := [(82,.con pontageref1_IsZeroC)]
noncomputable def g1K : Env := a1M Tryz.prog tys eqs hw52 owns meths
def f5H : Anns := fun _ _ => none
theorem ev52 : ∀ x,a0U g1K f5H 52 pontageref3_ValidC.In pontageref3_ValidC.Out 60 K0 x = a2Y x := by intro x; kernel_rfl
theorem ok52 : a1G Tryz.prog 52 pontageref3_ValidC := a0G (E := g1K) (a1P a1Q a1O (show HowsOk Tryz.prog hw52 from (And.intro ok82 trivial)) follows a0P) a0T fun x _ h => ⟨f5H,60,K0,(ev52 x).trans h⟩
noncomputable def pontageref21_ValidC : Con := ⟨⟨[.pl a0E],[]⟩,⟨[.pl .bool],[]⟩,a4J⟩
noncomputable def hw21 : List (Nat × How) := [(51,.con pontageref16_ValidC),(52,.con pontageref3_ValidC)]
noncomputable def f6H : Env := a1M Tryz.prog tys eqs hw21 owns meths
def g0W : Anns := fun p c => match p,c with | [1000000,21],4 => some (.join ⟨(dd 1 (.ptr 0 []::dd 28 [])),[.box a0E (.pl a0E)]⟩) | [21],0 => some (.tmpl ⟨(dd 1 (.ptr 0 []::dd 1 (.pl (.int .i64)::dd 26 []))),[.box a0E (.pl a0E)]⟩) | _,_ => none
theorem ev21 : ∀ x,a0U f6H g0W 21 pontageref21_ValidC.In pontageref21_ValidC.Out 60 K0 x = a4J x := by intro x; kernel_rfl
theorem ok21 : a1G Tryz.prog 21 pontageref21_ValidC := a0G (E := f6H) (a1P a1Q a1O (show HowsOk Tryz.prog hw21 from (And.intro ok51 (And.intro ok52 trivial))) follows a0P) a0T fun x _ h => ⟨g0W,60,K0,(ev21 x).trans h⟩
noncomputable def pontageref16_FindC : Con := ⟨⟨[.pl (.sl a0D),.pl (.int .u64)],[]⟩,⟨[.pl (.int .i64)],[]⟩,a4D⟩
noncomputable def hw56 : List (Nat × How) := []
noncomputable def f7A : Env := a1M Tryz.prog tys eqs hw56 owns meths
def f9L : Anns := fun p c => match p,c with | [56],0 => some (.tmpl ⟨(.pl (.sl a0D)::.pl (.int .u64)::dd 3 (.pl (.int .i64)::dd 14 [])),[]⟩) | _,_ => none
theorem ev56 : ∀ x,a0U f7A f9L 56 pontageref16_FindC.In pontageref16_FindC.Out 60 K0 x = a4D x := by intro x; kernel_rfl
theorem ok56 : a1G Tryz.prog 56 pontageref16_FindC := a0G (E := f7A) (a1P a1Q a1O (show HowsOk Tryz.prog hw56 from trivial) follows a0P) a0T fun x _ h => ⟨f9L,60,K0,(ev56 x).trans h⟩
noncomputable def pontageref16_AddC : Con := ⟨⟨[.pl (.sl a0D),.pl (.int .u64)],[]⟩,⟨[.pl (.sl a0D),.pl (.int .i64)],[]⟩,a8F⟩
noncomputable def hw25 : List (Nat × How) := [(51,.con pontageref16_ValidC),(56,.con pontageref16_FindC)]
noncomputable def f4F : Env := a1M Tryz.prog tys eqs hw25 owns meths
def f8M : Anns := fun p c => match p,c with | [1000000,25],14 => some (.join ⟨(.pl (.sl a0D)::.pl (.int .u64)::dd 4 (.whole 0::.pl .bool::.pl (.int .i64)::dd 30 (.pl .bool::dd 20 []))),[.row a0D]⟩) | [1000000,25],4 => some (.join ⟨(.pl (.sl a0D)::.pl (.int .u64)::dd 58 []),[]⟩) | [25],0 => some (.tmpl ⟨(.pl (.sl a0D)::.pl (.int .u64)::dd 4 (.whole 0::.pl .bool::.pl (.int .i64)::dd 51 [])),[.row a0D]⟩) | _,_ => none
theorem ev25 : ∀ x,a0U f4F f8M 25 pontageref16_AddC.In pontageref16_AddC.Out 60 K0 x = a8F x := by intro x; kernel_rfl
theorem ok25 : a1G Tryz.prog 25 pontageref16_AddC := a0G (E := f4F) (a1P a1Q a1O (show HowsOk Tryz.prog hw25 from (And.intro ok51 (And.intro ok56 trivial))) follows a0P) a0T fun x _ h => ⟨f8M,60,K0,(ev25 x).trans h⟩
noncomputable def pontageref21_AddPosterC : Con := ⟨⟨[.pl a0E,.pl (.int .u64)],[]⟩,⟨[.pl a0E,.pl (.int .i64)],[]⟩,a4X⟩
noncomputable def hw11 : List (Nat × How) := [(21,.con pontageref21_ValidC),(25,.con pontageref16_AddC)]
noncomputable def g1F : Env := a1M Tryz.prog tys eqs hw11 owns meths
def g0V : Anns := fun _ _ => none
theorem ev11 : ∀ x,a0U g1F g0V 11 pontageref21_AddPosterC.In pontageref21_AddPosterC.Out 60 K0 x = a4X x := by intro x; kernel_rfl
theorem ok11 : a1G Tryz.prog 11 pontageref21_AddPosterC := a0G (E := g1F) (a1P a1Q a1O (show HowsOk Tryz.prog hw11 from (And.intro ok21 (And.intro ok25 trivial))) follows a0P) a0T fun x _ h => ⟨g0V,60,K0,(ev11 x).trans h⟩
noncomputable def pricer_clonedC : Con := ⟨⟨[.pl a0E],[]⟩,⟨[.pl a0E],[]⟩,b0Z⟩
noncomputable def hw27 : List (Nat × How) := [(55,.con slices_Clone___api_Poster_api_Poster_C)]
noncomputable def f8F : Env := a1M Tryz.prog tys eqs hw27 owns meths
def f5I : Anns := fun _ _ => none
theorem ev27 : ∀ x,a0U f8F f5I 27 pricer_clonedC.In pricer_clonedC.Out 60 K0 x = b0Z x := by intro x; kernel_rfl
theorem ok27 : a1G Tryz.prog 27 pricer_clonedC := a0G (E := f8F) (a1P a1Q a1O (show HowsOk Tryz.prog hw27 from (And.intro ok55 trivial)) follows a0P) a0T fun x _ h => ⟨f5I,60,K0,(ev27 x).trans h⟩
noncomputable def pricer_AddUnitsC : Con := ⟨⟨[.pl a0E,.pl (.int .u64)],[]⟩,⟨[.pl a0E,.pl (.int .i64)],[]⟩,a8W⟩
noncomputable def hw12 : List (Nat × How) := [(18,.con pricer_ValidC),(26,.con c4T),(27,.con pricer_clonedC)]
noncomputable def g1J : Env := a1M Tryz.prog tys eqs hw12 owns meths
def f8N : Anns := fun _ _ => none
theorem ev12 : ∀ x,a0U g1J f8N 12 pricer_AddUnitsC.In pricer_AddUnitsC.Out 60 K0 x = a8W x := by intro x; kernel_rfl
theorem ok12 : a1G Tryz.prog 12 pricer_AddUnitsC := a0G (E := g1J) (a1P a1Q a1O (show HowsOk Tryz.prog hw12 from (And.intro ok18 (And.intro ok26 (And.intro ok27 trivial)))) follows a0P) a0T fun x _ h => ⟨f8N,60,K0,(ev12 x).trans h⟩
noncomputable def pontageref21_AddUnitsC : Con := ⟨⟨[.pl a0E,.pl (.int .u64)],[]⟩,⟨[.pl a0E,.pl (.int .i64)],[]⟩,a5J⟩
noncomputable def hw13 : List (Nat × How) := [(21,.con pontageref21_ValidC)]
noncomputable def f6F : Env := a1M Tryz.prog tys eqs hw13 owns meths
def f9N : Anns := fun _ _ => none
theorem ev13 : ∀ x,a0U f6F f9N 13 pontageref21_AddUnitsC.In pontageref21_AddUnitsC.Out 60 K0 x = a5J x := by intro x; kernel_rfl
theorem ok13 : a1G Tryz.prog 13 pontageref21_AddUnitsC := a0G (E := f6F) (a1P a1Q a1O (show HowsOk Tryz.prog hw13 from (And.intro ok21 trivial)) follows a0P) a0T fun x _ h => ⟨f9N,60,K0,(ev13 x).trans h⟩
noncomputable def pontageref12_inC : Con := ⟨⟨[.pl (.int .u64),.pl (.int .u64),.pl (.int .u64)],[]⟩,⟨[.pl .bool],[]⟩,a2O⟩
noncomputable def f3V : List (Nat × How) := []
noncomputable def e6I : Env := a1M Tryz.prog tys eqs f3V owns meths
def e7T : Anns := fun _ _ => none
theorem g3J : ∀ x,a0U e6I e7T 134 pontageref12_inC.In pontageref12_inC.Out 60 K0 x = a2O x := by intro x; kernel_rfl
theorem g1V : a1G Tryz.prog 134 pontageref12_inC := a0G (E := e6I) (a1P a1Q a1O (show HowsOk Tryz.prog f3V from trivial) follows a0P) a0T fun x _ h => ⟨e7T,60,K0,(g3J x).trans h⟩
noncomputable def pontageref1_Uint64C : Con := ⟨⟨[.pl u256],[]⟩,⟨[.pl (.int .u64),.pl .bool],[]⟩,a7B⟩
noncomputable def f4B : List (Nat × How) := []
noncomputable def e6J : Env := a1M Tryz.prog tys eqs f4B owns meths
def e5R : Anns := fun _ _ => none
theorem g4L : ∀ x,a0U e6J e5R 144 pontageref1_Uint64C.In pontageref1_Uint64C.Out 60 K0 x = a7B x := by intro x; kernel_rfl
theorem g1O : a1G Tryz.prog 144 pontageref1_Uint64C := a0G (E := e6J) (a1P a1Q a1O (show HowsOk Tryz.prog f4B from trivial) follows a0P) a0T fun x _ h => ⟨e5R,60,K0,(g4L x).trans h⟩
noncomputable def pontageref12_atLeastC : Con := ⟨⟨[.pl u256,.pl (.int .u64)],[]⟩,⟨[.pl .bool],[]⟩,a3N⟩
noncomputable def f7G : List (Nat × How) := [(144,.con pontageref1_Uint64C)]
noncomputable def e7I : Env := a1M Tryz.prog tys eqs f7G owns meths
def e7G : Anns := fun _ _ => none
theorem g3D : ∀ x,a0U e7I e7G 135 pontageref12_atLeastC.In pontageref12_atLeastC.Out 60 K0 x = a3N x := by intro x; kernel_rfl
theorem g3O : a1G Tryz.prog 135 pontageref12_atLeastC := a0G (E := e7I) (a1P a1Q a1O (show HowsOk Tryz.prog f7G from (And.intro g1O trivial)) follows a0P) a0T fun x _ h => ⟨e7G,60,K0,(g3D x).trans h⟩
noncomputable def pontageref12_FirstInvalidC : Con := ⟨⟨[.pl a0K],[]⟩,⟨[.pl (.int .i64)],[]⟩,a3U⟩
noncomputable def f4W : List (Nat × How) := [(134,.con pontageref12_inC),(135,.con pontageref12_atLeastC)]
noncomputable def e7E : Env := a1M Tryz.prog tys eqs f4W owns meths
def e5I : Anns := fun p _ => match p with | 1000000::_ => none | _ => some (.unroll 14)
theorem g2O : ∀ x,a0U e7E e5I 111 pontageref12_FirstInvalidC.In pontageref12_FirstInvalidC.Out 90 K0 x = a3U x := by intro x; kernel_rfl
theorem g2T : a1G Tryz.prog 111 pontageref12_FirstInvalidC := a0G (E := e7E) (a1P a1Q a1O (show HowsOk Tryz.prog f4W from (And.intro g1V (And.intro g3O trivial))) follows a0P) a0T fun x _ h => ⟨e5I,90,K0,(g2O x).trans h⟩
noncomputable def pontageref12_ValidC : Con := ⟨⟨[.pl a0K],[]⟩,⟨[.pl .bool],[]⟩,a4P⟩
noncomputable def hw72 : List (Nat × How) := [(111,.con pontageref12_FirstInvalidC)]
noncomputable def g0J : Env := a1M Tryz.prog tys eqs hw72 owns meths
def f2H : Anns := fun _ _ => none
theorem ev72 : ∀ x,a0U g0J f2H 72 pontageref12_ValidC.In pontageref12_ValidC.Out 60 K0 x = a4P x := by intro x; kernel_rfl
theorem ok72 : a1G Tryz.prog 72 pontageref12_ValidC := a0G (E := g0J) (a1P a1Q a1O (show HowsOk Tryz.prog hw72 from (And.intro g2T trivial)) follows a0P) a0T fun x _ h => ⟨f2H,60,K0,(ev72 x).trans h⟩
noncomputable def pontageref1_BitLenC : Con := ⟨⟨[.pl u256],[]⟩,⟨[.pl (.int .i64)],[]⟩,a6R⟩
noncomputable def hw73 : List (Nat × How) := []
noncomputable def f4R : Env := a1M Tryz.prog tys eqs hw73 owns meths
def f5O : Anns := fun p c => match p,c with | [73],0 => some (.tmpl ⟨(dd 1 (.ptr 0 []::dd 1 (.pl (.int .i64)::.pl (.int .i64)::dd 17 []))),[.box u256 (.pl u256)]⟩) | _,_ => none
theorem ev73 : ∀ x,a0U f4R f5O 73 pontageref1_BitLenC.In pontageref1_BitLenC.Out 60 K0 x = a6R x := by intro x; kernel_rfl
theorem ok73 : a1G Tryz.prog 73 pontageref1_BitLenC := a0G (E := f4R) (a1P a1Q a1O (show HowsOk Tryz.prog hw73 from trivial) follows a0P) a0T fun x _ h => ⟨f5O,60,K0,(ev73 x).trans h⟩
noncomputable def pontageref21_checkC : Con := ⟨⟨[.pl a0E,.pl a0K,.pl a1B,.pl (.int .u64)],[]⟩,⟨[.pl (.int .i64)],[]⟩,a6Z⟩
noncomputable def hw34 : List (Nat × How) := [(21,.con pontageref21_ValidC),(56,.con pontageref16_FindC),(72,.con pontageref12_ValidC),(73,.con pontageref1_BitLenC)]
noncomputable def f3I : Env := a1M Tryz.prog tys eqs hw34 owns meths
def f3Y : Anns := fun p c => match p,c with | [1000000,34],10 => some (.join ⟨(dd 6 (.ptr 0 []::dd 29 [])),[.box a1B (.pl a1B)]⟩) | _,_ => none
theorem ev34 : ∀ x,a0U f3I f3Y 34 pontageref21_checkC.In pontageref21_checkC.Out 60 K0 x = a6Z x := by intro x; kernel_rfl
theorem ok34 : a1G Tryz.prog 34 pontageref21_checkC := a0G (E := f3I) (a1P a1Q a1O (show HowsOk Tryz.prog hw34 from (And.intro ok21 (And.intro ok56 (And.intro ok72 (And.intro ok73 trivial))))) follows a0P) a0T fun x _ h => ⟨f3Y,60,K0,(ev34 x).trans h⟩
noncomputable def pontageref1_SubC : Con := ⟨⟨[.pl (.sl (.int .i64)),.pl (.sl (.int .i64))],[]⟩,⟨[.pl (.sl (.int .i64))],[]⟩,a2S⟩
noncomputable def hw85 : List (Nat × How) := [(113,.inl)]
noncomputable def f3T : Env := a1M Tryz.prog tys eqs hw85 owns meths
def f7Z : Anns := fun p c => match p,c with | [1000000,85],10 => some (.join ⟨(.pl (.sl (.int .i64))::.pl (.sl (.int .i64))::dd 3 (.whole 0::dd 1 (.pl (.int .i64)::.pl (.int .i64)::dd 35 []))),[.row (.int .i64)]⟩) | [113,14,1,85],0 => some (.tmpl ⟨(.whole 0::dd 2 (.pl (.int .i64)::dd 61 [])),[.row (.int .i64)]⟩) | [85],0 => some (.tmpl ⟨(.pl (.sl (.int .i64))::.pl (.sl (.int .i64))::dd 3 (.whole 0::.pl (.int .i64)::.pl (.int .i64)::dd 36 [])),[.row (.int .i64)]⟩) | _,_ => none
theorem ev85 : ∀ x,c4M f3T f7Z 85 pontageref1_SubC.In pontageref1_SubC.Out 80 K0 x = a2S x := by intro x; kernel_rfl
theorem e3H : ConFresh Tryz.prog 85 pontageref1_SubC := d3P (E := f3T) (a1P a1Q a1O (show HowsOk Tryz.prog hw85 from trivial) follows a0P) a0T fun x _ h => ⟨f7Z, 80, K0, (ev85 x).trans h⟩
noncomputable def pontageref1_shortC : Con := ⟨⟨[.pl (.sl (.int .i64)),.pl (.int .i64)],[]⟩,⟨[.pl (.sl (.int .i64)),.pl (.sl (.int .i64))],[]⟩,a5Z⟩
noncomputable def f4I : List (Nat × How) := [(113,.con pontageref1_normC)]
noncomputable def e6Q : Env := a1M Tryz.prog tys eqs f4I owns meths
def e5V : Anns := fun p c => match p,c with | [112],0 => some (.tmpl ⟨(.pl (.sl (.int .i64))::.pl (.int .i64)::dd 4 (.whole 0::.pl (.int .i64)::.pl (.int .i64)::dd 32 [])),[.row (.int .i64)]⟩) | _,_ => none
theorem g3L : ∀ x,a0U e6Q e5V 112 pontageref1_shortC.In pontageref1_shortC.Out 60 K0 x = a5Z x := by intro x; kernel_rfl
theorem g3Q : a1G Tryz.prog 112 pontageref1_shortC := a0G (E := e6Q) (a1P a1Q a1O (show HowsOk Tryz.prog f4I from (And.intro f0M trivial)) follows a0P) a0T fun x _ h => ⟨e5V,60,K0,(g3L x).trans h⟩
noncomputable def pontageref1_DivC : Con := ⟨⟨[.pl (.sl (.int .i64)),.pl (.sl (.int .i64))],[]⟩,⟨[.pl (.sl (.int .i64)),.pl (.sl (.int .i64))],[]⟩,a4L⟩
noncomputable def hw74 : List (Nat × How) := [(85,.fresh pontageref1_SubC),(87,.con pontageref1_CmpC),(112,.con pontageref1_shortC),(113,.inl)]
noncomputable def f4E : Env := a1M Tryz.prog tys eqs hw74 owns meths
def f8R : Anns := fun p c => match p,c with | [113,18,1,74],0 => some (.tmpl ⟨(.whole 0::dd 2 (.pl (.int .i64)::dd 17 (.pl (.sl (.int .i64))::.pl (.sl (.int .i64))::dd 4 (.whole 1::.whole 0::.pl (.int .i64)::.pl (.int .i64)::dd 104 [])))),[.row (.int .i64),.row (.int .i64)]⟩) | [113,19,1,74],0 => some (.tmpl ⟨(.whole 0::dd 2 (.pl (.int .i64)::dd 17 (.pl (.sl (.int .i64))::.pl (.sl (.int .i64))::dd 4 (.whole 1::.whole 0::.pl (.int .i64)::.pl (.int .i64)::dd 104 [])))),[.row (.int .i64),.row (.int .i64)]⟩) | [113,27,1,74],0 => some (.tmpl ⟨(.whole 0::dd 2 (.pl (.int .i64)::dd 24 (.whole 1::dd 106 []))),[.row (.int .i64),.row (.int .i64)]⟩) | [113,27,3,74],0 => some (.tmpl ⟨(.whole 0::dd 2 (.pl (.int .i64)::dd 128 (.pl (.sl (.int .i64))::dd 2 []))),[.row (.int .i64)]⟩) | [74],0 => some (.tmpl ⟨(.pl (.sl (.int .i64))::.pl (.sl (.int .i64))::dd 4 (.whole 0::.whole 1::.pl (.int .i64)::dd 105 [])),[.row (.int .i64),.row (.int .i64)]⟩) | [74],2 => some (.tmpl ⟨(.pl (.sl (.int .i64))::.pl (.sl (.int .i64))::dd 4 (.whole 0::.whole 1::.pl (.int .i64)::.pl (.int .i64)::dd 104 [])),[.row (.int .i64),.row (.int .i64)]⟩) | [74],4 => some (.tmpl ⟨(.pl (.sl (.int .i64))::.pl (.sl (.int .i64))::dd 4 (.whole 0::.whole 1::.pl (.int .i64)::.pl (.int .i64)::.pl (.int .i64)::.pl (.int .i64)::dd 102 [])),[.row (.int .i64),.row (.int .i64)]⟩) | [74],6 => some (.tmpl ⟨(.pl (.sl (.int .i64))::.pl (.sl (.int .i64))::dd 4 (.whole 0::.whole 1::.pl (.int .i64)::.pl (.int .i64)::dd 2 (.pl (.sl (.int .i64))::.pl (.int .i64)::dd 100 []))),[.row (.int .i64),.row (.int .i64)]⟩) | _,_ => none
theorem ev74 : ∀ x,a0U f4E f8R 74 pontageref1_DivC.In pontageref1_DivC.Out 90 K0 x = a4L x := by intro x; kernel_rfl
theorem ok74 : a1G Tryz.prog 74 pontageref1_DivC := a0G (E := f4E) (a1P a1Q a1O (show HowsOk Tryz.prog hw74 from (And.intro e3H (And.intro ok87 (And.intro g3Q trivial)))) follows a0P) a0T fun x _ h => ⟨f8R,90,K0,(ev74 x).trans h⟩
noncomputable def pontageref1_MulC : Con := ⟨⟨[.pl (.sl (.int .i64)),.pl (.sl (.int .i64))],[]⟩,⟨[.pl (.sl (.int .i64))],[]⟩,a5I⟩
noncomputable def hw75 : List (Nat × How) := [(113,.con pontageref1_normC)]
noncomputable def f3Q : Env := a1M Tryz.prog tys eqs hw75 owns meths
def f3S : Anns := fun p c => match p,c with | [75],0 => some (.tmpl ⟨(.pl (.sl (.int .i64))::.pl (.sl (.int .i64))::dd 3 (.whole 0::.pl (.int .i64)::dd 56 [])),[.row (.int .i64)]⟩) | [75],2 => some (.tmpl ⟨(.pl (.sl (.int .i64))::.pl (.sl (.int .i64))::dd 3 (.whole 0::.pl (.int .i64)::.pl (.int .i64)::.pl (.int .i64)::dd 54 [])),[.row (.int .i64)]⟩) | _,_ => none
theorem ev75 : ∀ x,a0U f3Q f3S 75 pontageref1_MulC.In pontageref1_MulC.Out 60 K0 x = a5I x := by intro x; kernel_rfl
theorem ok75 : a1G Tryz.prog 75 pontageref1_MulC := a0G (E := f3Q) (a1P a1Q a1O (show HowsOk Tryz.prog hw75 from (And.intro f0M trivial)) follows a0P) a0T fun x _ h => ⟨f3S,60,K0,(ev75 x).trans h⟩
noncomputable def pontageref1_FromUint64C : Con := ⟨⟨[.pl (.int .u64)],[]⟩,⟨[.pl (.sl (.int .i64))],[]⟩,a1F⟩
noncomputable def hw76 : List (Nat × How) := [(79,.con pontageref1_FromUint256C)]
noncomputable def f4H : Env := a1M Tryz.prog tys eqs hw76 owns meths
def f6Q : Anns := fun _ _ => none
theorem ev76 : ∀ x,a0U f4H f6Q 76 pontageref1_FromUint64C.In pontageref1_FromUint64C.Out 60 K0 x = a1F x := by intro x; kernel_rfl
theorem ok76 : a1G Tryz.prog 76 pontageref1_FromUint64C := a0G (E := f4H) (a1P a1Q a1O (show HowsOk Tryz.prog hw76 from (And.intro ok79 trivial)) follows a0P) a0T fun x _ h => ⟨f6Q,60,K0,(ev76 x).trans h⟩
noncomputable def pontageref1_ToUint256C : Con := ⟨⟨[.pl (.sl (.int .i64))],[]⟩,⟨[.pl u256],[]⟩,a0X⟩
noncomputable def hw77 : List (Nat × How) := []
noncomputable def f9X : Env := a1M Tryz.prog tys eqs hw77 owns meths
def g1D : Anns := fun p c => match p,c with | [1000000,77],6 => some (.join ⟨(.pl (.sl (.int .i64))::dd 1 (.ptr 0 []::.ptr 1 []::.pl (.int .i64)::dd 5 (.pl (.int .i64)::.pl .bool::dd 22 []))),[.box u256 (.pl u256),.box u256 (.pl u256)]⟩) | [77],0 => some (.tmpl ⟨(.pl (.sl (.int .i64))::dd 1 (.ptr 0 []::.ptr 1 []::.pl (.int .i64)::dd 29 [])),[.box u256 (.pl u256),.box u256 (.pl u256)]⟩) | _,_ => none
theorem ev77 : ∀ x,a0U f9X g1D 77 pontageref1_ToUint256C.In pontageref1_ToUint256C.Out 60 K0 x = a0X x := by intro x; kernel_rfl
theorem ok77 : a1G Tryz.prog 77 pontageref1_ToUint256C := a0G (E := f9X) (a1P a1Q a1O (show HowsOk Tryz.prog hw77 from trivial) follows a0P) a0T fun x _ h => ⟨g1D,60,K0,(ev77 x).trans h⟩
noncomputable def pontageref18_AllocateC : Con := ⟨⟨[.pl (.int .u64),.pl (.int .u64),.pl (.int .u64),.pl (.int .u64)],[]⟩,⟨[.pl (.int .u64),.pl (.int .i64)],[]⟩,a5K⟩
noncomputable def hw35 : List (Nat × How) := [(74,.con pontageref1_DivC),(75,.con pontageref1_MulC),(76,.con pontageref1_FromUint64C),(77,.con pontageref1_ToUint256C)]
noncomputable def f5T : Env := a1M Tryz.prog tys eqs hw35 owns meths
def g0I : Anns := fun p c => match p,c with | [1000000,35],4 => some (.join ⟨(.pl (.int .u64)::.pl (.int .u64)::.pl (.int .u64)::.pl (.int .u64)::dd 38 []),[]⟩) | _,_ => none
theorem ev35 : ∀ x,a0U f5T g0I 35 pontageref18_AllocateC.In pontageref18_AllocateC.Out 60 K0 x = a5K x := by intro x; kernel_rfl
theorem ok35 : a1G Tryz.prog 35 pontageref18_AllocateC := a0G (E := f5T) (a1P a1Q a1O (show HowsOk Tryz.prog hw35 from (And.intro ok74 (And.intro ok75 (And.intro ok76 (And.intro ok77 trivial))))) follows a0P) a0T fun x _ h => ⟨g0I,60,K0,(ev35 x).trans h⟩
noncomputable def pontageref1_FitsC : Con := ⟨⟨[.pl (.sl (.int .i64))],[]⟩,⟨[.pl .bool],[]⟩,a2R⟩
noncomputable def hw81 : List (Nat × How) := []
noncomputable def f7H : Env := a1M Tryz.prog tys eqs hw81 owns meths
def f7U : Anns := fun _ _ => none
theorem ev81 : ∀ x,a0U f7H f7U 81 pontageref1_FitsC.In pontageref1_FitsC.Out 60 K0 x = a2R x := by intro x; kernel_rfl
theorem ok81 : a1G Tryz.prog 81 pontageref1_FitsC := a0G (E := f7H) (a1P a1Q a1O (show HowsOk Tryz.prog hw81 from trivial) follows a0P) a0T fun x _ h => ⟨f7U,60,K0,(ev81 x).trans h⟩
noncomputable def pontageref1_CheckedC : Con := ⟨⟨[.pl (.sl (.int .i64))],[]⟩,⟨[.pl u256,.pl (.int .i64)],[]⟩,a2J⟩
noncomputable def hw78 : List (Nat × How) := [(77,.con pontageref1_ToUint256C),(81,.con pontageref1_FitsC)]
noncomputable def f5D : Env := a1M Tryz.prog tys eqs hw78 owns meths
def g1E : Anns := fun _ _ => none
theorem ev78 : ∀ x,a0U f5D g1E 78 pontageref1_CheckedC.In pontageref1_CheckedC.Out 60 K0 x = a2J x := by intro x; kernel_rfl
theorem ok78 : a1G Tryz.prog 78 pontageref1_CheckedC := a0G (E := f5D) (a1P a1Q a1O (show HowsOk Tryz.prog hw78 from (And.intro ok77 (And.intro ok81 trivial))) follows a0P) a0T fun x _ h => ⟨g1E,60,K0,(ev78 x).trans h⟩
noncomputable def pontageref1_Mul256C : Con := ⟨⟨[.pl u256,.pl u256],[]⟩,⟨[.pl u256,.pl (.int .i64)],[]⟩,a7C⟩
noncomputable def hw36 : List (Nat × How) := [(75,.con pontageref1_MulC),(78,.con pontageref1_CheckedC),(79,.con pontageref1_FromUint256C)]
noncomputable def f5E : Env := a1M Tryz.prog tys eqs hw36 owns meths
def f3L : Anns := fun _ _ => none
theorem ev36 : ∀ x,a0U f5E f3L 36 pontageref1_Mul256C.In pontageref1_Mul256C.Out 60 K0 x = a7C x := by intro x; kernel_rfl
theorem ok36 : a1G Tryz.prog 36 pontageref1_Mul256C := a0G (E := f5E) (a1P a1Q a1O (show HowsOk Tryz.prog hw36 from (And.intro ok75 (And.intro ok78 (And.intro ok79 trivial)))) follows a0P) a0T fun x _ h => ⟨f3L,60,K0,(ev36 x).trans h⟩
noncomputable def pontageref16_AccrueC : Con := ⟨⟨[.pl (.sl a0D),.pl (.int .u64),.pl u256,.pl u256,.pl (.int .u64)],[]⟩,⟨[.pl (.sl a0D),.pl (.int .i64)],[]⟩,a6B⟩
noncomputable def hw37 : List (Nat × How) := [(51,.con pontageref16_ValidC),(56,.con pontageref16_FindC),(77,.con pontageref1_ToUint256C),(79,.con pontageref1_FromUint256C),(80,.con pontageref1_AddC),(81,.con pontageref1_FitsC),(82,.con pontageref1_IsZeroC)]
noncomputable def f5Y : Env := a1M Tryz.prog tys eqs hw37 owns meths
def f9B : Anns := fun p c => match p,c with | [1000000,37],4 => some (.join ⟨(.pl (.sl a0D)::.pl (.int .u64)::dd 2 (.pl (.int .u64)::dd 2 (.ptr 0 []::.ptr 1 []::dd 97 []))),[.box u256 (.pl u256),.box u256 (.pl u256)]⟩) | _,_ => none
theorem ev37 : ∀ x,a0U f5Y f9B 37 pontageref16_AccrueC.In pontageref16_AccrueC.Out 60 K0 x = a6B x := by intro x; kernel_rfl
theorem ok37 : a1G Tryz.prog 37 pontageref16_AccrueC := a0G (E := f5Y) (a1P a1Q a1O (show HowsOk Tryz.prog hw37 from (And.intro ok51 (And.intro ok56 (And.intro ok77 (And.intro ok79 (And.intro ok80 (And.intro ok81 (And.intro ok82 trivial)))))))) follows a0P) a0T fun x _ h => ⟨f9B,60,K0,(ev37 x).trans h⟩
noncomputable def pontageref17_SortedC : Con := ⟨⟨[.pl (.sl a0D)],[]⟩,⟨[.pl (.sl a0D)],[]⟩,a6I⟩
noncomputable def hw83 : List (Nat × How) := []
noncomputable def f2T : Env := a1M Tryz.prog tys eqs hw83 owns meths
def g0F : Anns := fun p c => match p,c with | [1000000,83],10 => some (.join ⟨(.pl (.sl a0D)::dd 2 (.whole 0::.pl (.int .i64)::.pl (.int .i64)::dd 76 [])),[.row a0D]⟩) | [83],0 => some (.tmpl ⟨(.pl (.sl a0D)::dd 2 (.whole 0::.pl (.int .i64)::dd 77 [])),[.row a0D]⟩) | [83],2 => some (.tmpl ⟨(.pl (.sl a0D)::dd 2 (.whole 0::.pl (.int .i64)::.pl (.int .i64)::dd 76 [])),[.row a0D]⟩) | _,_ => none
theorem ev83 : ∀ x,a0U f2T g0F 83 pontageref17_SortedC.In pontageref17_SortedC.Out 60 K0 x = a6I x := by intro x; kernel_rfl
theorem ok83 : a1G Tryz.prog 83 pontageref17_SortedC := a0G (E := f2T) (a1P a1Q a1O (show HowsOk Tryz.prog hw83 from trivial) follows a0P) a0T fun x _ h => ⟨g0F,60,K0,(ev83 x).trans h⟩
noncomputable def pontageref1_MinC : Con := ⟨⟨[.pl (.sl (.int .i64)),.pl (.sl (.int .i64))],[]⟩,⟨[.pl (.sl (.int .i64))],[]⟩,a8S⟩
noncomputable def hw84 : List (Nat × How) := [(87,.con pontageref1_CmpC)]
noncomputable def f4D : Env := a1M Tryz.prog tys eqs hw84 owns meths
def f6P : Anns := fun _ _ => none
theorem ev84 : ∀ x,a0U f4D f6P 84 pontageref1_MinC.In pontageref1_MinC.Out 60 K0 x = a8S x := by intro x; kernel_rfl
theorem ok84 : a1G Tryz.prog 84 pontageref1_MinC := a0G (E := f4D) (a1P a1Q a1O (show HowsOk Tryz.prog hw84 from (And.intro ok87 trivial)) follows a0P) a0T fun x _ h => ⟨f6P,60,K0,(ev84 x).trans h⟩
noncomputable def pontageref20_PlanC : Con := ⟨⟨[.pl (.sl a0D),.pl u256],[]⟩,⟨[.pl (.sl a1D),.pl (.int .i64)],[]⟩,a7L⟩
noncomputable def hw38 : List (Nat × How) := [(51,.con pontageref16_ValidC),(77,.con pontageref1_ToUint256C),(79,.con pontageref1_FromUint256C),(83,.con pontageref17_SortedC),(84,.con pontageref1_MinC),(85,.fresh pontageref1_SubC)]
noncomputable def f9D : Env := a1M Tryz.prog tys eqs hw38 owns meths
def f2X : Anns := fun p c => match p,c with | [1000000,38],10 => some (.join ⟨(dd 6 (.whole 0::.pl (.sl a0D)::.pl (.sl (.int .i64))::.pl (.int .i64)::dd 13 (.pl (.sl (.int .i64))::.pl (.int .i64)::.pl .bool::dd 26 []))),[.row a1D]⟩) | [38],0 => some (.tmpl ⟨(dd 6 (.whole 0::.pl (.sl a0D)::.pl (.sl (.int .i64))::.pl (.int .i64)::dd 42 [])),[.row a1D]⟩) | _,_ => none
theorem ev38 : ∀ x,a0U f9D f2X 38 pontageref20_PlanC.In pontageref20_PlanC.Out 60 K0 x = a7L x := by intro x; kernel_rfl
theorem ok38 : a1G Tryz.prog 38 pontageref20_PlanC := a0G (E := f9D) (a1P a1Q a1O (show HowsOk Tryz.prog hw38 from (And.intro ok51 (And.intro ok77 (And.intro ok79 (And.intro ok83 (And.intro ok84 (And.intro e3H trivial))))))) follows a0P) a0T fun x _ h => ⟨f2X,60,K0,(ev38 x).trans h⟩
noncomputable def pontageref1_Sub256C : Con := ⟨⟨[.pl u256,.pl u256],[]⟩,⟨[.pl u256,.pl (.int .i64)],[]⟩,a5M⟩
noncomputable def hw41 : List (Nat × How) := [(77,.con pontageref1_ToUint256C),(79,.con pontageref1_FromUint256C),(85,.fresh pontageref1_SubC),(87,.con pontageref1_CmpC)]
noncomputable def g1B : Env := a1M Tryz.prog tys eqs hw41 owns meths
def f9V : Anns := fun _ _ => none
theorem ev41 : ∀ x,a0U g1B f9V 41 pontageref1_Sub256C.In pontageref1_Sub256C.Out 60 K0 x = a5M x := by intro x; kernel_rfl
theorem ok41 : a1G Tryz.prog 41 pontageref1_Sub256C := a0G (E := g1B) (a1P a1Q a1O (show HowsOk Tryz.prog hw41 from (And.intro ok77 (And.intro ok79 (And.intro e3H (And.intro ok87 trivial))))) follows a0P) a0T fun x _ h => ⟨f9V,60,K0,(ev41 x).trans h⟩
noncomputable def pontageref1_Add256C : Con := ⟨⟨[.pl u256,.pl u256],[]⟩,⟨[.pl u256,.pl (.int .i64)],[]⟩,a6S⟩
noncomputable def f9Q : List (Nat × How) := [(78,.con pontageref1_CheckedC),(79,.con pontageref1_FromUint256C),(80,.con pontageref1_AddC)]
noncomputable def e5Y : Env := a1M Tryz.prog tys eqs f9Q owns meths
def e8U : Anns := fun _ _ => none
theorem g1T : ∀ x,a0U e5Y e8U 114 pontageref1_Add256C.In pontageref1_Add256C.Out 60 K0 x = a6S x := by intro x; kernel_rfl
theorem g1S : a1G Tryz.prog 114 pontageref1_Add256C := a0G (E := e5Y) (a1P a1Q a1O (show HowsOk Tryz.prog f9Q from (And.intro ok78 (And.intro ok79 (And.intro ok80 trivial)))) follows a0P) a0T fun x _ h => ⟨e8U,60,K0,(g1T x).trans h⟩
noncomputable def pontageref16_SettleC : Con := ⟨⟨[.pl (.sl a0D),.pl (.int .u64),.pl u256],[]⟩,⟨[.pl (.sl a0D),.pl (.int .i64)],[]⟩,a6E⟩
noncomputable def hw86 : List (Nat × How) := [(41,.con pontageref1_Sub256C),(51,.con pontageref16_ValidC),(56,.con pontageref16_FindC),(82,.con pontageref1_IsZeroC),(114,.con pontageref1_Add256C)]
noncomputable def f4Z : Env := a1M Tryz.prog tys eqs hw86 owns meths
def f8T : Anns := fun _ _ => none
theorem ev86 : ∀ x,a0U f4Z f8T 86 pontageref16_SettleC.In pontageref16_SettleC.Out 60 K0 x = a6E x := by intro x; kernel_rfl
theorem ok86 : a1G Tryz.prog 86 pontageref16_SettleC := a0G (E := f4Z) (a1P a1Q a1O (show HowsOk Tryz.prog hw86 from (And.intro ok41 (And.intro ok51 (And.intro ok56 (And.intro ok82 (And.intro g1S trivial)))))) follows a0P) a0T fun x _ h => ⟨f8T,60,K0,(ev86 x).trans h⟩
noncomputable def pontageref20_ApplyC : Con := ⟨⟨[.pl (.sl a0D),.pl (.sl a1D)],[]⟩,⟨[.pl (.sl a0D),.pl (.int .i64)],[]⟩,a6Q⟩
noncomputable def hw39 : List (Nat × How) := [(86,.con pontageref16_SettleC)]
noncomputable def f6X : Env := a1M Tryz.prog tys eqs hw39 owns meths
def f8G : Anns := fun p c => match p,c with | [39],0 => some (.tmpl ⟨(dd 1 (.pl (.sl a1D)::dd 4 (.pl (.sl a0D)::.pl (.int .i64)::dd 31 []))),[]⟩) | _,_ => none
theorem ev39 : ∀ x,a0U f6X f8G 39 pontageref20_ApplyC.In pontageref20_ApplyC.Out 60 K0 x = a6Q x := by intro x; kernel_rfl
theorem ok39 : a1G Tryz.prog 39 pontageref20_ApplyC := a0G (E := f6X) (a1P a1Q a1O (show HowsOk Tryz.prog hw39 from (And.intro ok86 trivial)) follows a0P) a0T fun x _ h => ⟨f8G,60,K0,(ev39 x).trans h⟩
noncomputable def pontageref20_SumC : Con := ⟨⟨[.pl (.sl a1D)],[]⟩,⟨[.pl u256,.pl (.int .i64)],[]⟩,a8J⟩
noncomputable def hw40 : List (Nat × How) := [(78,.con pontageref1_CheckedC),(79,.con pontageref1_FromUint256C),(80,.con pontageref1_AddC)]
noncomputable def f3U : Env := a1M Tryz.prog tys eqs hw40 owns meths
def g0H : Anns := fun p c => match p,c with | [40],0 => some (.tmpl ⟨(.pl (.sl a1D)::dd 1 (.ptr 0 []::dd 1 (.pl (.sl (.int .i64))::.pl (.int .i64)::dd 18 []))),[.box u256 (.pl u256)]⟩) | _,_ => none
theorem ev40 : ∀ x,a0U f3U g0H 40 pontageref20_SumC.In pontageref20_SumC.Out 60 K0 x = a8J x := by intro x; kernel_rfl
theorem ok40 : a1G Tryz.prog 40 pontageref20_SumC := a0G (E := f3U) (a1P a1Q a1O (show HowsOk Tryz.prog hw40 from (And.intro ok78 (And.intro ok79 (And.intro ok80 trivial)))) follows a0P) a0T fun x _ h => ⟨g0H,60,K0,(ev40 x).trans h⟩
noncomputable def pontageref16_TotalDueC : Con := ⟨⟨[.pl (.sl a0D)],[]⟩,⟨[.pl u256,.pl (.int .i64)],[]⟩,a5F⟩
noncomputable def hw42 : List (Nat × How) := [(51,.con pontageref16_ValidC),(78,.con pontageref1_CheckedC),(79,.con pontageref1_FromUint256C),(80,.con pontageref1_AddC)]
noncomputable def f4L : Env := a1M Tryz.prog tys eqs hw42 owns meths
def f9A : Anns := fun p c => match p,c with | [42],0 => some (.tmpl ⟨(.pl (.sl a0D)::dd 1 (.ptr 0 []::dd 1 (.pl (.sl (.int .i64))::.pl (.int .i64)::dd 22 []))),[.box u256 (.pl u256)]⟩) | _,_ => none
theorem ev42 : ∀ x,a0U f4L f9A 42 pontageref16_TotalDueC.In pontageref16_TotalDueC.Out 60 K0 x = a5F x := by intro x; kernel_rfl
theorem ok42 : a1G Tryz.prog 42 pontageref16_TotalDueC := a0G (E := f4L) (a1P a1Q a1O (show HowsOk Tryz.prog hw42 from (And.intro ok51 (And.intro ok78 (And.intro ok79 (And.intro ok80 trivial))))) follows a0P) a0T fun x _ h => ⟨f9A,60,K0,(ev42 x).trans h⟩
noncomputable def pontageref3_CheckedC : Con := ⟨⟨[.pl a0S],[]⟩,⟨[.pl a0F,.pl (.int .i64)],[]⟩,a4Z⟩
noncomputable def hw88 : List (Nat × How) := [(78,.con pontageref1_CheckedC)]
noncomputable def g0B : Env := a1M Tryz.prog tys eqs hw88 owns meths
def f2O : Anns := fun _ _ => none
theorem ev88 : ∀ x,a0U g0B f2O 88 pontageref3_CheckedC.In pontageref3_CheckedC.Out 60 K0 x = a4Z x := by intro x; kernel_rfl
theorem ok88 : a1G Tryz.prog 88 pontageref3_CheckedC := a0G (E := g0B) (a1P a1Q a1O (show HowsOk Tryz.prog hw88 from (And.intro ok78 trivial)) follows a0P) a0T fun x _ h => ⟨f2O,60,K0,(ev88 x).trans h⟩
noncomputable def pontageref3_signC : Con := ⟨⟨[.pl .bool,.pl (.sl (.int .i64))],[]⟩,⟨[.pl a0S],[]⟩,a1W⟩
noncomputable def hw90 : List (Nat × How) := []
noncomputable def f2V : Env := a1M Tryz.prog tys eqs hw90 owns meths
def f2Q : Anns := fun _ _ => none
theorem ev90 : ∀ x,a0U f2V f2Q 90 pontageref3_signC.In pontageref3_signC.Out 60 K0 x = a1W x := by intro x; kernel_rfl
theorem ok90 : a1G Tryz.prog 90 pontageref3_signC := a0G (E := f2V) (a1P a1Q a1O (show HowsOk Tryz.prog hw90 from trivial) follows a0P) a0T fun x _ h => ⟨f2Q,60,K0,(ev90 x).trans h⟩
noncomputable def pontageref3_AddC : Con := ⟨⟨[.pl a0S,.pl a0S],[]⟩,⟨[.pl a0S],[]⟩,a4O⟩
noncomputable def hw89 : List (Nat × How) := [(80,.con pontageref1_AddC),(85,.fresh pontageref1_SubC),(87,.con pontageref1_CmpC),(90,.con pontageref3_signC)]
noncomputable def f5N : Env := a1M Tryz.prog tys eqs hw89 owns meths
def f7V : Anns := fun _ _ => none
theorem ev89 : ∀ x,a0U f5N f7V 89 pontageref3_AddC.In pontageref3_AddC.Out 60 K0 x = a4O x := by intro x; kernel_rfl
theorem ok89 : a1G Tryz.prog 89 pontageref3_AddC := a0G (E := f5N) (a1P a1Q a1O (show HowsOk Tryz.prog hw89 from (And.intro ok80 (And.intro e3H (And.intro ok87 (And.intro ok90 trivial))))) follows a0P) a0T fun x _ h => ⟨f7V,60,K0,(ev89 x).trans h⟩
noncomputable def pontageref3_DiffC : Con := ⟨⟨[.pl u256,.pl u256],[]⟩,⟨[.pl a0F],[]⟩,a8I⟩
noncomputable def hw43 : List (Nat × How) := [(79,.con pontageref1_FromUint256C),(88,.con pontageref3_CheckedC),(89,.con pontageref3_AddC),(90,.con pontageref3_signC)]
noncomputable def f5C : Env := a1M Tryz.prog tys eqs hw43 owns meths
def f3D : Anns := fun _ _ => none
theorem ev43 : ∀ x,a0U f5C f3D 43 pontageref3_DiffC.In pontageref3_DiffC.Out 60 K0 x = a8I x := by intro x; kernel_rfl
theorem ok43 : a1G Tryz.prog 43 pontageref3_DiffC := a0G (E := f5C) (a1P a1Q a1O (show HowsOk Tryz.prog hw43 from (And.intro ok79 (And.intro ok88 (And.intro ok89 (And.intro ok90 trivial))))) follows a0P) a0T fun x _ h => ⟨f3D,60,K0,(ev43 x).trans h⟩
noncomputable def pontageref3_DivFloorC : Con := ⟨⟨[.pl a0S,.pl (.sl (.int .i64))],[]⟩,⟨[.pl a0S],[]⟩,a2Z⟩
noncomputable def f8I : List (Nat × How) := [(74,.con pontageref1_DivC),(76,.con pontageref1_FromUint64C),(80,.con pontageref1_AddC),(90,.con pontageref3_signC)]
noncomputable def e5Q : Env := a1M Tryz.prog tys eqs f8I owns meths
def e6C : Anns := fun p c => match p,c with | [1000000,115],4 => some (.join ⟨(dd 2 (.ptr 0 []::dd 1 (.ptr 1 []::.pl (.sl (.int .i64))::dd 14 (.pl .bool::dd 7 [])))),[.box a0S (.pl a0S),.box a0S (.pl a0S)]⟩) | _,_ => none
theorem g1U : ∀ x,a0U e5Q e6C 115 pontageref3_DivFloorC.In pontageref3_DivFloorC.Out 60 K0 x = a2Z x := by intro x; kernel_rfl
theorem g3G : a1G Tryz.prog 115 pontageref3_DivFloorC := a0G (E := e5Q) (a1P a1Q a1O (show HowsOk Tryz.prog f8I from (And.intro ok74 (And.intro ok76 (And.intro ok80 (And.intro ok90 trivial))))) follows a0P) a0T fun x _ h => ⟨e6C,60,K0,(g1U x).trans h⟩
noncomputable def pontageref3_NegateC : Con := ⟨⟨[.pl a0S],[]⟩,⟨[.pl a0S],[]⟩,a3Q⟩
noncomputable def f8H : List (Nat × How) := [(90,.con pontageref3_signC)]
noncomputable def e8L : Env := a1M Tryz.prog tys eqs f8H owns meths
def e7Z : Anns := fun _ _ => none
theorem g3X : ∀ x,a0U e8L e7Z 116 pontageref3_NegateC.In pontageref3_NegateC.Out 60 K0 x = a3Q x := by intro x; kernel_rfl
theorem g1Z : a1G Tryz.prog 116 pontageref3_NegateC := a0G (E := e8L) (a1P a1Q a1O (show HowsOk Tryz.prog f8H from (And.intro ok90 trivial)) follows a0P) a0T fun x _ h => ⟨e7Z,60,K0,(g3X x).trans h⟩
noncomputable def pontageref3_FromInt256C : Con := ⟨⟨[.pl a0F],[]⟩,⟨[.pl a0S],[]⟩,a2K⟩
noncomputable def f7J : List (Nat × How) := [(79,.con pontageref1_FromUint256C),(90,.con pontageref3_signC)]
noncomputable def e8Q : Env := a1M Tryz.prog tys eqs f7J owns meths
def e7U : Anns := fun _ _ => none
theorem g2G : ∀ x,a0U e8Q e7U 117 pontageref3_FromInt256C.In pontageref3_FromInt256C.Out 60 K0 x = a2K x := by intro x; kernel_rfl
theorem f6N : a1G Tryz.prog 117 pontageref3_FromInt256C := a0G (E := e8Q) (a1P a1Q a1O (show HowsOk Tryz.prog f7J from (And.intro ok79 (And.intro ok90 trivial))) follows a0P) a0T fun x _ h => ⟨e7U,60,K0,(g2G x).trans h⟩
noncomputable def pontageref3_MulC : Con := ⟨⟨[.pl a0S,.pl a0S],[]⟩,⟨[.pl a0S],[]⟩,a7M⟩
noncomputable def f8Q : List (Nat × How) := [(75,.con pontageref1_MulC),(90,.con pontageref3_signC)]
noncomputable def e6U : Env := a1M Tryz.prog tys eqs f8Q owns meths
def e7X : Anns := fun _ _ => none
theorem g3K : ∀ x,a0U e6U e7X 118 pontageref3_MulC.In pontageref3_MulC.Out 60 K0 x = a7M x := by intro x; kernel_rfl
theorem g3Y : a1G Tryz.prog 118 pontageref3_MulC := a0G (E := e6U) (a1P a1Q a1O (show HowsOk Tryz.prog f8Q from (And.intro ok75 (And.intro ok90 trivial))) follows a0P) a0T fun x _ h => ⟨e7X,60,K0,(g3K x).trans h⟩
noncomputable def pontageref19_DeltaC : Con := ⟨⟨[.pl a0F,.pl a0F,.pl (.int .u64),.pl a0K],[]⟩,⟨[.pl a0F,.pl (.int .i64)],[]⟩,a6V⟩
noncomputable def hw91 : List (Nat × How) := [(52,.con pontageref3_ValidC),(72,.con pontageref12_ValidC),(74,.con pontageref1_DivC),(76,.con pontageref1_FromUint64C),(80,.con pontageref1_AddC),(81,.con pontageref1_FitsC),(88,.con pontageref3_CheckedC),(89,.con pontageref3_AddC),(115,.con pontageref3_DivFloorC),(116,.con pontageref3_NegateC),(117,.con pontageref3_FromInt256C),(118,.con pontageref3_MulC)]
noncomputable def f6Y : Env := a1M Tryz.prog tys eqs hw91 owns meths
def f4N : Anns := fun p c => match p,c with | [1000000,91],13 => some (.join ⟨(dd 2 (.pl (.int .u64)::dd 4 (.ptr 0 []::.ptr 1 []::dd 5 (.ptr 2 []::dd 81 [])))),[.box a0K (.pl a0K),.box a0F (.pl a0F),.box a0S (.pl a0S)]⟩) | [1000000,91],6 => some (.join ⟨(dd 2 (.pl (.int .u64)::dd 1 (.ptr 0 []::.ptr 1 []::dd 1 (.ptr 2 []::.ptr 3 []::dd 87 [])))),[.box a0F (.pl a0F),.box a0F (.pl a0F),.box a0K (.pl a0K),.box a0F (.pl a0F)]⟩) | _,_ => none
theorem ev91 : ∀ x,a0U f6Y f4N 91 pontageref19_DeltaC.In pontageref19_DeltaC.Out 60 K0 x = a6V x := by intro x; kernel_rfl
theorem ok91 : a1G Tryz.prog 91 pontageref19_DeltaC := a0G (E := f6Y) (a1P a1Q a1O (show HowsOk Tryz.prog hw91 from (And.intro ok52 (And.intro ok72 (And.intro ok74 (And.intro ok76 (And.intro ok80 (And.intro ok81 (And.intro ok88 (And.intro ok89 (And.intro g3G (And.intro g1Z (And.intro f6N (And.intro g3Y trivial))))))))))))) follows a0P) a0T fun x _ h => ⟨f4N,60,K0,(ev91 x).trans h⟩
noncomputable def pontageref3_AddClampedC : Con := ⟨⟨[.pl u256,.pl a0F],[]⟩,⟨[.pl u256,.pl (.int .i64)],[]⟩,a4W⟩
noncomputable def hw92 : List (Nat × How) := [(52,.con pontageref3_ValidC),(78,.con pontageref1_CheckedC),(79,.con pontageref1_FromUint256C),(89,.con pontageref3_AddC),(90,.con pontageref3_signC),(117,.con pontageref3_FromInt256C)]
noncomputable def f6T : Env := a1M Tryz.prog tys eqs hw92 owns meths
def f4A : Anns := fun _ _ => none
theorem ev92 : ∀ x,a0U f6T f4A 92 pontageref3_AddClampedC.In pontageref3_AddClampedC.Out 60 K0 x = a4W x := by intro x; kernel_rfl
theorem ok92 : a1G Tryz.prog 92 pontageref3_AddClampedC := a0G (E := f6T) (a1P a1Q a1O (show HowsOk Tryz.prog hw92 from (And.intro ok52 (And.intro ok78 (And.intro ok79 (And.intro ok89 (And.intro ok90 (And.intro f6N trivial))))))) follows a0P) a0T fun x _ h => ⟨f4A,60,K0,(ev92 x).trans h⟩
noncomputable def pontageref19_NextC : Con := ⟨⟨[.pl u256,.pl a0F,.pl a0F,.pl (.int .u64),.pl a0K],[]⟩,⟨[.pl u256,.pl (.int .i64)],[]⟩,a7N⟩
noncomputable def hw44 : List (Nat × How) := [(52,.con pontageref3_ValidC),(72,.con pontageref12_ValidC),(91,.con pontageref19_DeltaC),(92,.con pontageref3_AddClampedC)]
noncomputable def f8S : Env := a1M Tryz.prog tys eqs hw44 owns meths
def f9W : Anns := fun p c => match p,c with | [1000000,44],6 => some (.join ⟨(dd 3 (.pl (.int .u64)::dd 1 (.ptr 0 []::.ptr 1 []::.ptr 2 []::dd 1 (.ptr 3 []::.ptr 4 []::dd 36 [])))),[.box u256 (.pl u256),.box a0F (.pl a0F),.box a0F (.pl a0F),.box a0K (.pl a0K),.box u256 (.pl u256)]⟩) | _,_ => none
theorem ev44 : ∀ x,a0U f8S f9W 44 pontageref19_NextC.In pontageref19_NextC.Out 60 K0 x = a7N x := by intro x; kernel_rfl
theorem ok44 : a1G Tryz.prog 44 pontageref19_NextC := a0G (E := f8S) (a1P a1Q a1O (show HowsOk Tryz.prog hw44 from (And.intro ok52 (And.intro ok72 (And.intro ok91 (And.intro ok92 trivial))))) follows a0P) a0T fun x _ h => ⟨f9W,60,K0,(ev44 x).trans h⟩
noncomputable def pontageref21_ReportC : Con := ⟨⟨[.pl a0E,.pl a0K,.pl u256,.pl a1B,.pl (.int .u64)],[]⟩,⟨[.pl a0E,.pl a0O,.pl (.int .i64)],[]⟩,a6F⟩
noncomputable def hw15 : List (Nat × How) := [(34,.con pontageref21_checkC),(35,.con pontageref18_AllocateC),(36,.con pontageref1_Mul256C),(37,.con pontageref16_AccrueC),(38,.con pontageref20_PlanC),(39,.con pontageref20_ApplyC),(40,.con pontageref20_SumC),(41,.con pontageref1_Sub256C),(42,.con pontageref16_TotalDueC),(43,.con pontageref3_DiffC),(44,.con pontageref19_NextC)]
noncomputable def f2P : Env := a1M Tryz.prog tys eqs hw15 owns meths
def f9G : Anns := fun p c => match p,c with | [1000000,15],11 => some (.join ⟨(dd 5 (.ptr 0 []::.ptr 1 []::.ptr 2 []::.ptr 3 []::dd 1 (.ptr 4 []::.ptr 5 []::dd 2 (.ptr 6 []::.ptr 7 []::dd 153 [])))),[.box a0E (.pl a0E),.box a0K (.pl a0K),.box u256 (.pl u256),.box a1B (.pl a1B),.box a0E (.pl a0E),.box a0O (.pl a0O),.box a0O (.pl a0O),.box u256 (.pl u256)]⟩) | [1000000,15],30 => some (.join ⟨(dd 5 (.ptr 0 []::dd 2 (.ptr 1 []::dd 1 (.ptr 2 []::.ptr 3 []::dd 2 (.ptr 4 []::dd 2 (.pl (.sl a0D)::dd 151 [])))))),[.box a0E (.pl a0E),.box a1B (.pl a1B),.box a0E (.pl a0E),.box a0O (.pl a0O),.box a0O (.pl a0O)]⟩) | _,_ => none
theorem ev15 : ∀ x,a0U f2P f9G 15 pontageref21_ReportC.In pontageref21_ReportC.Out 60 K0 x = a6F x := by intro x; kernel_rfl
theorem ok15 : a1G Tryz.prog 15 pontageref21_ReportC := a0G (E := f2P) (a1P a1Q a1O (show HowsOk Tryz.prog hw15 from (And.intro ok34 (And.intro ok35 (And.intro ok36 (And.intro ok37 (And.intro ok38 (And.intro ok39 (And.intro ok40 (And.intro ok41 (And.intro ok42 (And.intro ok43 (And.intro ok44 trivial)))))))))))) follows a0P) a0T fun x _ h => ⟨f9G,60,K0,(ev15 x).trans h⟩
noncomputable def pontagelaw0_EqualPaymentsC : Con := ⟨⟨[.pl (.sl a1D),.pl (.sl a1D)],[]⟩,⟨[.pl .bool],[]⟩,a3T⟩
noncomputable def hw45 : List (Nat × How) := []
noncomputable def f7Q : Env := a1M Tryz.prog tys eqs hw45 owns meths
def f6Z : Anns := fun p c => match p,c with | [45],0 => some (.tmpl ⟨(.pl (.sl a1D)::.pl (.sl a1D)::dd 3 (.pl (.int .i64)::dd 20 [])),[]⟩) | _,_ => none
theorem ev45 : ∀ x,a0U f7Q f6Z 45 pontagelaw0_EqualPaymentsC.In pontagelaw0_EqualPaymentsC.Out 160 K0 x = a3T x := by intro x; kernel_rfl
theorem ok45 : a1G Tryz.prog 45 pontagelaw0_EqualPaymentsC := a0G (E := f7Q) (a1P a1Q a1O (show HowsOk Tryz.prog hw45 from trivial) follows a0P) a0T fun x _ h => ⟨f6Z,160,K0,(ev45 x).trans h⟩
noncomputable def pontagelaw21_agreeC : Con := ⟨⟨[.pl a0O,.pl a0O],[]⟩,⟨[.pl .bool],[]⟩,a6T⟩
noncomputable def hw16 : List (Nat × How) := [(45,.con pontagelaw0_EqualPaymentsC)]
noncomputable def f5S : Env := a1M Tryz.prog tys eqs hw16 owns meths
def f8Y : Anns := fun _ _ => none
theorem ev16 : ∀ x,a0U f5S f8Y 16 pontagelaw21_agreeC.In pontagelaw21_agreeC.Out 160 K0 x = a6T x := by intro x; kernel_rfl
theorem ok16 : a1G Tryz.prog 16 pontagelaw21_agreeC := a0G (E := f5S) (a1P a1Q a1O (show HowsOk Tryz.prog hw16 from (And.intro ok45 trivial)) follows a0P) a0T fun x _ h => ⟨f8Y,160,K0,(ev16 x).trans h⟩
noncomputable def pontagelaw0_EqualPostersC : Con := ⟨⟨[.pl (.sl a0D),.pl (.sl a0D)],[]⟩,⟨[.pl .bool],[]⟩,a4C⟩
noncomputable def hw46 : List (Nat × How) := []
noncomputable def f5Q : Env := a1M Tryz.prog tys eqs hw46 owns meths
def f6V : Anns := fun p c => match p,c with | [46],0 => some (.tmpl ⟨(.pl (.sl a0D)::.pl (.sl a0D)::dd 3 (.pl (.int .i64)::dd 20 [])),[]⟩) | _,_ => none
theorem ev46 : ∀ x,a0U f5Q f6V 46 pontagelaw0_EqualPostersC.In pontagelaw0_EqualPostersC.Out 160 K0 x = a4C x := by intro x; kernel_rfl
theorem ok46 : a1G Tryz.prog 46 pontagelaw0_EqualPostersC := a0G (E := f5Q) (a1P a1Q a1O (show HowsOk Tryz.prog hw46 from trivial) follows a0P) a0T fun x _ h => ⟨f6V,160,K0,(ev46 x).trans h⟩
noncomputable def pontagelaw0_EqualPricerC : Con := ⟨⟨[.pl a0E,.pl a0E],[]⟩,⟨[.pl .bool],[]⟩,a3J⟩
noncomputable def hw17 : List (Nat × How) := [(46,.con pontagelaw0_EqualPostersC)]
noncomputable def f5L : Env := a1M Tryz.prog tys eqs hw17 owns meths
def f6K : Anns := fun _ _ => none
theorem ev17 : ∀ x,a0U f5L f6K 17 pontagelaw0_EqualPricerC.In pontagelaw0_EqualPricerC.Out 160 K0 x = a3J x := by intro x; kernel_rfl
theorem ok17 : a1G Tryz.prog 17 pontagelaw0_EqualPricerC := a0G (E := f5L) (a1P a1Q a1O (show HowsOk Tryz.prog hw17 from (And.intro ok46 trivial)) follows a0P) a0T fun x _ h => ⟨f6K,160,K0,(ev17 x).trans h⟩
noncomputable def pontageref21_GenesisC : Con := ⟨⟨[],[]⟩,⟨[.pl a0E],[]⟩,a9R⟩
noncomputable def hw19 : List (Nat × How) := []
noncomputable def g1H : Env := a1M Tryz.prog tys eqs hw19 owns meths
def f2W : Anns := fun _ _ => none
theorem ev19 : ∀ x,a0U g1H f2W 19 pontageref21_GenesisC.In pontageref21_GenesisC.Out 60 K0 x = a9R x := by intro x; kernel_rfl
theorem ok19 : a1G Tryz.prog 19 pontageref21_GenesisC := a0G (E := g1H) (a1P a1Q a1O (show HowsOk Tryz.prog hw19 from trivial) follows a0P) a0T fun x _ h => ⟨f2W,60,K0,(ev19 x).trans h⟩
noncomputable def pontagelaw21_PricerCallsC : Con := ⟨⟨[.pl (.sl a2E),.pl (.arr 8 (.int .u64)),.pl .bool],[]⟩,⟨[.pl .bool],[]⟩,a4B⟩
noncomputable def hw3 : List (Nat × How) := [(5,.con pontagelaw21_awakeC),(6,.con pontagelaw14_ValidParamsC),(7,.con params_GenesisC),(8,.con pricer_GenesisC),(9,.con pontagelaw21_normalizeC),(10,.con pricer_AddPosterC),(11,.con pontageref21_AddPosterC),(12,.con pricer_AddUnitsC),(13,.con pontageref21_AddUnitsC),(14,.con pricer_ReportC),(15,.con pontageref21_ReportC),(16,.con pontagelaw21_agreeC),(17,.con pontagelaw0_EqualPricerC),(18,.con pricer_ValidC),(19,.con pontageref21_GenesisC)]
noncomputable def env3 : Env := a1M Tryz.prog tys eqs hw3 owns meths
def ann3 : Anns := fun p c => match p,c with | [1000000,3],28 => some (.join ⟨(.pl (.sl a2E)::dd 6 (.ptr 0 []::.ptr 1 []::.pl (.int .u64)::.pl (.int .i64)::dd 1 (.ptr 2 []::.ptr 3 []::.pl (.int .i64)::.pl (.int .i64)::dd 120 []))),[.box a0K (.pl a0K),.box a0E (.pl a0E),.box a0E (.pl a0E),.box a0E (.pl a0E)]⟩) | [1000000,3],7 => some (.join ⟨(.pl (.sl a2E)::dd 6 (.ptr 0 []::dd 128 [])),[.box a0K (.pl a0K)]⟩) | [3],0 => some (.tmpl ⟨(.pl (.sl a2E)::dd 6 (.ptr 0 []::.ptr 1 []::.pl (.int .u64)::.pl (.int .i64)::dd 125 [])),[.box a0K (.pl a0K),.box a0E (.pl a0E)]⟩) | _,_ => none
theorem ev3 : ∀ x,a0U env3 ann3 3 pontagelaw21_PricerCallsC.In pontagelaw21_PricerCallsC.Out 160 K0 x = a4B x := by intro x; kernel_rfl
theorem ok3 : a1G Tryz.prog 3 pontagelaw21_PricerCallsC := a0G (E := env3) (a1P a1Q a1O (show HowsOk Tryz.prog hw3 from (And.intro ok5 (And.intro ok6 (And.intro ok7 (And.intro ok8 (And.intro ok9 (And.intro ok10 (And.intro ok11 (And.intro ok12 (And.intro ok13 (And.intro ok14 (And.intro ok15 (And.intro ok16 (And.intro ok17 (And.intro ok18 (And.intro ok19 trivial)))))))))))))))) follows a0P) a0T fun x _ h => ⟨ann3,160,K0,(ev3 x).trans h⟩
end Sym

/- Rules for what a printed function computes. -/
namespace Sym
open Go
def Wp {R : Type} (T : R → Prop) (r : R) : Prop := T r
theorem Wp.brn {R : Type} {T : R → Prop} {c : Bool} {t f : R} (h1 : c = true → Wp T t) (h2 : c = false → Wp T f) : Wp T (brn c t f) := by
 cases c
 ·
  exact h2 rfl
 ·
  exact h1 rfl
theorem Wp.brnT {R : Type} {T : R → Prop} {c : Bool} {t f : R} (hc : c = true) (h : Wp T t) : Wp T (Sym.brn c t f) := by subst hc; exact h
theorem Wp.brnF {R : Type} {T : R → Prop} {c : Bool} {t f : R} (hc : c = false) (h : Wp T f) : Wp T (Sym.brn c t f) := by subst hc; exact h
theorem Wp.optF {R Y : Type} {T : R → Prop} {fail : R} {o : Option Y} {k : Y → R} {y : Y} (ho : o = some y) (h : Wp T (k y)) : Wp T (optF fail o k) := by subst ho; exact h
theorem Wp.call {R Y : Type} {T : R → Prop} {fail : R} {o : Option Y} {k : Y → R} {P : Y → Prop} (ho : ∃ y, o = some y ∧ P y) (h : ∀ y, P y → Wp T (k y)) : Wp T (Sym.optF fail o k) := by
 obtain ⟨y, rfl, hp⟩ := ho
 exact h y hp
theorem Wp.jn {X R : Type} {T : R → Prop} {J : X → R} {f : (X → R) → R} (P : X → Prop) (h1 : ∀ x, P x → Wp T (J x)) (h2 : ∀ j : X → R, (∀ x, P x → Wp T (j x)) → Wp T (f j)) : Wp T (jn J f) := h2 J h1
def Rnd {X R : Type} (T : R → Prop) (Inv : X → Prop) (μ : X → Nat) (m : Nat) (s : Stp X R) : Prop :=
 match s with
 | .again y => Inv y ∧ μ y < m
 | .done r => Wp T r
theorem Wp.again {X R : Type} {T : R → Prop} {Inv : X → Prop} {μ : X → Nat} {m : Nat} {y : X} (h1 : Inv y) (h2 : μ y < m) : Wp (Rnd T Inv μ m) (.again y : Stp X R) := ⟨h1, h2⟩
theorem Wp.done {X R : Type} {T : R → Prop} {Inv : X → Prop} {μ : X → Nat} {m : Nat} {r : R} (h : Wp T r) : Wp (Rnd T Inv μ m) (.done r : Stp X R) := h
theorem Wp.iter {X R : Type} {T : R → Prop} {fail : R} {f : X → Stp X R} {x : X} (Inv : X → Prop) (μ : X → Nat) {k : Nat} (h : ∀ x, Inv x → Wp (Rnd T Inv μ (μ x)) (f x)) (hi : Inv x) (hm : μ x < k) : Wp T (iter fail f k x) := by
 induction k generalizing x with
 | zero => omega
 | succ k ih =>
  have h1 := h x hi
  unfold Sym.iter
  cases hf : f x with
  | again y =>
   rw [hf] at h1
   exact ih h1.1 (Nat.lt_of_lt_of_le h1.2 (by omega))
  | done r =>
   rw [hf] at h1
   exact h1
def Nxt {X R : Type} (T : R → Prop) (fail : R) (f : X → Stp X R) (k : Nat) (s : Stp X R) : Prop :=
 match s with
 | .again y => Wp T (Sym.iter fail f k y)
 | .done r => Wp T r
theorem Wp.unroll {X R : Type} {T : R → Prop} {fail : R} {f : X → Stp X R} {x : X} {k : Nat} (h : Wp (Nxt T fail f k) (f x)) : Wp T (Sym.iter fail f (k + 1) x) := by
 unfold Sym.iter
 cases hf : f x with
 | again y => rw [hf] at h; exact h
 | done r => rw [hf] at h; exact h
theorem Wp.next {X R : Type} {T : R → Prop} {fail : R} {f : X → Stp X R} {y : X} {k : Nat} (h : Wp T (Sym.iter fail f k y)) : Wp (Nxt T fail f k) (.again y) := h
theorem Wp.stop {X R : Type} {T : R → Prop} {fail : R} {f : X → Stp X R} {r : R} {k : Nat} (h : Wp T r) : Wp (Nxt T fail f k) (.done r) := h
theorem Wp.some {Y : Type} {T : Y → Prop} {y : Y} (h : T y) : Wp (fun o : Option Y => ∃ y, o = some y ∧ T y) (some y) := ⟨y, rfl, h⟩
theorem Wp.out {R : Type} {T : R → Prop} {r : R} (h : Wp T r) : T r := h
theorem I.of_val {k : IntKind} {n : Int} (h : k.min ≤ n ∧ n ≤ k.max) : (I.of k n).val = n := a5N h
theorem b2F {n : Int} (h : 0 ≤ n ∧ n < 18446744073709551616) : (I.of .u64 n).val = n := I.of_val ⟨by simp [IntKind.min, IntKind.signed]; omega, by simp [IntKind.max, IntKind.bits, IntKind.signed]; omega⟩
theorem b1F {n : Int} (h : -9223372036854775808 ≤ n ∧ n < 9223372036854775808) : (I.of .i64 n).val = n := I.of_val ⟨by simp [IntKind.min, IntKind.bits, IntKind.signed]; omega, by simp [IntKind.max, IntKind.bits, IntKind.signed]; omega⟩
theorem f8E {n : Int} (h : 0 ≤ n ∧ n < 256) : (I.of .u8 n).val = n := I.of_val ⟨by simp [IntKind.min, IntKind.signed]; omega, by simp [IntKind.max, IntKind.bits, IntKind.signed]; omega⟩
theorem a2U (x : I .u64) : 0 ≤ x.val ∧ x.val < 18446744073709551616 := b5E x
theorem b3J (x : I .i64) : -9223372036854775808 ≤ x.val ∧ x.val < 9223372036854775808 := by
 have h := x.ok
 have h1 : (2 ^ IntKind.i64.bits : Int) = 18446744073709551616 := by decide
 have h2 : (2 ^ (IntKind.i64.bits - 1) : Int) = 9223372036854775808 := by decide
 have h3 : IntKind.i64.signed = true := rfl
 simp only [IntKind.wrap, h1, h2, h3, Bool.true_and, decide_eq_true_eq] at h
 split at h <;> omega
theorem iff_ltb {k : IntKind} {a b : I k} : I.ltb a b = true ↔ a.val < b.val := by simp [I.ltb]
theorem iff_leb {k : IntKind} {a b : I k} : I.leb a b = true ↔ a.val ≤ b.val := by simp [I.leb]
theorem iff_eqb {k : IntKind} {a b : I k} : I.eqb a b = true ↔ a.val = b.val := by simp [I.eqb]
theorem iff_neb {k : IntKind} {a b : I k} : I.neb a b = true ↔ a.val ≠ b.val := by simp [I.neb]
theorem niff_ltb {k : IntKind} {a b : I k} : I.ltb a b = false ↔ b.val ≤ a.val := by simp [I.ltb]
theorem niff_leb {k : IntKind} {a b : I k} : I.leb a b = false ↔ b.val < a.val := by simp [I.leb]
theorem niff_eqb {k : IntKind} {a b : I k} : I.eqb a b = false ↔ a.val ≠ b.val := by simp [I.eqb]
theorem niff_neb {k : IntKind} {a b : I k} : I.neb a b = false ↔ a.val = b.val := by simp [I.neb]
theorem iff_nz {k : IntKind} {a : I k} : I.nz a = true ↔ a.val ≠ 0 := by simp [I.nz]
theorem iff_nn {k : IntKind} {a : I k} : I.nn a = true ↔ 0 ≤ a.val := by simp [I.nn]
theorem iff_inB {k : IntKind} {a : I k} {n : Nat} : inB a n = true ↔ 0 ≤ a.val ∧ a.val < n := by simp [inB]
theorem iff_fits {n : Nat} : a2L n = true ↔ n ≤ 1073741824 := by simp [a2L]
theorem a2M {n : Nat} (h : n < 9223372036854775808) : (I.ofNat .i64 n).val = n := b1F ⟨by omega, by omega⟩
theorem a2X {a b : I .i64} (h : -9223372036854775808 ≤ a.val + b.val ∧ a.val + b.val < 9223372036854775808) : (I.add a b).val = a.val + b.val := b1F h
theorem a8N {a b : I .i64} (h : -9223372036854775808 ≤ a.val - b.val ∧ a.val - b.val < 9223372036854775808) : (I.sub a b).val = a.val - b.val := b1F h
theorem b8N {a b : I .i64} (h : -9223372036854775808 ≤ a.val * b.val ∧ a.val * b.val < 9223372036854775808) : (I.mul a b).val = a.val * b.val := b1F h
theorem c3J {a b : I .i64} (h : 0 ≤ a.val) (h2 : 0 < b.val) : (I.rem a b).val = a.val % b.val := by
 have ha := b3J a
 have hb := b3J b
 have e : a.val.tmod b.val = a.val % b.val := Int.tmod_eq_emod_of_nonneg h
 have h3 := Int.emod_nonneg a.val (b := b.val) (by omega)
 have h4 := Int.emod_lt_of_pos a.val h2
 unfold I.rem
 rw [e]
 exact b1F ⟨by omega, by omega⟩
theorem c1K {a b : I .i64} (h : 0 ≤ a.val) (h2 : 0 < b.val) : (I.quo a b).val = a.val / b.val := by
 have ha := b3J a
 have e : a.val.tdiv b.val = a.val / b.val := Int.tdiv_eq_ediv_of_nonneg h
 have h3 : 0 ≤ a.val / b.val := Int.ediv_nonneg h (by omega)
 have h4 : a.val / b.val ≤ a.val := Int.ediv_le_self _ h
 unfold I.quo
 rw [e]
 exact b1F ⟨by omega, by omega⟩
theorem d2T {a b : I .u64} (h : a.val + b.val < 18446744073709551616) : (I.add a b).val = a.val + b.val := b2F ⟨by have := a2U a; have := a2U b; omega, h⟩
theorem f1P {a b : I .u64} (h : b.val ≤ a.val) : (I.sub a b).val = a.val - b.val := b2F ⟨by omega, by have := a2U a; have := a2U b; omega⟩
theorem d3Y {a b : I .u64} (h2 : b.val ≠ 0) : (I.rem a b).val = a.val % b.val := by
 have ha := a2U a
 have hb := a2U b
 have e : a.val.tmod b.val = a.val % b.val := Int.tmod_eq_emod_of_nonneg ha.1
 have h3 := Int.emod_nonneg a.val (b := b.val) (by omega)
 have h4 := Int.emod_lt_of_pos a.val (b := b.val) (by omega)
 unfold I.rem
 rw [e]
 exact b2F ⟨by omega, by omega⟩
theorem f0C {a b : I .u64} : (I.quo a b).val = a.val / b.val := by
 have ha := a2U a
 have hb := a2U b
 have e : a.val.tdiv b.val = a.val / b.val := Int.tdiv_eq_ediv_of_nonneg ha.1
 have h3 : 0 ≤ a.val / b.val := Int.ediv_nonneg ha.1 hb.1
 have h4 : a.val / b.val ≤ a.val := Int.ediv_le_self _ ha.1
 unfold I.quo
 rw [e]
 exact b2F ⟨by omega, by omega⟩
theorem b5X (a : I .u64) : I.nn a = true := iff_nn.2 (a2U a).1
theorem e9Y {a : I .u64} (h : a.val < 64) : (I.shl (I.of .u64 1) a).val = 2 ^ a.val.toNat := by
 have ha := a2U a
 have hm : min a.val.toNat IntKind.u64.bits = a.val.toNat := by
  have : IntKind.u64.bits = 64 := rfl
  omega
 have h1 : (I.of .u64 1).val = 1 := rfl
 unfold I.shl
 rw [hm, h1, Int.one_mul]
 refine b2F ⟨Int.le_of_lt (Int.pow_pos (by decide)), ?_⟩
 have h3 : 2 ^ a.val.toNat ≤ 2 ^ 63 := Nat.pow_le_pow_right (by decide) (by omega)
 have h4 : ((2 ^ a.val.toNat : Nat) : Int) = 2 ^ a.val.toNat := by simp
 rw [← h4]
 omega
end Sym

/- Natural numbers as ints; lists as rows. -/
namespace Sym
open Go
def i6 (n : Nat) : I .i64 := I.of .i64 (n : Int)
theorem a0Y {n : Nat} (h : n < 9223372036854775808) : (i6 n).val = n := b1F ⟨by omega, by omega⟩
theorem a3L {n : Nat} (h : n < 9223372036854775808) : I.nat (i6 n) = n := by unfold I.nat; rw [a0Y h]; simp
theorem a6H {n m : Nat} (h : n + m < 9223372036854775808) : I.add (i6 n) (i6 m) = i6 (n + m) := by
 apply I.ext'
 rw [a2X (by rw [a0Y (by omega), a0Y (by omega)]; omega), a0Y (by omega), a0Y (by omega), a0Y h]
 omega
theorem c3V {n m : Nat} (h : n < 9223372036854775808) (hm : m ≤ n) : I.sub (i6 n) (i6 m) = i6 (n - m) := by
 apply I.ext'
 rw [a8N (by rw [a0Y (by omega), a0Y (by omega)]; omega), a0Y (by omega), a0Y (by omega), a0Y (by omega)]
 omega
theorem a5T {n m : Nat} (hn : n < 9223372036854775808) (hm : m < 9223372036854775808) : I.ltb (i6 n) (i6 m) = decide (n < m) := by
 simp only [I.ltb, a0Y hn, a0Y hm]
 by_cases h : n < m
 ·
  rw [decide_eq_true h, decide_eq_true (by omega)]
 ·
  rw [decide_eq_false h, decide_eq_false (by omega)]
theorem e7D {n m : Nat} (hn : n < 9223372036854775808) (hm : m < 9223372036854775808) : I.leb (i6 n) (i6 m) = decide (n ≤ m) := by
 simp only [I.leb, a0Y hn, a0Y hm]
 by_cases h : n ≤ m
 ·
  rw [decide_eq_true h, decide_eq_true (by omega)]
 ·
  rw [decide_eq_false h, decide_eq_false (by omega)]
theorem a3K {n m : Nat} (hn : n < m) (hm : n < 9223372036854775808) : inB (i6 n) m = true := iff_inB.2 (by rw [a0Y hm]; omega)
theorem i6_inB' {n m : Nat} (hn : n ≤ m) (hm : n < 9223372036854775808) : inB' (i6 n) m = true := by
 simp only [inB', Bool.and_eq_true, decide_eq_true_eq, a0Y hm]
 omega
theorem g2B (n : Nat) : I.of .i64 (n : Int) = i6 n := rfl
theorem a4H (n : Nat) : I.ofNat .i64 n = i6 n := rfl
theorem d9Z {n m : Nat} (hn : n < 9223372036854775808) (hm : m < 9223372036854775808) : I.eqb (i6 n) (i6 m) = decide (n = m) := by
 simp only [I.eqb, a0Y hn, a0Y hm]
 by_cases h : n = m
 ·
  rw [decide_eq_true h, decide_eq_true (by omega)]
 ·
  rw [decide_eq_false h, decide_eq_false (by omega)]
theorem a4G {X : Type} (d : X) : ∀ (l : List X) (i : Nat) (h : i < l.length), rdL d l i = l[i]
 | x :: l, 0, _ => rfl
 | x :: l, i + 1, h => a4G d l i (by simpa using h)
theorem b1L {X : Type} (d : X) : ∀ (l : List X) (i : Nat), l.length ≤ i → rdL d l i = d
 | [], _, _ => rfl
 | _ :: _, 0, h => by simp at h
 | _ :: l, i + 1, h => b1L d l i (by simpa using h)
theorem a2D {X : Type} : ∀ (l : List X) (i : Nat) (v : X), setAt l i v = l.set i v
 | [], _, _ => rfl
 | _ :: _, 0, _ => rfl
 | x :: l, i + 1, v => by simp [setAt, a2D l i v]
theorem b2K {X : Type} (d : X) (l : List X) (i k : Nat) (v : X) : rdL d (setAt l i v) k = if k = i ∧ i < l.length then v else rdL d l k := by
 rw [a2D]
 by_cases hk : k < l.length
 ·
  rw [a4G d _ k (by simpa using hk), List.getElem_set]
  by_cases h : k = i
  ·
   subst h; simp [hk]
  ·
   rw [if_neg (by omega), if_neg (by omega), a4G d l k hk]
 ·
  rw [b1L _ _ _ (by simp; omega), b1L _ _ _ (by omega), if_neg (by omega)]
theorem e0D {X : Type} (d : X) (l m : List X) (k : Nat) : rdL d (l ++ m) k = if k < l.length then rdL d l k else rdL d m (k - l.length) := by
 induction l generalizing k with
 | nil => simp
 | cons x l ih =>
  cases k with
  | zero => simp [rdL]
  | succ k =>
   simp only [List.cons_append, rdL, ih, List.length_cons, Nat.add_lt_add_iff_right, Nat.add_sub_add_right]
theorem d5L {X : Type} (d : X) (l : List X) (n k : Nat) (h : k < n) : rdL d (l.take n) k = rdL d l k := by
 by_cases hk : k < l.length
 ·
  rw [a4G d _ k (by simp; omega), a4G d l k hk, List.getElem_take]
 ·
  rw [b1L _ _ _ (by simp; omega), b1L _ _ _ (by omega)]
theorem b3H {X : Type} (d : X) (l : List X) (k : Nat) (h : k < l.length) : rdL d l k ∈ l := by rw [a4G d l k h]; exact List.getElem_mem h
theorem b4F {X : Type} (d : X) {l : List X} {x : X} (h : x ∈ l) : ∃ k, k < l.length ∧ rdL d l k = x := by
 obtain ⟨k, hk, e⟩ := List.getElem_of_mem h
 exact ⟨k, hk, by rw [a4G d l k hk, e]⟩
theorem d0Z {X : Type} (s : List X) (n : Nat) : subL s 0 n = s.take n := by simp [subL]
theorem d8W {X : Type} (s : List X) (n : Nat) : subL s n (s.length - n) = s.drop n := by
 simp only [subL]
 exact List.take_of_length_le (by simp)
theorem a4U {X : Type} (l : List X) : lenL l = l.length := rfl
theorem f1X {X : Type} (l m : List X) : appL l m = l ++ m := rfl
theorem d4C : ∀ (t : Ty), t.eqOk = true → ∀ x y : t.D, Ty.eqb t x y = true ↔ x = y := by
 intro t
 induction t with
 | int k => intro _ x y; simp only [Ty.eqb, decide_eq_true_eq]; exact ⟨fun h => I.ext' h, fun h => by rw [h]⟩
 | bool => intro _ x y; exact (by decide : ∀ a b : Bool, (a == b) = true ↔ a = b) x y
 | nil => intro _ x y; exact ⟨fun _ => rfl, fun _ => rfl⟩
 | cons a b iha ihb =>
  intro h x y
  simp only [Ty.eqOk, Bool.and_eq_true] at h
  simp only [Ty.eqb, Bool.and_eq_true, iha h.1, ihb h.2]
  obtain ⟨x1, x2⟩ := x
  obtain ⟨y1, y2⟩ := y
  exact ⟨fun h => by rw [show x1 = y1 from h.1, show x2 = y2 from h.2], fun h => ⟨congrArg Prod.fst h, congrArg Prod.snd h⟩⟩
 | arr n t ih =>
  intro h x y
  have key : ∀ (n : Nat) (x y : Arr t.D n), Arr.eqb t.eqb n x y = true ↔ x = y := by
   intro n
   induction n with
   | zero => intro x y; exact ⟨fun _ => rfl, fun _ => rfl⟩
   | succ n ihn =>
    intro x y
    simp only [Arr.eqb, Bool.and_eq_true, ih h, ihn]
    obtain ⟨x1, x2⟩ := x
    obtain ⟨y1, y2⟩ := y
    exact ⟨fun h => by rw [show x1 = y1 from h.1, show x2 = y2 from h.2], fun h => ⟨congrArg Prod.fst h, congrArg Prod.snd h⟩⟩
  exact key n x y
 | str => intro h; cases h
 | sl t _ => intro h; cases h
 | opq => intro h; cases h
theorem eqb_self' {t : Ty} (h : t.eqOk = true) (x : t.D) : Ty.eqb t x x = true := (d4C t h x x).2 rfl
theorem b0L {n : Nat} (h : n ≤ 1073741824) : a2L n = true := iff_fits.2 h
end Sym

/- Natural numbers by digits of 65536: what the reference's first functions compute. -/
namespace Sym
open Go
abbrev Dg : Type := I .i64
def bv : List Dg → Nat
 | [] => 0
 | d :: l => d.nat + 65536 * bv l
def DigOk (d : Dg) : Prop := 0 ≤ d.val ∧ d.val < 65536
def Digs (l : List Dg) : Prop := ∀ d ∈ l, DigOk d
def Lead : List Dg → Prop
 | [] => True
 | [d] => d.val ≠ 0
 | _ :: e :: l => Lead (e :: l)
structure IsB (l : List Dg) (n : Nat) : Prop where
 dig : Digs l
 lead : Lead l
 val : bv l = n
theorem DigOk.nat {d : Dg} (h : DigOk d) : (d.nat : Int) = d.val ∧ d.nat < 65536 := by
 unfold DigOk at h
 unfold I.nat
 omega
theorem digs_cons {d : Dg} {l : List Dg} : Digs (d :: l) ↔ DigOk d ∧ Digs l := by
 unfold Digs
 simp
theorem digs_app {l r : List Dg} : Digs (l ++ r) ↔ Digs l ∧ Digs r := by
 unfold Digs
 simp only [List.mem_append]
 exact ⟨fun h => ⟨fun d hd => h d (.inl hd), fun d hd => h d (.inr hd)⟩, fun h d hd => hd.elim (h.1 d) (h.2 d)⟩
theorem b6T {l : List Dg} (h : Digs l) (n : Nat) : Digs (l.take n) := fun d hd => h d (List.mem_of_mem_take hd)
theorem d7F : ∀ {l : List Dg}, Digs l → bv l < 65536 ^ l.length
 | [], _ => by simp [bv]
 | d :: l, h => by
  have h := digs_cons.1 h
  have h1 := h.1.nat.2
  have h2 := d7F h.2
  simp only [bv, List.length_cons, Nat.pow_succ]
  omega
theorem c5F : IsB [] 0 := ⟨fun _ h => by simp at h, trivial, rfl⟩
theorem b6W : ∀ (l r : List Dg), bv (l ++ r) = bv l + 65536 ^ l.length * bv r
 | [], r => by simp [bv]
 | d :: l, r => by
  simp only [List.cons_append, bv, List.length_cons, b6W l r, Nat.pow_succ, Nat.mul_add]
  rw [Nat.mul_comm (65536 ^ l.length) 65536, Nat.mul_assoc]
  omega
theorem b6X : ∀ (l : List Dg) (d : Dg), d.val ≠ 0 → Lead (l ++ [d])
 | [], d, h => h
 | [e], d, h => h
 | e :: f :: l, d, h => b6X (f :: l) d h
theorem f8X : ∀ {l : List Dg}, Digs l → Lead l → l ≠ [] → 65536 ^ (l.length - 1) ≤ bv l
 | [], _, _, h => absurd rfl h
 | [d], hd, hl, _ => by
  have h := (digs_cons.1 hd).1.nat.1
  have : d.val ≠ 0 := hl
  simp only [bv, List.length_singleton, Nat.sub_self, Nat.pow_zero]
  omega
 | d :: e :: l, hd, hl, _ => by
  have := f8X (l := e :: l) (digs_cons.1 hd).2 hl (by simp)
  simp only [List.length_cons, Nat.add_sub_cancel] at this ⊢
  simp only [bv, Nat.pow_succ] at *
  omega
theorem IsB.len {l : List Dg} {n k : Nat} (h : IsB l n) : l.length ≤ k ↔ n < 65536 ^ k := by
 have h1 := d7F h.dig
 rw [h.val] at h1
 constructor
 ·
  intro hk
  exact Nat.lt_of_lt_of_le h1 (Nat.pow_le_pow_right (by decide) hk)
 ·
  intro hn
  rcases Nat.lt_or_ge k l.length with hk | hk
  ·
   have h2 := f8X h.dig h.lead (by intro e; subst e; simp at hk)
   rw [h.val] at h2
   have h3 : 65536 ^ k ≤ 65536 ^ (l.length - 1) := Nat.pow_le_pow_right (by decide) (by omega)
   omega
  ·
   exact hk
theorem b1D (n : Nat) (h : n < 2 ^ 64) : n < K0 := by rw [a5L]; exact h
theorem c8H (l : List Dg) (hd : Digs l) (hl : l.length ≤ 1073741824) : ∃ r, a3V ((l, ()), ()) = some ((r, ()), ()) ∧ IsB r (bv l) := by
 have key : Wp (fun o => ∃ r, o = some ((r, ()), ()) ∧ IsB r (bv l)) (a3V ((l, ()), ())) := by
  have hlen : (I.ofNat .i64 (lenL l)).val = l.length := a2M (by show l.length < _; omega)
  have c1 : (I.of .i64 1).val = 1 := rfl
  have c0 : (I.of .i64 0).val = 0 := rfl
  unfold a3V
  refine Wp.iter (fun x => x.1.1 = l ∧ 0 ≤ x.1.2.1.val ∧ x.1.2.1.val ≤ (l.length : Int) ∧ bv (l.take x.1.2.1.val.toNat) = bv l) (fun x => x.1.2.1.val.toNat) ?_ ?_ ?_
  ·
   rintro ⟨⟨l', i, ⟨⟩⟩, ⟨⟩⟩ ⟨e1, hi0, hi1, hb⟩
   simp only at e1 hi0 hi1 hb
   subst e1
   have cut : inB' i (lenL l') = true := by
    show (decide (0 ≤ i.val) && decide (i.val ≤ ((l'.length : Nat) : Int))) = true
    simp [hi0, hi1]
   have sub : subL l' 0 (I.nat i) = l'.take i.val.toNat := by simp [subL, I.nat]
   refine Wp.brn (fun h => ?_) (fun h => ?_)
   ·
    have h := iff_ltb.1 h
    simp only [c0] at h
    have hs : (I.sub i (I.of .i64 1)).val = i.val - 1 := by rw [a8N (by omega)]; omega
    have hidx : (I.nat (I.sub i (I.of .i64 1))) = i.val.toNat - 1 := by unfold I.nat; omega
    have hlt : i.val.toNat - 1 < l'.length := by omega
    have hrd : rdL (I.of .i64 0) l' (I.nat (I.sub i (I.of .i64 1))) = l'[i.val.toNat - 1] := by rw [hidx]; exact a4G _ _ _ hlt
    have htk : l'.take i.val.toNat = l'.take (i.val.toNat - 1) ++ [l'[i.val.toNat - 1]] := by
     rw [List.take_append_getElem hlt]
     congr 1
     omega
    refine Wp.brnT (iff_inB.2 ⟨by show 0 ≤ (I.sub i (I.of .i64 1)).val; omega, by show (I.sub i (I.of .i64 1)).val < (l'.length : Int); omega⟩) ?_
    refine Wp.brn (fun h2 => ?_) (fun h2 => ?_)
    ·
     have h2 := iff_eqb.1 h2
     simp only [hrd] at h2
     refine Wp.again ⟨rfl, ?_, ?_, ?_⟩ ?_
     ·
      show 0 ≤ (I.sub i (I.of .i64 1)).val; omega
     ·
      show (I.sub i (I.of .i64 1)).val ≤ _; omega
     ·
      show bv (l'.take (I.sub i (I.of .i64 1)).val.toNat) = _
      have e : (I.sub i (I.of .i64 1)).val.toNat = i.val.toNat - 1 := by omega
      rw [e, ← hb, htk, b6W]
      have hz : (l'[i.val.toNat - 1]).nat = 0 := by unfold I.nat; rw [h2]; rfl
      simp [bv, hz]
     ·
      show (I.sub i (I.of .i64 1)).val.toNat < _
      simp only; omega
    ·
     have h2 := niff_eqb.1 h2
     simp only [hrd] at h2
     refine Wp.done (Wp.brnT cut ⟨_, rfl, ?_⟩)
     show IsB (subL l' 0 (I.nat i)) _
     rw [sub]
     refine ⟨b6T hd _, ?_, hb⟩
     rw [htk]
     exact b6X _ _ h2
   ·
    have h := niff_ltb.1 h
    simp only [c0] at h
    refine Wp.done (Wp.brnT cut ⟨_, rfl, ?_⟩)
    show IsB (subL l' 0 (I.nat i)) _
    rw [sub]
    have e : i.val.toNat = 0 := by omega
    rw [e] at hb ⊢
    simp only [List.take_zero] at hb ⊢
    rw [← hb]
    exact c5F
  ·
   refine ⟨rfl, ?_, ?_, ?_⟩
   ·
    show 0 ≤ (I.ofNat .i64 (lenL l)).val; omega
   ·
    show (I.ofNat .i64 (lenL l)).val ≤ _; omega
   ·
    show bv (l.take (I.ofNat .i64 (lenL l)).val.toNat) = _
    rw [hlen, Int.toNat_natCast, List.take_length]
  ·
   refine b1D _ ?_
   show (I.ofNat .i64 (lenL l)).val.toNat < _
   omega
 exact key.out
end Sym

/- Natural numbers by digits of 65536: from and to 256 bits, comparison. -/
namespace Sym
open Go
theorem d5M (k : IntKind) (hk : k.bits = 64) (x : I k) (h : 0 ≤ x.val) (hx : x.val < 18446744073709551616) : ((BitVec.ofInt k.bits x.val &&& BitVec.ofInt k.bits 65535).toNat : Int) = x.val % 65536 := by
 rw [hk, BitVec.toNat_and]
 have h1 : (BitVec.ofInt 64 65535).toNat = 2 ^ 16 - 1 := rfl
 rw [h1, Nat.and_two_pow_sub_one_eq_mod, BitVec.toNat_ofInt]
 omega
theorem e9C (x : I .u64) : (I.and x (I.of .u64 65535)).val = x.val % 65536 := by
 have h := a2U x
 have := d5M .u64 rfl x h.1 h.2
 have e : (I.of .u64 65535).val = 65535 := rfl
 show (I.of .u64 _).val = _
 rw [e, this]
 exact b2F ⟨by omega, by omega⟩
theorem d4A (x : I .i64) (h : 0 ≤ x.val) : (I.and x (I.of .i64 65535)).val = x.val % 65536 := by
 have h2 := b3J x
 have := d5M .i64 rfl x h (by omega)
 have e : (I.of .i64 65535).val = 65535 := rfl
 show (I.of .i64 _).val = _
 rw [e, this]
 exact b1F ⟨by omega, by omega⟩
theorem b9A (a : Int) (n : Nat) (h : 0 ≤ a) : a.fdiv ((2 : Int) ^ n) = a / (2 : Int) ^ n := by
 have h2 : (0 : Int) ≤ (2 : Int) ^ n := Int.le_of_lt (Int.pow_pos (by decide))
 rw [Int.fdiv_eq_ediv_of_nonneg _ h2]
theorem e2F (x s : I .u64) (hs : s.val < 64) : (I.shr x s).val = x.val / (2 : Int) ^ s.val.toNat := by
 have hx := a2U x
 have h0 := a2U s
 have hm : min s.val.toNat IntKind.u64.bits = s.val.toNat := by
  have : IntKind.u64.bits = 64 := rfl
  omega
 unfold I.shr
 rw [hm, b9A _ _ hx.1]
 have h2 : (0 : Int) < (2 : Int) ^ s.val.toNat := Int.pow_pos (by decide)
 have h3 : 0 ≤ x.val / (2 : Int) ^ s.val.toNat := Int.ediv_nonneg hx.1 (by omega)
 have h4 : x.val / (2 : Int) ^ s.val.toNat ≤ x.val := Int.ediv_le_self _ hx.1
 exact b2F ⟨by omega, by omega⟩
theorem c1I (x : I .i64) (h : 0 ≤ x.val) : (I.shr x (I.of .u64 16)).val = x.val / 65536 := by
 have hx := b3J x
 have hm : min (I.of .u64 16).val.toNat IntKind.i64.bits = 16 := rfl
 unfold I.shr
 rw [hm, b9A _ _ h]
 have e : (2 : Int) ^ 16 = 65536 := by decide
 rw [e]
 exact b1F ⟨by omega, by omega⟩
def digF (a : U) (j : Nat) : Dg := I.conv .i64 (I.and (I.shr (Arr.sel (I.of .u64 0) 4 a (j / 4)) (I.of .u64 (16 * (j % 4) : Nat))) (I.of .u64 65535))
theorem d5N (a : U) (j : Nat) : (digF a j).val = (Arr.sel (I.of .u64 0) 4 a (j / 4)).val / (2 : Int) ^ (16 * (j % 4)) % 65536 := by
 have h1 : (I.of .u64 (16 * (j % 4) : Nat)).val = (16 * (j % 4) : Nat) := b2F ⟨by omega, by omega⟩
 have h2 := e2F (Arr.sel (I.of .u64 0) 4 a (j / 4)) (I.of .u64 (16 * (j % 4) : Nat)) (by omega)
 rw [h1, Int.toNat_natCast] at h2
 unfold digF
 show (I.of .i64 _).val = _
 rw [e9C, h2]
 exact b1F ⟨by omega, by omega⟩
theorem e0S (a : U) (j : Nat) : DigOk (digF a j) := by
 unfold DigOk
 rw [d5N]
 omega
theorem limb (x : I .u64) (d0 d1 d2 d3 : Nat) (h0 : (d0 : Int) = x.val / (2 : Int) ^ 0 % 65536) (h1 : (d1 : Int) = x.val / (2 : Int) ^ 16 % 65536) (h2 : (d2 : Int) = x.val / (2 : Int) ^ 32 % 65536) (h3 : (d3 : Int) = x.val / (2 : Int) ^ 48 % 65536) :
  x.nat = d0 + 65536 * d1 + 4294967296 * d2 + 281474976710656 * d3 := by
 have p0 : (2 : Int) ^ 0 = 1 := by decide
 have p1 : (2 : Int) ^ 16 = 65536 := by decide
 have p2 : (2 : Int) ^ 32 = 4294967296 := by decide
 have p3 : (2 : Int) ^ 48 = 281474976710656 := by decide
 rw [p0] at h0
 rw [p1] at h1
 rw [p2] at h2
 rw [p3] at h3
 have hx := a2U x
 have hn := a0Z x
 omega
theorem comb (a0 a1 a2 a3 d0 d1 d2 d3 d4 d5 d6 d7 d8 d9 d10 d11 d12 d13 d14 d15 : Nat) (v0 : a0 = d0 + 65536 * d1 + 4294967296 * d2 + 281474976710656 * d3) (v1 : a1 = d4 + 65536 * d5 + 4294967296 * d6 + 281474976710656 * d7)
  (v2 : a2 = d8 + 65536 * d9 + 4294967296 * d10 + 281474976710656 * d11) (v3 : a3 = d12 + 65536 * d13 + 4294967296 * d14 + 281474976710656 * d15) :
  d0 + 65536 * (d1 + 65536 * (d2 + 65536 * (d3 + 65536 * (d4 + 65536 * (d5 + 65536 * (d6 + 65536 * (d7 + 65536 * (d8 + 65536 * (d9 + 65536 * (d10 + 65536 * (d11 + 65536 * (d12 + 65536 * (d13 + 65536 * (d14 + 65536 * (d15 + 65536 * 0))))))))))))))) =
   a0 + 18446744073709551616 * (a1 + 18446744073709551616 * (a2 + 18446744073709551616 * a3)) := by
 subst v0 v1 v2 v3
 omega
theorem d9M (a : U) : bv ((List.range 16).map (digF a)) = a.val := by
 obtain ⟨a0, a1, a2, a3, ⟨⟩⟩ := a
 have n : ∀ j, ((digF (a0, a1, a2, a3, ()) j).nat : Int) = (Arr.sel (I.of .u64 0) 4 (a0, a1, a2, a3, ()) (j / 4)).val / (2 : Int) ^ (16 * (j % 4)) % 65536 := fun j => (e0S _ j).nat.1.trans (d5N _ j)
 exact comb _ _ _ _ _ _ _ _ _ _ _ _ _ _ _ _ _ _ _ _ (limb a0 _ _ _ _ (n 0) (n 1) (n 2) (n 3)) (limb a1 _ _ _ _ (n 4) (n 5) (n 6) (n 7)) (limb a2 _ _ _ _ (n 8) (n 9) (n 10) (n 11)) (limb a3 _ _ _ _ (n 12) (n 13) (n 14) (n 15))
theorem a7D (a : U) : ∃ r, a0I ((a, ()), ()) = some ((r, ()), ()) ∧ IsB r a.val := by
 have key : Wp (fun o => ∃ r, o = some ((r, ()), ()) ∧ IsB r a.val) (a0I ((a, ()), ())) := by
  have c16 : (I.of .i64 16).val = 16 := rfl
  have c4 : (I.of .i64 4).val = 4 := rfl
  have c1 : (I.of .i64 1).val = 1 := rfl
  unfold a0I
  refine Wp.iter (fun x => 0 ≤ x.1.1.val ∧ x.1.1.val ≤ 16 ∧ x.2.1 = a ∧ x.2.2.1 = (List.range x.1.1.val.toNat).map (digF a) ++ List.replicate (16 - x.1.1.val.toNat) (I.of .i64 0)) (fun x => (16 - x.1.1.val).toNat) ?_ ?_ ?_
  ·
   rintro ⟨⟨i, ⟨⟩⟩, a', out, ⟨⟩⟩ ⟨hi0, hi1, e1, e2⟩
   simp only at hi0 hi1 e1 e2
   subst e1
   refine Wp.brn (fun h => ?_) (fun h => ?_)
   ·
    have h := iff_ltb.1 h
    simp only [c16] at h
    have hq : (I.quo i (I.of .i64 4)).val = i.val / 4 := c1K hi0 (by decide)
    have hr : (I.rem i (I.of .i64 4)).val = i.val % 4 := c3J hi0 (by decide)
    have hlen : out.length = 16 := by rw [e2]; simp; omega
    have hs : (I.add i (I.of .i64 1)).val = i.val + 1 := by rw [a2X (by omega)]; omega
    have hm : (I.mul (I.of .i64 16) (I.rem i (I.of .i64 4))).val = 16 * (i.val % 4) := by rw [b8N (by rw [c16, hr]; omega), hr, c16]
    refine Wp.brnT (iff_inB.2 ⟨by show 0 ≤ (I.quo i (I.of .i64 4)).val; omega, by show (I.quo i (I.of .i64 4)).val < ((4 : Nat) : Int); omega⟩) ?_
    refine Wp.brnT (b5X _) ?_
    refine Wp.brnT (iff_inB.2 ⟨hi0, by show i.val < ((out.length : Nat) : Int); omega⟩) ?_
    refine Wp.again ⟨?_, ?_, rfl, ?_⟩ ?_
    ·
     show 0 ≤ (I.add i (I.of .i64 1)).val; omega
    ·
     show (I.add i (I.of .i64 1)).val ≤ 16; omega
    ·
     have ed : I.conv .i64 (I.and (I.shr (Arr.sel (I.of .u64 0) 4 a' (I.nat (I.quo i (I.of .i64 4)))) (I.conv .u64 (I.mul (I.of .i64 16) (I.rem i (I.of .i64 4))))) (I.of .u64 65535)) = digF a' i.val.toNat := by
      unfold digF
      have e1 : I.nat (I.quo i (I.of .i64 4)) = i.val.toNat / 4 := by unfold I.nat; omega
      have e2 : I.conv .u64 (I.mul (I.of .i64 16) (I.rem i (I.of .i64 4))) = I.of .u64 (16 * (i.val.toNat % 4) : Nat) := by
       show I.of .u64 _ = _
       rw [hm]
       congr 1
       omega
      rw [e1, e2]
     show setAt out (I.nat i) _ = (List.range (I.add i (I.of .i64 1)).val.toNat).map (digF a') ++ List.replicate (16 - (I.add i (I.of .i64 1)).val.toNat) (I.of .i64 0)
     have e3 : (I.add i (I.of .i64 1)).val.toNat = i.val.toNat + 1 := by omega
     have e4 : I.nat i = ((List.range i.val.toNat).map (digF a')).length := by simp [I.nat]
     have e5 : 16 - i.val.toNat = (16 - (i.val.toNat + 1)) + 1 := by omega
     rw [a2D, e2, e3, e4, List.set_append_right _ _ (Nat.le_refl _), Nat.sub_self, e5, List.replicate_succ, List.set_cons_zero, List.range_succ, List.map_append, List.map_cons, List.map_nil, List.append_assoc]
     show _ ++ _ = _ ++ ([_] ++ _)
     rw [← ed]
     rfl
    ·
     show (16 - (I.add i (I.of .i64 1)).val).toNat < _
     simp only; omega
   ·
    have h := niff_ltb.1 h
    simp only [c16] at h
    have hi : i.val.toNat = 16 := by omega
    rw [hi] at e2
    simp only [Nat.sub_self, List.replicate_zero, List.append_nil] at e2
    subst e2
    have hd : Digs ((List.range 16).map (digF a')) := by
     intro d hd
     rw [List.mem_map] at hd
     obtain ⟨j, _, rfl⟩ := hd
     exact e0S a' j
    obtain ⟨r, hr, hB⟩ := c8H _ hd (by simp)
    exact Wp.done (Wp.optF hr ⟨r, rfl, hB.dig, hB.lead, hB.val.trans (d9M a')⟩)
  ·
   exact ⟨by show 0 ≤ (I.of .i64 0).val; decide, by show (I.of .i64 0).val ≤ 16; decide, rfl, rfl⟩
  ·
   exact b1D _ (by show (16 - (I.of .i64 0).val).toNat < _; decide)
 exact key.out
end Sym

/- Natural numbers by digits of 65536: to 256 bits, comparison. -/
namespace Sym
open Go
theorem e9K (x s : I .u64) (hs : s.val < 64) (h : x.val * (2 : Int) ^ s.val.toNat < 18446744073709551616) : (I.shl x s).val = x.val * (2 : Int) ^ s.val.toNat := by
 have hx := a2U x
 have h0 := a2U s
 have hm : min s.val.toNat IntKind.u64.bits = s.val.toNat := by
  have : IntKind.u64.bits = 64 := rfl
  omega
 have h2 : (0 : Int) ≤ (2 : Int) ^ s.val.toNat := Int.le_of_lt (Int.pow_pos (by decide))
 unfold I.shl
 rw [hm]
 exact b2F ⟨Int.mul_nonneg hx.1 h2, h⟩
theorem a9P (x : I .u64) (d r S : Nat) (hd : d < 65536) (hr : r < 4) (hS : (S : Int) = (2 : Int) ^ (16 * r)) (hx : x.nat < S) (hl : S ≤ 281474976710656) : (I.add x (I.shl (I.of .u64 d) (I.of .u64 (16 * r : Nat)))).nat = x.nat + S * d := by
 have h1 : (I.of .u64 (16 * r : Nat)).val = (16 * r : Nat) := b2F ⟨by omega, by omega⟩
 have h2 : (I.of .u64 (d : Int)).val = d := b2F ⟨by omega, by omega⟩
 have hv := a0Z x
 have hdS : (d : Int) * S = ((S * d : Nat) : Int) := by rw [Nat.mul_comm, Int.natCast_mul]
 have hle : S * d ≤ 281474976710656 * 65535 := Nat.mul_le_mul hl (by omega)
 have h3 : (I.shl (I.of .u64 d) (I.of .u64 (16 * r : Nat))).val = ((S * d : Nat) : Int) := by
  rw [e9K _ _ (by omega) (by rw [h1, h2, Int.toNat_natCast, ← hS, hdS]; omega), h1, h2, Int.toNat_natCast, ← hS, hdS]
 have h4 := d2T (a := x) (b := I.shl (I.of .u64 d) (I.of .u64 (16 * r : Nat))) (by rw [h3]; omega)
 rw [h3] at h4
 have h5 := a0Z (I.add x (I.shl (I.of .u64 d) (I.of .u64 (16 * r : Nat))))
 omega
theorem e4L (u : U) (d : Nat) (j : Nat) (hj : j < 16) (hu : u.val < 65536 ^ j) (hd : d < 65536) :
  U.val (Arr.upd 4 u (j / 4) (I.add (Arr.sel (I.of .u64 0) 4 u (j / 4)) (I.shl (I.of .u64 d) (I.of .u64 (16 * (j % 4) : Nat))))) = u.val + 65536 ^ j * d := by
 obtain ⟨u0, u1, u2, u3, ⟨⟩⟩ := u
 have n0 := a1J u0
 have n1 := a1J u1
 have n2 := a1J u2
 have n3 := a1J u3
 unfold U.val at hu
 simp only at hu
 have hc : j = 0 ∨ j = 1 ∨ j = 2 ∨ j = 3 ∨ j = 4 ∨ j = 5 ∨ j = 6 ∨ j = 7 ∨ j = 8 ∨ j = 9 ∨ j = 10 ∨ j = 11 ∨ j = 12 ∨ j = 13 ∨ j = 14 ∨ j = 15 := by omega
 rcases hc with rfl | rfl | rfl | rfl | rfl | rfl | rfl | rfl | rfl | rfl | rfl | rfl | rfl | rfl | rfl | rfl
 ·
  have p : 65536 ^ 0 = 1 := by decide
  rw [p] at hu ⊢
  have k := a9P u0 d 0 1 hd (by decide) (by decide) (by omega) (by decide)
  show U.val ((I.add u0 (I.shl (I.of .u64 d) (I.of .u64 (16 * 0 : Nat)))), u1, u2, u3, ()) = _
  unfold U.val
  simp only
  omega
 ·
  have p : 65536 ^ 1 = 65536 := by decide
  rw [p] at hu ⊢
  have k := a9P u0 d 1 65536 hd (by decide) (by decide) (by omega) (by decide)
  show U.val ((I.add u0 (I.shl (I.of .u64 d) (I.of .u64 (16 * 1 : Nat)))), u1, u2, u3, ()) = _
  unfold U.val
  simp only
  omega
 ·
  have p : 65536 ^ 2 = 4294967296 := by decide
  rw [p] at hu ⊢
  have k := a9P u0 d 2 4294967296 hd (by decide) (by decide) (by omega) (by decide)
  show U.val ((I.add u0 (I.shl (I.of .u64 d) (I.of .u64 (16 * 2 : Nat)))), u1, u2, u3, ()) = _
  unfold U.val
  simp only
  omega
 ·
  have p : 65536 ^ 3 = 281474976710656 := by decide
  rw [p] at hu ⊢
  have k := a9P u0 d 3 281474976710656 hd (by decide) (by decide) (by omega) (by decide)
  show U.val ((I.add u0 (I.shl (I.of .u64 d) (I.of .u64 (16 * 3 : Nat)))), u1, u2, u3, ()) = _
  unfold U.val
  simp only
  omega
 ·
  have p : 65536 ^ 4 = 18446744073709551616 := by decide
  rw [p] at hu ⊢
  have k := a9P u1 d 0 1 hd (by decide) (by decide) (by omega) (by decide)
  show U.val (u0, (I.add u1 (I.shl (I.of .u64 d) (I.of .u64 (16 * 0 : Nat)))), u2, u3, ()) = _
  unfold U.val
  simp only
  omega
 ·
  have p : 65536 ^ 5 = 1208925819614629174706176 := by decide
  rw [p] at hu ⊢
  have k := a9P u1 d 1 65536 hd (by decide) (by decide) (by omega) (by decide)
  show U.val (u0, (I.add u1 (I.shl (I.of .u64 d) (I.of .u64 (16 * 1 : Nat)))), u2, u3, ()) = _
  unfold U.val
  simp only
  omega
 ·
  have p : 65536 ^ 6 = 79228162514264337593543950336 := by decide
  rw [p] at hu ⊢
  have k := a9P u1 d 2 4294967296 hd (by decide) (by decide) (by omega) (by decide)
  show U.val (u0, (I.add u1 (I.shl (I.of .u64 d) (I.of .u64 (16 * 2 : Nat)))), u2, u3, ()) = _
  unfold U.val
  simp only
  omega
 ·
  have p : 65536 ^ 7 = 5192296858534827628530496329220096 := by decide
  rw [p] at hu ⊢
  have k := a9P u1 d 3 281474976710656 hd (by decide) (by decide) (by omega) (by decide)
  show U.val (u0, (I.add u1 (I.shl (I.of .u64 d) (I.of .u64 (16 * 3 : Nat)))), u2, u3, ()) = _
  unfold U.val
  simp only
  omega
 ·
  have p : 65536 ^ 8 = 340282366920938463463374607431768211456 := by decide
  rw [p] at hu ⊢
  have k := a9P u2 d 0 1 hd (by decide) (by decide) (by omega) (by decide)
  show U.val (u0, u1, (I.add u2 (I.shl (I.of .u64 d) (I.of .u64 (16 * 0 : Nat)))), u3, ()) = _
  unfold U.val
  simp only
  omega
 ·
  have p : 65536 ^ 9 = 22300745198530623141535718272648361505980416 := by decide
  rw [p] at hu ⊢
  have k := a9P u2 d 1 65536 hd (by decide) (by decide) (by omega) (by decide)
  show U.val (u0, u1, (I.add u2 (I.shl (I.of .u64 d) (I.of .u64 (16 * 1 : Nat)))), u3, ()) = _
  unfold U.val
  simp only
  omega
 ·
  have p : 65536 ^ 10 = 1461501637330902918203684832716283019655932542976 := by decide
  rw [p] at hu ⊢
  have k := a9P u2 d 2 4294967296 hd (by decide) (by decide) (by omega) (by decide)
  show U.val (u0, u1, (I.add u2 (I.shl (I.of .u64 d) (I.of .u64 (16 * 2 : Nat)))), u3, ()) = _
  unfold U.val
  simp only
  omega
 ·
  have p : 65536 ^ 11 = 95780971304118053647396689196894323976171195136475136 := by decide
  rw [p] at hu ⊢
  have k := a9P u2 d 3 281474976710656 hd (by decide) (by decide) (by omega) (by decide)
  show U.val (u0, u1, (I.add u2 (I.shl (I.of .u64 d) (I.of .u64 (16 * 3 : Nat)))), u3, ()) = _
  unfold U.val
  simp only
  omega
 ·
  have p : 65536 ^ 12 = 6277101735386680763835789423207666416102355444464034512896 := by decide
  rw [p] at hu ⊢
  have k := a9P u3 d 0 1 hd (by decide) (by decide) (by omega) (by decide)
  show U.val (u0, u1, u2, (I.add u3 (I.shl (I.of .u64 d) (I.of .u64 (16 * 0 : Nat)))), ()) = _
  unfold U.val
  simp only
  omega
 ·
  have p : 65536 ^ 13 = 411376139330301510538742295639337626245683966408394965837152256 := by decide
  rw [p] at hu ⊢
  have k := a9P u3 d 1 65536 hd (by decide) (by decide) (by omega) (by decide)
  show U.val (u0, u1, u2, (I.add u3 (I.shl (I.of .u64 d) (I.of .u64 (16 * 1 : Nat)))), ()) = _
  unfold U.val
  simp only
  omega
 ·
  have p : 65536 ^ 14 = 26959946667150639794667015087019630673637144422540572481103610249216 := by decide
  rw [p] at hu ⊢
  have k := a9P u3 d 2 4294967296 hd (by decide) (by decide) (by omega) (by decide)
  show U.val (u0, u1, u2, (I.add u3 (I.shl (I.of .u64 d) (I.of .u64 (16 * 2 : Nat)))), ()) = _
  unfold U.val
  simp only
  omega
 ·
  have p : 65536 ^ 15 = 1766847064778384329583297500742918515827483896875618958121606201292619776 := by decide
  rw [p] at hu ⊢
  have k := a9P u3 d 3 281474976710656 hd (by decide) (by decide) (by omega) (by decide)
  show U.val (u0, u1, u2, (I.add u3 (I.shl (I.of .u64 d) (I.of .u64 (16 * 3 : Nat)))), ()) = _
  unfold U.val
  simp only
  omega
theorem c1W {l : List Dg} {i : Nat} (h : i < l.length) : bv (l.take (i + 1)) = bv (l.take i) + 65536 ^ i * (l[i]).nat := by
 rw [← List.take_append_getElem h, b6W]
 have e : (l.take i).length = i := by simp; omega
 simp [bv, e]
theorem a4E {l : List Dg} {n : Nat} (hl : IsB l n) (hn : n < U.top) : a0X ((l, ()), ()) = some ((U.of n, ()), ()) := by
 have ht : U.top = 65536 ^ 16 := by decide
 have hlen : l.length ≤ 16 := hl.len.2 (by rw [← ht]; exact hn)
 have c16 : (I.of .i64 16).val = 16 := rfl
 have c4 : (I.of .i64 4).val = 4 := rfl
 have c1 : (I.of .i64 1).val = 1 := rfl
 have hol : (I.ofNat .i64 (lenL l)).val = l.length := a2M (by show l.length < _; omega)
 have key : Wp (fun o => o = some ((U.of n, ()), ())) (a0X ((l, ()), ())) := by
  unfold a0X
  refine Wp.iter (fun x => x.1.1 = l ∧ 0 ≤ x.1.2.1.val ∧ x.1.2.1.val ≤ (l.length : Int) ∧ U.val x.2.2.1 = bv (l.take x.1.2.1.val.toNat)) (fun x => ((l.length : Int) - x.1.2.1.val).toNat) ?_ ?_ ?_
  ·
   rintro ⟨⟨l', i, ⟨⟩⟩, r0, u, ⟨⟩⟩ ⟨e1, hi0, hi1, hu⟩
   simp only at e1 hi0 hi1 hu
   subst e1
   have fin : i.val.toNat = l'.length → u = U.of n := by
    intro e
    rw [e, List.take_length, hl.val] at hu
    rw [← hu]
    exact (U.of_val u).symm
   refine Wp.brn (fun h => ?_) (fun h => ?_)
   ·
    have h := iff_ltb.1 h
    simp only [hol] at h
    have hlt : i.val.toNat < l'.length := by omega
    refine Wp.brnT (iff_ltb.2 (by show i.val < (I.of .i64 16).val; omega)) ?_
    have hq : (I.quo i (I.of .i64 4)).val = i.val / 4 := c1K hi0 (by decide)
    have hr : (I.rem i (I.of .i64 4)).val = i.val % 4 := c3J hi0 (by decide)
    have hs : (I.add i (I.of .i64 1)).val = i.val + 1 := by rw [a2X (by omega)]; omega
    have hm : (I.mul (I.of .i64 16) (I.rem i (I.of .i64 4))).val = 16 * (i.val % 4) := by rw [b8N (by rw [c16, hr]; omega), hr, c16]
    have hin : inB (I.quo i (I.of .i64 4)) 4 = true := iff_inB.2 ⟨by omega, by omega⟩
    refine Wp.brnT hin ?_
    refine Wp.brnT (iff_inB.2 ⟨hi0, by show i.val < ((l'.length : Nat) : Int); omega⟩) ?_
    refine Wp.brnT (b5X _) ?_
    refine Wp.brnT hin ?_
    have hdig : DigOk l'[i.val.toNat] := hl.dig _ (List.getElem_mem hlt)
    have hrd : rdL (I.of .i64 0) l' (I.nat i) = l'[i.val.toNat] := a4G _ _ _ hlt
    have e1 : I.nat (I.quo i (I.of .i64 4)) = i.val.toNat / 4 := by unfold I.nat; omega
    have e2 : I.conv .u64 (I.mul (I.of .i64 16) (I.rem i (I.of .i64 4))) = I.of .u64 (16 * (i.val.toNat % 4) : Nat) := by
     show I.of .u64 _ = _
     rw [hm]
     congr 1
     omega
    have e3 : I.conv .u64 (rdL (I.of .i64 0) l' (I.nat i)) = I.of .u64 ((l'[i.val.toNat]).nat : Int) := by
     show I.of .u64 _ = _
     rw [hrd, hdig.nat.1]
    have hub : U.val u < 65536 ^ i.val.toNat := by
     rw [hu]
     have := d7F (b6T hl.dig i.val.toNat)
     rw [List.length_take] at this
     rwa [Nat.min_eq_left (by omega)] at this
    have st := e4L u (l'[i.val.toNat]).nat i.val.toNat (by omega) hub hdig.nat.2
    refine Wp.again ⟨rfl, ?_, ?_, ?_⟩ ?_
    ·
     show 0 ≤ (I.add i (I.of .i64 1)).val; omega
    ·
     show (I.add i (I.of .i64 1)).val ≤ _; omega
    ·
     show U.val (Arr.upd 4 u (I.nat (I.quo i (I.of .i64 4))) (I.add (Arr.sel (I.of .u64 0) 4 u (I.nat (I.quo i (I.of .i64 4)))) (I.shl (I.conv .u64 (rdL (I.of .i64 0) l' (I.nat i))) (I.conv .u64 (I.mul (I.of .i64 16) (I.rem i (I.of .i64 4))))))) = bv (l'.take (I.add i (I.of .i64 1)).val.toNat)
     have e4 : (I.add i (I.of .i64 1)).val.toNat = i.val.toNat + 1 := by omega
     rw [e1, e2, e3, e4, st, c1W hlt, ← hu]
    ·
     show ((l'.length : Int) - (I.add i (I.of .i64 1)).val).toNat < _
     simp only; omega
   ·
    have h := niff_ltb.1 h
    simp only [hol] at h
    have := fin (by omega)
    subst this
    exact Wp.done rfl
  ·
   refine ⟨rfl, by show 0 ≤ (I.of .i64 0).val; decide, by show (I.of .i64 0).val ≤ (l.length : Int); have : (I.of .i64 0).val = 0 := rfl; omega, ?_⟩
   show U.val _ = bv (l.take (I.of .i64 0).val.toNat)
   rfl
  ·
   exact b1D _ (by show ((l.length : Int) - (I.of .i64 0).val).toNat < _; have : (I.of .i64 0).val = 0 := rfl; omega)
 exact key.out
def errS (n : Nat) : U × I .i64 := if n < U.top then (U.of n, I.of .i64 0) else (U.of 0, I.of .i64 4)
theorem c4I {l : List Dg} {n : Nat} (hl : IsB l n) (hlen : l.length < 9223372036854775808) : a2R ((l, ()), ()) = some ((decide (n < U.top), ()), ()) := by
 have ht : U.top = 65536 ^ 16 := by decide
 have h := hl.len (k := 16)
 have hol : (I.ofNat .i64 (lenL l)).val = l.length := a2M hlen
 have c16 : (I.of .i64 16).val = 16 := rfl
 have e : I.leb (I.ofNat .i64 (lenL l)) (I.of .i64 16) = decide (n < U.top) := by
  unfold I.leb
  rw [hol, c16, ht]
  by_cases hc : l.length ≤ 16
  ·
   have := h.1 hc
   simp [this]; omega
  ·
   have : ¬ n < 65536 ^ 16 := fun hh => hc (h.2 hh)
   simp [this]; omega
 refine Wp.out (T := fun o => o = _) ?_
 unfold a2R
 show some ((I.leb (I.ofNat .i64 (lenL l)) (I.of .i64 16), ()), ()) = _
 rw [e]
theorem d8A {l : List Dg} {n : Nat} (hl : IsB l n) (hlen : l.length < 9223372036854775808) : a2J ((l, ()), ()) = some (((errS n).1, (errS n).2, ()), ()) := by
 refine Wp.out (T := fun o => o = _) ?_
 unfold a2J errS
 refine Wp.optF (c4I hl hlen) ?_
 by_cases h : n < U.top
 ·
  refine Wp.brnF (by show (!decide (n < U.top)) = false; simp [h]) ?_
  refine Wp.optF (a4E hl h) ?_
  show _ = _
  rw [if_pos h]
  rfl
 ·
  refine Wp.brnT (by show (!decide (n < U.top)) = true; simp [h]) ?_
  show _ = _
  rw [if_neg h]
  rfl
theorem Checked_ok' {l : List Dg} {n : Nat} (hl : IsB l n) (hlen : l.length ≤ 1000000) : a2J ((l, ()), ()) = some (((errS n).1, (errS n).2, ()), ()) := d8A hl (by omega)
def u64U (x : I .u64) : U := (x, I.of .u64 0, I.of .u64 0, I.of .u64 0, ())
theorem a3A (x : I .u64) : (u64U x).val = x.nat := by
 unfold u64U U.val
 have : (I.of .u64 0).nat = 0 := rfl
 simp only [this]
 omega
theorem a6W (x : I .u64) : ∃ r, a1F ((x, ()), ()) = some ((r, ()), ()) ∧ IsB r x.nat := by
 obtain ⟨r, hr, hB⟩ := a7D (u64U x)
 rw [a3A] at hB
 refine ⟨r, ?_, hB⟩
 refine Wp.out (T := fun o => o = _) ?_
 unfold a1F
 exact Wp.optF hr rfl
end Sym

/- Natural numbers by digits of 65536: sums, differences, comparison. -/
namespace Sym
open Go
abbrev rd0 (l : List Dg) (i : Nat) : Dg := rdL (I.of .i64 0) l i
theorem e6L : DigOk (I.of .i64 0) := by unfold DigOk; decide
theorem a9M {l : List Dg} (h : Digs l) (i : Nat) : DigOk (rd0 l i) := by
 rcases Nat.lt_or_ge i l.length with hi | hi
 ·
  rw [rd0, a4G _ _ _ hi]; exact h _ (List.getElem_mem hi)
 ·
  rw [rd0, b1L _ _ _ hi]; exact e6L
theorem b7L {l : List Dg} {i : Nat} (h : l.length ≤ i) : (rd0 l i).nat = 0 := by rw [rd0, b1L _ _ _ h]; rfl
theorem b3F : ∀ (l : List Dg) (i : Nat), bv (l.drop i) = (rd0 l i).nat + 65536 * bv (l.drop (i + 1))
 | [], i => by simp [bv, rd0, rdL]; rfl
 | x :: l, 0 => by simp [bv, rd0, rdL]
 | x :: l, i + 1 => by simpa [rd0, rdL] using b3F l i
theorem b7J (l : List Dg) (i : Nat) : bv (l.take (i + 1)) = bv (l.take i) + 65536 ^ i * (rd0 l i).nat := by
 rcases Nat.lt_or_ge i l.length with hi | hi
 ·
  rw [c1W hi, rd0, a4G _ _ _ hi]
 ·
  rw [b7L hi, List.take_of_length_le (by omega), List.take_of_length_le hi]; simp
theorem c3D : ∀ {l : List Dg}, Lead l → ∀ (i : Nat), i + 1 = l.length → (rd0 l i).val ≠ 0
 | [], _, i, h => by simp at h
 | [d], h, i, hi => by
  have : i = 0 := by simpa using hi
  subst this
  exact h
 | d :: e :: l, h, 0, hi => by simp at hi
 | d :: e :: l, h, i + 1, hi => c3D (l := e :: l) h i (by simpa using hi)
structure AddInv (a b : List Dg) (over i : I .i64) (out : List Dg) : Prop where
 o0 : 0 ≤ over.val
 o1 : over.val ≤ 1
 i0 : 0 ≤ i.val
 i1 : i.val ≤ max a.length b.length ∨ (over.val = 0 ∧ i.val = max a.length b.length + 1)
 len : (out.length : Int) = i.val
 dig : Digs out
 sum : bv out + 65536 ^ i.val.toNat * (over.nat + bv (a.drop i.val.toNat) + bv (b.drop i.val.toNat)) = bv a + bv b
 lead : over.val = 0 → (a.length : Int) ≤ i.val → (b.length : Int) ≤ i.val → Lead out
theorem e3A {a b : List Dg} {over i s : I .i64} {out : List Dg} (ha : Digs a) (hb : Digs b) (la : Lead a) (lb : Lead b) (hal : a.length ≤ 1000000) (hbl : b.length ≤ 1000000) (h : AddInv a b over i out)
  (hc : i.val < a.length ∨ i.val < b.length ∨ 0 < over.val) (hs : s.val = over.val + (rd0 a i.val.toNat).val + (rd0 b i.val.toNat).val) :
  AddInv a b (I.shr s (I.of .u64 16)) (I.add i (I.of .i64 1)) (appL out [I.and s (I.of .i64 65535)]) := by
 have c1 : (I.of .i64 1).val = 1 := rfl
 have da := a9M ha i.val.toNat
 have db := a9M hb i.val.toNat
 have da2 := da.nat
 have db2 := db.nat
 unfold DigOk at da db
 have ho0 := h.o0
 have ho1 := h.o1
 have hi0 := h.i0
 have hi1 := h.i1
 have hsh := c1I s (by omega)
 have han := d4A s (by omega)
 have hi : (I.add i (I.of .i64 1)).val = i.val + 1 := by rw [a2X (by omega)]; omega
 have hin : (I.add i (I.of .i64 1)).val.toNat = i.val.toNat + 1 := by omega
 have hout : out.length = i.val.toNat := by have := h.len; omega
 refine ⟨by omega, by omega, by omega, ?_, ?_, ?_, ?_, ?_⟩
 ·
  rcases hi1 with hi1 | hi1
  ·
   rcases Int.lt_or_le i.val (max a.length b.length) with hlt | hge
   ·
    left; omega
   ·
    right
    have z1 := b7L (l := a) (i := i.val.toNat) (by omega)
    have z2 := b7L (l := b) (i := i.val.toNat) (by omega)
    omega
  ·
   exfalso; omega
 ·
  show ((appL out [_]).length : Int) = _
  simp only [appL, List.length_append, List.length_singleton]
  have := h.len
  omega
 ·
  exact digs_app.2 ⟨h.dig, digs_cons.2 ⟨by unfold DigOk; omega, fun _ h => by simp at h⟩⟩
 ·
  have hsum := h.sum
  rw [b3F a, b3F b] at hsum
  rw [hin]
  have hn1 : (I.and s (I.of .i64 65535)).nat + 65536 * (I.shr s (I.of .u64 16)).nat = over.nat + (rd0 a i.val.toNat).nat + (rd0 b i.val.toNat).nat := by
   unfold I.nat at *
   omega
  have e : over.nat + ((rd0 a i.val.toNat).nat + 65536 * bv (a.drop (i.val.toNat + 1))) + ((rd0 b i.val.toNat).nat + 65536 * bv (b.drop (i.val.toNat + 1))) =
    (I.and s (I.of .i64 65535)).nat + 65536 * ((I.shr s (I.of .u64 16)).nat + bv (a.drop (i.val.toNat + 1)) + bv (b.drop (i.val.toNat + 1))) := by omega
  rw [e, Nat.mul_add, ← Nat.mul_assoc] at hsum
  rw [← hsum, appL, b6W, hout, Nat.pow_succ]
  simp only [bv, Nat.mul_zero, Nat.add_zero]
  omega
 ·
  intro hz h1 h2
  refine b6X _ _ ?_
  intro hz2
  have hs0 : s.val = 0 := by omega
  rcases hc with hc | hc | hc
  ·
   have := c3D la i.val.toNat (by omega)
   omega
  ·
   have := c3D lb i.val.toNat (by omega)
   omega
  ·
   omega
theorem b6C {a b : List Dg} {m n : Nat} (ha : IsB a m) (hb : IsB b n) (hal : a.length ≤ 1000000) (hbl : b.length ≤ 1000000) : ∃ r, a2B ((a, b, ()), ()) = some ((r, ()), ()) ∧ IsB r (m + n) := by
 have hol : (I.ofNat .i64 (lenL a)).val = a.length := a2M (by show a.length < _; omega)
 have hol2 : (I.ofNat .i64 (lenL b)).val = b.length := a2M (by show b.length < _; omega)
 have c0 : (I.of .i64 0).val = 0 := rfl
 have key : Wp (fun o => ∃ r, o = some ((r, ()), ()) ∧ IsB r (m + n)) (a2B ((a, b, ()), ())) := by
  unfold a2B
  refine Wp.iter (fun x => x.1.1 = a ∧ x.1.2.1 = b ∧ AddInv a b x.1.2.2.1 x.1.2.2.2.1 x.2.1) (fun x => ((max a.length b.length : Int) + 2 - x.1.2.2.2.1.val).toNat) ?_ ?_ ?_
  ·
   rintro ⟨⟨a', b', over, i, ⟨⟩⟩, out, ⟨⟩⟩ ⟨e1, e2, hI⟩
   simp only at e1 e2 hI
   subst e1 e2
   have hi0 := hI.i0
   have hi1 := hI.i1
   have ho0 := hI.o0
   have ho1 := hI.o1
   have again : ∀ (s : I .i64), (i.val < a'.length ∨ i.val < b'.length ∨ 0 < over.val) → s.val = over.val + (rd0 a' i.val.toNat).val + (rd0 b' i.val.toNat).val →
     AddInv a' b' (I.shr s (I.of .u64 16)) (I.add i (I.of .i64 1)) (appL out [I.and s (I.of .i64 65535)]) ∧ ((max a'.length b'.length : Int) + 2 - (I.add i (I.of .i64 1)).val).toNat < ((max a'.length b'.length : Int) + 2 - i.val).toNat := by
    intro s hc hs
    refine ⟨e3A ha.dig hb.dig ha.lead hb.lead hal hbl hI hc hs, ?_⟩
    have c1 : (I.of .i64 1).val = 1 := rfl
    have hi : (I.add i (I.of .i64 1)).val = i.val + 1 := by rw [a2X (by omega)]; omega
    omega
   have fits : a2L (lenL (appL out [I.of .i64 0])) = true := iff_fits.2 (by show (appL out [_]).length ≤ _; rw [appL, List.length_append, List.length_singleton]; have := hI.len; omega)
   have fits' : ∀ d : Dg, a2L (lenL (appL out [d])) = true := fun d => iff_fits.2 (by show (appL out [_]).length ≤ _; rw [appL, List.length_append, List.length_singleton]; have := hI.len; omega)
   refine Wp.jn (fun x => x.1.1 = a' ∧ x.1.2.1 = b' ∧ x.1.2.2.1 = over ∧ x.1.2.2.2.1 = i ∧ x.2.1 = out ∧ (i.val < a'.length ∨ i.val < b'.length ∨ 0 < over.val)) ?_ ?_
   ·
    rintro ⟨⟨a1, b1, over1, i1, ⟨⟩⟩, out1, ⟨⟩⟩ ⟨e1, e2, e3, e4, e5, hc⟩
    simp only at e1 e2 e3 e4 e5
    subst e1 e2 e3 e4 e5
    have ra := a9M ha.dig i1.val.toNat
    have rb := a9M hb.dig i1.val.toNat
    unfold DigOk at ra rb
    refine Wp.jn (fun x => x.1.1 = a1 ∧ x.1.2.1 = b1 ∧ x.1.2.2.1.val = over1.val + (rd0 a1 i1.val.toNat).val ∧ x.1.2.2.2.1 = i1 ∧ x.2.1 = out1) ?_ ?_
    ·
     rintro ⟨⟨a2, b2, over2, i2, ⟨⟩⟩, out2, ⟨⟩⟩ ⟨e1, e2, e3, e4, e5⟩
     simp only at e1 e2 e3 e4 e5
     subst e1 e2 e4 e5
     refine Wp.brn (fun h => ?_) (fun h => ?_)
     ·
      have h := iff_ltb.1 h
      simp only [hol2] at h
      refine Wp.brnT (iff_inB.2 ⟨hi0, by show i2.val < ((b2.length : Nat) : Int); omega⟩) ?_
      have hs : (I.add over2 (rd0 b2 i2.val.toNat)).val = over1.val + (rd0 a2 i2.val.toNat).val + (rd0 b2 i2.val.toNat).val := by rw [a2X (by omega)]; omega
      have := again _ hc hs
      exact Wp.brnT (fits' _) (Wp.again ⟨rfl, rfl, this.1⟩ this.2)
     ·
      have h := niff_ltb.1 h
      simp only [hol2] at h
      have hz := b7L (l := b2) (i := i2.val.toNat) (by omega)
      have hz2 : (rd0 b2 i2.val.toNat).val = 0 := by unfold I.nat at hz; omega
      have := again over2 hc (by omega)
      exact Wp.brnT (fits' _) (Wp.again ⟨rfl, rfl, this.1⟩ this.2)
    ·
     intro j2 hj2
     refine Wp.brn (fun h => ?_) (fun h => ?_)
     ·
      have h := iff_ltb.1 h
      simp only [hol] at h
      refine Wp.brnT (iff_inB.2 ⟨hi0, by show i1.val < ((a1.length : Nat) : Int); omega⟩) ?_
      exact hj2 _ ⟨rfl, rfl, a2X (by show _ ≤ over1.val + (rd0 a1 i1.val.toNat).val ∧ over1.val + (rd0 a1 i1.val.toNat).val < _; omega), rfl, rfl⟩
     ·
      have h := niff_ltb.1 h
      simp only [hol] at h
      have hz := b7L (l := a1) (i := i1.val.toNat) (by omega)
      have hz2 : (rd0 a1 i1.val.toNat).val = 0 := by unfold I.nat at hz; omega
      exact hj2 _ ⟨rfl, rfl, by show over1.val = _; omega, rfl, rfl⟩
   ·
    intro j1 hj1
    refine Wp.brn (fun h => ?_) (fun h => ?_)
    ·
     have h := iff_ltb.1 h
     simp only [hol] at h
     exact hj1 _ ⟨rfl, rfl, rfl, rfl, rfl, .inl h⟩
    ·
     have h := niff_ltb.1 h
     simp only [hol] at h
     refine Wp.brn (fun h2 => ?_) (fun h2 => ?_)
     ·
      have h2 := iff_ltb.1 h2
      simp only [hol2] at h2
      exact hj1 _ ⟨rfl, rfl, rfl, rfl, rfl, .inr (.inl h2)⟩
     ·
      have h2 := niff_ltb.1 h2
      simp only [hol2] at h2
      refine Wp.brn (fun h3 => ?_) (fun h3 => ?_)
      ·
       have h3 := iff_ltb.1 h3
       simp only [c0] at h3
       exact hj1 _ ⟨rfl, rfl, rfl, rfl, rfl, .inr (.inr h3)⟩
      ·
       have h3 := niff_ltb.1 h3
       simp only [c0] at h3
       refine Wp.done ⟨out, rfl, hI.dig, hI.lead (by omega) (by omega) (by omega), ?_⟩
       have hsum := hI.sum
       have hz : over.nat = 0 := by unfold I.nat; omega
       rw [List.drop_of_length_le (l := a') (by omega), List.drop_of_length_le (l := b') (by omega), hz] at hsum
       simp only [bv, Nat.mul_zero, Nat.add_zero] at hsum
       rw [hsum, ha.val, hb.val]
  ·
   refine ⟨rfl, rfl, ?_⟩
   show AddInv a b (I.of .i64 0) (I.of .i64 0) []
   refine ⟨by decide, by decide, by decide, ?_, rfl, fun _ h => by simp at h, ?_, fun _ _ _ => trivial⟩
   ·
    left; show (I.of .i64 0).val ≤ _; omega
   ·
    show bv [] + 65536 ^ (I.of .i64 0).val.toNat * ((I.of .i64 0).nat + bv (a.drop (I.of .i64 0).val.toNat) + bv (b.drop (I.of .i64 0).val.toNat)) = _
    have e : (I.of .i64 0).val.toNat = 0 := rfl
    have e2 : (I.of .i64 0).nat = 0 := rfl
    rw [e, e2]
    simp [bv]
  ·
   exact b1D _ (by show ((max a.length b.length : Int) + 2 - (I.of .i64 0).val).toNat < _; omega)
 exact key.out
end Sym

/- Natural numbers by digits of 65536: differences, comparison. -/
namespace Sym
open Go
theorem b4R : ∀ (n : Nat), Digs (repL n (I.of .i64 0))
 | 0 => fun _ h => by simp [repL] at h
 | n + 1 => digs_cons.2 ⟨e6L, b4R n⟩
theorem a8T {X : Type} : ∀ (n : Nat) (x : X), (repL n x).length = n
 | 0, _ => rfl
 | n + 1, x => by simp [repL, a8T n x]
theorem b5U {X : Type} (l : List X) (i : Nat) (v : X) (h : i < l.length) : (l.set i v).take (i + 1) = l.take i ++ [v] := by
 have h2 : i < (l.set i v).length := by simpa using h
 rw [← List.take_append_getElem h2]
 simp [List.take_set_of_le]
theorem b1U {l : List Dg} (h : Digs l) (i : Nat) {d : Dg} (hd : DigOk d) : Digs (l.set i d) := by
 intro e he
 rcases List.mem_or_eq_of_mem_set he with h1 | h1
 ·
  exact h e h1
 ·
  subst h1; exact hd
structure SubInv (a b : List Dg) (under i : I .i64) (out : List Dg) : Prop where
 u0 : 0 ≤ under.val
 u1 : under.val ≤ 1
 i0 : 0 ≤ i.val
 i1 : i.val ≤ a.length
 len : out.length = a.length
 dig : Digs out
 sum : bv (out.take i.val.toNat) + bv (b.take i.val.toNat) = bv (a.take i.val.toNat) + 65536 ^ i.val.toNat * under.nat
theorem d5Q {a b : List Dg} {under i d un : I .i64} {out : List Dg} (ha : Digs a) (hb : Digs b) (hal : a.length ≤ 1000000) (h : SubInv a b under i out) (hc : i.val < a.length)
  (hd : DigOk d) (hu : un.val = 0 ∨ un.val = 1) (hs : d.val = (rd0 a i.val.toNat).val - under.val - (rd0 b i.val.toNat).val + 65536 * un.val) :
  SubInv a b un (I.add i (I.of .i64 1)) (setAt out (I.nat i) d) := by
 have c1 : (I.of .i64 1).val = 1 := rfl
 have da2 := (a9M ha i.val.toNat).nat
 have db2 := (a9M hb i.val.toNat).nat
 have hd2 := hd.nat
 have hu0 := h.u0
 have hu1 := h.u1
 have hi0 := h.i0
 have hi : (I.add i (I.of .i64 1)).val = i.val + 1 := by rw [a2X (by omega)]; omega
 have hin : (I.add i (I.of .i64 1)).val.toNat = i.val.toNat + 1 := by omega
 have hlen := h.len
 have hni : I.nat i = i.val.toNat := rfl
 rw [a2D, hni]
 refine ⟨by omega, by omega, by omega, by omega, by simpa using hlen, b1U h.dig _ hd, ?_⟩
 rw [hin, b5U _ _ _ (by omega), b6W, b7J a, b7J b]
 have el : (out.take i.val.toNat).length = i.val.toNat := by simp; omega
 rw [el, Nat.pow_succ]
 simp only [bv, Nat.mul_zero, Nat.add_zero]
 have hsum := h.sum
 have e : d.nat + (rd0 b i.val.toNat).nat + under.nat = (rd0 a i.val.toNat).nat + 65536 * un.nat := by
  unfold I.nat at *
  omega
 have e2 := congrArg (fun z => 65536 ^ i.val.toNat * z) e
 simp only [Nat.mul_add] at e2
 rw [← Nat.mul_assoc] at e2
 omega
theorem c1N {a b : List Dg} {m n : Nat} (ha : IsB a m) (hb : IsB b n) (hmn : n ≤ m) (hal : a.length ≤ 1000000) : ∃ r, a2S ((a, b, ()), ()) = some ((r, ()), ()) ∧ IsB r (m - n) := by
 have hbl : b.length ≤ a.length := hb.len.2 (Nat.lt_of_le_of_lt hmn (ha.len.1 (Nat.le_refl _)))
 have hol : (I.ofNat .i64 (lenL a)).val = a.length := a2M (by show a.length < _; omega)
 have hol2 : (I.ofNat .i64 (lenL b)).val = b.length := a2M (by show b.length < _; omega)
 have c0 : (I.of .i64 0).val = 0 := rfl
 have hn : I.nat (I.ofNat .i64 (lenL a)) = a.length := by unfold I.nat; omega
 have key : Wp (fun o => ∃ r, o = some ((r, ()), ()) ∧ IsB r (m - n)) (a2S ((a, b, ()), ())) := by
  unfold a2S
  refine Wp.brnT ?_ ?_
  ·
   show (decide (0 ≤ (I.ofNat .i64 (lenL a)).val) && decide ((I.ofNat .i64 (lenL a)).val ≤ ((I.nat (I.ofNat .i64 (lenL a)) : Nat) : Int))) = true
   rw [hn, hol]; simp
  refine Wp.brnT ?_ ?_
  ·
   show (decide (0 ≤ (I.ofNat .i64 (lenL a)).val) && decide ((I.ofNat .i64 (lenL a)).val ≤ ((1073741824 : Nat) : Int))) = true
   rw [hol]; simp; omega
  refine Wp.iter (fun x => x.1.1 = a ∧ x.1.2.1 = b ∧ SubInv a b x.1.2.2.1 x.1.2.2.2.1 x.2.1) (fun x => ((a.length : Int) - x.1.2.2.2.1.val).toNat) ?_ ?_ ?_
  ·
   rintro ⟨⟨a', b', under, i, ⟨⟩⟩, out, ⟨⟩⟩ ⟨e1, e2, hI⟩
   simp only at e1 e2 hI
   subst e1 e2
   have hi0 := hI.i0
   have hi1 := hI.i1
   have hu0 := hI.u0
   have hu1 := hI.u1
   refine Wp.brn (fun h => ?_) (fun h => ?_)
   ·
    have hlt := iff_ltb.1 h
    simp only [hol] at hlt
    clear h
    have ra := a9M ha.dig i.val.toNat
    have rb := a9M hb.dig i.val.toNat
    have ra' := ra
    have rb' := rb
    unfold DigOk at ra rb
    have c1 : (I.of .i64 1).val = 1 := rfl
    have hi : (I.add i (I.of .i64 1)).val = i.val + 1 := by rw [a2X (by omega)]; omega
    have hm : ((a'.length : Int) - (I.add i (I.of .i64 1)).val).toNat < ((a'.length : Int) - i.val).toNat := by omega
    have hlen := hI.len
    refine Wp.brnT (iff_inB.2 ⟨hi0, by show i.val < ((a'.length : Nat) : Int); omega⟩) ?_
    refine Wp.jn (fun x => x.1.1 = a' ∧ x.1.2.1 = b' ∧ x.1.2.2.1 = i ∧ x.1.2.2.2.1.val = (rd0 a' i.val.toNat).val - under.val - (rd0 b' i.val.toNat).val ∧ x.2.1 = out) ?_ ?_
    ·
     rintro ⟨⟨a1, b1, i1, x, ⟨⟩⟩, out1, ⟨⟩⟩ ⟨e1, e2, e3, e4, e5⟩
     simp only at e1 e2 e3 e4 e5
     subst e1 e2 e3 e5
     refine Wp.brn (fun h2 => ?_) (fun h2 => ?_)
     ·
      have h2 := iff_ltb.1 h2
      simp only [c0] at h2
      refine Wp.brnT (iff_inB.2 ⟨hi0, by show i1.val < ((out1.length : Nat) : Int); omega⟩) ?_
      have c6 : (I.of .i64 65536).val = 65536 := rfl
      have hx : (I.add x (I.of .i64 65536)).val = x.val + 65536 := by rw [a2X (by omega)]; omega
      have st := d5Q (un := I.of .i64 1) (d := I.add x (I.of .i64 65536)) ha.dig hb.dig hal hI hlt (by unfold DigOk; omega) (.inr rfl) (by omega)
      exact Wp.again ⟨rfl, rfl, st⟩ hm
     ·
      have h2 := niff_ltb.1 h2
      simp only [c0] at h2
      refine Wp.brnT (iff_inB.2 ⟨hi0, by show i1.val < ((out1.length : Nat) : Int); omega⟩) ?_
      have st := d5Q (un := I.of .i64 0) (d := x) ha.dig hb.dig hal hI hlt (by unfold DigOk; omega) (.inl rfl) (by omega)
      exact Wp.again ⟨rfl, rfl, st⟩ hm
    ·
     intro j hj
     have hs1 : (I.sub (rd0 a' i.val.toNat) under).val = (rd0 a' i.val.toNat).val - under.val := a8N (by omega)
     refine Wp.brn (fun h2 => ?_) (fun h2 => ?_)
     ·
      have h2 := iff_ltb.1 h2
      simp only [hol2] at h2
      refine Wp.brnT (iff_inB.2 ⟨hi0, by show i.val < ((b'.length : Nat) : Int); omega⟩) ?_
      refine hj _ ⟨rfl, rfl, rfl, ?_, rfl⟩
      show (I.sub (I.sub (rd0 a' i.val.toNat) under) (rd0 b' i.val.toNat)).val = _
      rw [a8N (by omega), hs1]
     ·
      have h2 := niff_ltb.1 h2
      simp only [hol2] at h2
      have hz := b7L (l := b') (i := i.val.toNat) (by omega)
      have hz2 : (rd0 b' i.val.toNat).val = 0 := by unfold I.nat at hz; omega
      refine hj _ ⟨rfl, rfl, rfl, ?_, rfl⟩
      show (I.sub (rd0 a' i.val.toNat) under).val = _
      omega
   ·
    have h := niff_ltb.1 h
    simp only [hol] at h
    have hlen := hI.len
    have hsum := hI.sum
    have hi : i.val.toNat = a'.length := by omega
    rw [hi, List.take_of_length_le (by omega), List.take_of_length_le hbl, List.take_length, ha.val, hb.val] at hsum
    have hlt := d7F hI.dig
    rw [hlen] at hlt
    have hz : under.nat = 0 := by
     unfold I.nat
     rcases Int.lt_or_le under.val 1 with h1 | h1
     ·
      omega
     ·
      exfalso
      have : under.nat = 1 := by unfold I.nat; omega
      rw [this] at hsum
      omega
    rw [hz, Nat.mul_zero, Nat.add_zero] at hsum
    have hbv : bv out = m - n := by omega
    have holen : (I.ofNat .i64 (lenL out)).val = out.length := a2M (by show out.length < _; omega)
    clear hsum h
    refine Wp.done ?_
    refine Wp.iter (fun x => x.2.1 = out ∧ 0 ≤ x.1.1.val ∧ x.1.1.val ≤ (out.length : Int) ∧ bv (out.take x.1.1.val.toNat) = bv out) (fun x => x.1.1.val.toNat) ?_ ?_ ?_
    ·
     rintro ⟨⟨j, r⟩, out', ⟨⟩⟩ ⟨e1, hj0, hj1, hb⟩
     simp only at e1 hj0 hj1 hb
     subst e1
     have c1 : (I.of .i64 1).val = 1 := rfl
     have cut : inB' j (lenL out') = true := by
      show (decide (0 ≤ j.val) && decide (j.val ≤ ((out'.length : Nat) : Int))) = true
      simp [hj0, hj1]
     have sub : subL out' 0 (I.nat j) = out'.take j.val.toNat := by simp [subL, I.nat]
     refine Wp.brn (fun h => ?_) (fun h => ?_)
     ·
      have h := iff_ltb.1 h
      have h : (I.of .i64 0).val < j.val := h
      have hs : (I.sub j (I.of .i64 1)).val = j.val - 1 := by rw [a8N (by omega)]; omega
      have hidx : (I.nat (I.sub j (I.of .i64 1))) = j.val.toNat - 1 := by unfold I.nat; omega
      have hlt : j.val.toNat - 1 < out'.length := by omega
      have hrd : rdL (I.of .i64 0) out' (I.nat (I.sub j (I.of .i64 1))) = out'[j.val.toNat - 1] := by rw [hidx]; exact a4G _ _ _ hlt
      have htk : out'.take j.val.toNat = out'.take (j.val.toNat - 1) ++ [out'[j.val.toNat - 1]] := by
       rw [List.take_append_getElem hlt]
       congr 1
       omega
      refine Wp.brnT (iff_inB.2 ⟨by show 0 ≤ (I.sub j (I.of .i64 1)).val; omega, by show (I.sub j (I.of .i64 1)).val < (out'.length : Int); omega⟩) ?_
      refine Wp.brn (fun h2 => ?_) (fun h2 => ?_)
      ·
       have h2 := iff_eqb.1 h2
       have h2 : (rdL (I.of .i64 0) out' (I.nat (I.sub j (I.of .i64 1)))).val = (I.of .i64 0).val := h2
       rw [hrd] at h2
       refine Wp.again ⟨rfl, ?_, ?_, ?_⟩ ?_
       ·
        show 0 ≤ (I.sub j (I.of .i64 1)).val; omega
       ·
        show (I.sub j (I.of .i64 1)).val ≤ _; omega
       ·
        show bv (out'.take (I.sub j (I.of .i64 1)).val.toNat) = _
        have e : (I.sub j (I.of .i64 1)).val.toNat = j.val.toNat - 1 := by omega
        rw [e, ← hb, htk, b6W]
        have hz : (out'[j.val.toNat - 1]).nat = 0 := by unfold I.nat; rw [h2]; rfl
        simp [bv, hz]
       ·
        show (I.sub j (I.of .i64 1)).val.toNat < j.val.toNat
        omega
      ·
       have h2 := niff_eqb.1 h2
       have h2 : (rdL (I.of .i64 0) out' (I.nat (I.sub j (I.of .i64 1)))).val ≠ (I.of .i64 0).val := h2
       rw [hrd] at h2
       refine Wp.done (Wp.brnT cut ⟨_, rfl, ?_⟩)
       show IsB (subL out' 0 (I.nat j)) _
       rw [sub]
       refine ⟨b6T hI.dig _, ?_, hb.trans hbv⟩
       rw [htk]
       exact b6X _ _ h2
     ·
      have h := niff_ltb.1 h
      have h : j.val ≤ (I.of .i64 0).val := h
      refine Wp.done (Wp.brnT cut ⟨_, rfl, ?_⟩)
      show IsB (subL out' 0 (I.nat j)) _
      rw [sub]
      have e : j.val.toNat = 0 := by omega
      rw [e] at hb ⊢
      simp only [List.take_zero] at hb ⊢
      rw [← hbv, ← hb]
      exact c5F
    ·
     refine ⟨rfl, ?_, ?_, ?_⟩
     ·
      show 0 ≤ (I.ofNat .i64 (lenL out)).val; omega
     ·
      show (I.ofNat .i64 (lenL out)).val ≤ _; omega
     ·
      show bv (out.take (I.ofNat .i64 (lenL out)).val.toNat) = _
      rw [holen, Int.toNat_natCast, List.take_length]
    ·
     refine b1D _ ?_
     show (I.ofNat .i64 (lenL out)).val.toNat < _
     omega
  ·
   refine ⟨rfl, rfl, ?_⟩
   show SubInv a b (I.of .i64 0) (I.of .i64 0) (repL (I.nat (I.ofNat .i64 (lenL a))) (I.of .i64 0))
   rw [hn]
   have e : (I.of .i64 0).val.toNat = 0 := rfl
   refine ⟨by decide, by decide, by decide, by omega, a8T _ _, b4R _, ?_⟩
   rw [e]
   rfl
  ·
   exact b1D _ (by show ((a.length : Int) - (I.of .i64 0).val).toNat < _; omega)
 exact key.out
def cmpN (m n : Nat) : I .i64 := if m < n then I.of .i64 (-1) else if n < m then I.of .i64 1 else I.of .i64 0
theorem e5U {a b : List Dg} (ha : Digs a) (hb : Digs b) (i : Nat) (hd : bv (a.drop (i + 1)) = bv (b.drop (i + 1))) (hlt : (rd0 a i).nat < (rd0 b i).nat) (hia : i ≤ a.length) (hib : i ≤ b.length) : bv a < bv b := by
 have e1 : bv a = bv (a.take i) + 65536 ^ i * bv (a.drop i) := by
  have := b6W (a.take i) (a.drop i)
  rw [List.take_append_drop] at this
  rw [this]; simp [Nat.min_eq_left hia]
 have e2 : bv b = bv (b.take i) + 65536 ^ i * bv (b.drop i) := by
  have := b6W (b.take i) (b.drop i)
  rw [List.take_append_drop] at this
  rw [this]; simp [Nat.min_eq_left hib]
 have h1 := d7F (b6T ha i)
 rw [List.length_take, Nat.min_eq_left hia] at h1
 have h2 : bv (a.drop i) + 1 ≤ bv (b.drop i) := by rw [b3F a, b3F b]; omega
 have h3 := Nat.mul_le_mul_left (65536 ^ i) h2
 rw [Nat.mul_add] at h3
 omega
theorem c6J {a b : List Dg} {m n : Nat} (ha : IsB a m) (hb : IsB b n) (hal : a.length ≤ 1000000) (hbl : b.length ≤ 1000000) : a3G ((a, b, ()), ()) = some ((cmpN m n, ()), ()) := by
 have hol : (I.ofNat .i64 (lenL a)).val = a.length := a2M (by show a.length < _; omega)
 have hol2 : (I.ofNat .i64 (lenL b)).val = b.length := a2M (by show b.length < _; omega)
 have c0 : (I.of .i64 0).val = 0 := rfl
 have c1 : (I.of .i64 1).val = 1 := rfl
 have key : Wp (fun o => o = some ((cmpN m n, ()), ())) (a3G ((a, b, ()), ())) := by
  unfold a3G
  refine Wp.brn (fun h => ?_) (fun h => ?_)
  ·
   have h := iff_neb.1 h
   simp only [hol, hol2] at h
   refine Wp.brn (fun h2 => ?_) (fun h2 => ?_)
   ·
    have h2 := iff_ltb.1 h2
    simp only [hol, hol2] at h2
    have h3 : m < n := by
     rcases Nat.lt_or_ge m n with h3 | h3
     ·
      exact h3
     ·
      have := hb.len.2 (Nat.lt_of_le_of_lt h3 (ha.len.1 (Nat.le_refl _)))
      omega
    show _ = _
    unfold cmpN
    rw [if_pos h3]
    rfl
   ·
    have h2 := niff_ltb.1 h2
    simp only [hol, hol2] at h2
    have h3 : n < m := by
     rcases Nat.lt_or_ge n m with h3 | h3
     ·
      exact h3
     ·
      have := ha.len.2 (Nat.lt_of_le_of_lt h3 (hb.len.1 (Nat.le_refl _)))
      omega
    show _ = _
    unfold cmpN
    rw [if_neg (by omega), if_pos h3]
    rfl
  ·
   have h := niff_neb.1 h
   simp only [hol, hol2] at h
   have hs : (I.sub (I.ofNat .i64 (lenL a)) (I.of .i64 1)).val = a.length - 1 := by rw [a8N (by omega)]; omega
   refine Wp.iter (fun x => x.1.1 = a ∧ x.1.2.1 = b ∧ -1 ≤ x.1.2.2.1.val ∧ x.1.2.2.1.val < (a.length : Int) ∧ bv (a.drop (x.1.2.2.1.val + 1).toNat) = bv (b.drop (x.1.2.2.1.val + 1).toNat)) (fun x => (x.1.2.2.1.val + 1).toNat) ?_ ?_ ?_
   ·
    rintro ⟨⟨a', b', i, ⟨⟩⟩, ⟨⟩⟩ ⟨e1, e2, hi0, hi1, hd⟩
    simp only at e1 e2 hi0 hi1 hd
    subst e1 e2
    refine Wp.brn (fun h2 => ?_) (fun h2 => ?_)
    ·
     have h2 := iff_leb.1 h2
     simp only [c0] at h2
     have ha1 : inB i (lenL a') = true := iff_inB.2 ⟨h2, by show i.val < ((a'.length : Nat) : Int); omega⟩
     have hb1 : inB i (lenL b') = true := iff_inB.2 ⟨h2, by show i.val < ((b'.length : Nat) : Int); omega⟩
     have en : (i.val + 1).toNat = i.val.toNat + 1 := by omega
     rw [en] at hd
     have na := (a9M ha.dig i.val.toNat).nat
     have nb := (a9M hb.dig i.val.toNat).nat
     refine Wp.brnT ha1 (Wp.brnT hb1 ?_)
     refine Wp.brn (fun h3 => ?_) (fun h3 => ?_)
     ·
      have h3 := iff_ltb.1 h3
      have h3 : (rd0 a' i.val.toNat).val < (rd0 b' i.val.toNat).val := h3
      have := e5U ha.dig hb.dig i.val.toNat hd (by omega) (by omega) (by omega)
      rw [ha.val, hb.val] at this
      refine Wp.done ?_
      show _ = _
      unfold cmpN
      rw [if_pos this]
      rfl
     ·
      have h3 := niff_ltb.1 h3
      have h3 : (rd0 b' i.val.toNat).val ≤ (rd0 a' i.val.toNat).val := h3
      refine Wp.brnT ha1 (Wp.brnT hb1 ?_)
      refine Wp.brn (fun h4 => ?_) (fun h4 => ?_)
      ·
       have h4 := iff_ltb.1 h4
       have h4 : (rd0 b' i.val.toNat).val < (rd0 a' i.val.toNat).val := h4
       have := e5U hb.dig ha.dig i.val.toNat hd.symm (by omega) (by omega) (by omega)
       rw [ha.val, hb.val] at this
       refine Wp.done ?_
       show _ = _
       unfold cmpN
       rw [if_neg (by omega), if_pos this]
       rfl
      ·
       have h4 := niff_ltb.1 h4
       have h4 : (rd0 a' i.val.toNat).val ≤ (rd0 b' i.val.toNat).val := h4
       have hsi : (I.sub i (I.of .i64 1)).val = i.val - 1 := by rw [a8N (by omega)]; omega
       refine Wp.again ⟨rfl, rfl, ?_, ?_, ?_⟩ ?_
       ·
        show -1 ≤ (I.sub i (I.of .i64 1)).val; omega
       ·
        show (I.sub i (I.of .i64 1)).val < _; omega
       ·
        show bv (a'.drop ((I.sub i (I.of .i64 1)).val + 1).toNat) = bv (b'.drop ((I.sub i (I.of .i64 1)).val + 1).toNat)
        have e : ((I.sub i (I.of .i64 1)).val + 1).toNat = i.val.toNat := by omega
        rw [e, b3F a', b3F b', hd]
        omega
       ·
        show ((I.sub i (I.of .i64 1)).val + 1).toNat < _
        simp only; omega
    ·
     have h2 := niff_leb.1 h2
     simp only [c0] at h2
     have e : (i.val + 1).toNat = 0 := by omega
     rw [e] at hd
     simp only [List.drop_zero] at hd
     rw [ha.val, hb.val] at hd
     refine Wp.done ?_
     show _ = _
     unfold cmpN
     rw [if_neg (by omega), if_neg (by omega)]
     rfl
   ·
    refine ⟨rfl, rfl, ?_, ?_, ?_⟩
    ·
     show -1 ≤ (I.sub (I.ofNat .i64 (lenL a)) (I.of .i64 1)).val; omega
    ·
     show (I.sub (I.ofNat .i64 (lenL a)) (I.of .i64 1)).val < _; omega
    ·
     show bv (a.drop ((I.sub (I.ofNat .i64 (lenL a)) (I.of .i64 1)).val + 1).toNat) = bv (b.drop ((I.sub (I.ofNat .i64 (lenL a)) (I.of .i64 1)).val + 1).toNat)
     have e : ((I.sub (I.ofNat .i64 (lenL a)) (I.of .i64 1)).val + 1).toNat = a.length := by omega
     rw [e, List.drop_of_length_le (Nat.le_refl _), List.drop_of_length_le (by omega)]
   ·
    exact b1D _ (by show ((I.sub (I.ofNat .i64 (lenL a)) (I.of .i64 1)).val + 1).toNat < _; omega)
 exact key.out
end Sym

/- Limbs of 256 bits; products of 64 bits. -/
namespace Sym
open Go
abbrev W64 : Nat := 18446744073709551616
def limb' (a : U) (i : Nat) : Nat := (Arr.sel (I.of .u64 0) 4 a i).nat
theorem c5A (a : U) (i : Nat) : limb' a i < W64 := a1J _
theorem b9V (a : U) (i : Nat) (h : i < 4) : a.val % W64 ^ (i + 1) = a.val % W64 ^ i + W64 ^ i * limb' a i := by
 obtain ⟨a0, a1, a2, a3, ⟨⟩⟩ := a
 have n0 := a1J a0
 have n1 := a1J a1
 have n2 := a1J a2
 have n3 := a1J a3
 have p0 : W64 ^ 0 = 1 := by decide
 have p1 : W64 ^ 1 = 18446744073709551616 := by decide
 have p2 : W64 ^ 2 = 340282366920938463463374607431768211456 := by decide
 have p3 : W64 ^ 3 = 6277101735386680763835789423207666416102355444464034512896 := by decide
 have p4 : W64 ^ 4 = 115792089237316195423570985008687907853269984665640564039457584007913129639936 := by decide
 have hc : i = 0 ∨ i = 1 ∨ i = 2 ∨ i = 3 := by omega
 rcases hc with rfl | rfl | rfl | rfl
 ·
  show U.val _ % W64 ^ 1 = U.val _ % W64 ^ 0 + W64 ^ 0 * a0.nat
  rw [p0, p1]; unfold U.val; simp only; omega
 ·
  show U.val _ % W64 ^ 2 = U.val _ % W64 ^ 1 + W64 ^ 1 * a1.nat
  rw [p1, p2]; unfold U.val; simp only; omega
 ·
  show U.val _ % W64 ^ 3 = U.val _ % W64 ^ 2 + W64 ^ 2 * a2.nat
  rw [p2, p3]; unfold U.val; simp only; omega
 ·
  show U.val _ % W64 ^ 4 = U.val _ % W64 ^ 3 + W64 ^ 3 * a3.nat
  rw [p3, p4]; unfold U.val; simp only; omega
theorem e1F (a : U) (i : Nat) (z : I .u64) (h : i < 4) : U.val (Arr.upd 4 a i z) + W64 ^ i * limb' a i = a.val + W64 ^ i * z.nat := by
 obtain ⟨a0, a1, a2, a3, ⟨⟩⟩ := a
 have p0 : W64 ^ 0 = 1 := by decide
 have p1 : W64 ^ 1 = 18446744073709551616 := by decide
 have p2 : W64 ^ 2 = 340282366920938463463374607431768211456 := by decide
 have p3 : W64 ^ 3 = 6277101735386680763835789423207666416102355444464034512896 := by decide
 have hc : i = 0 ∨ i = 1 ∨ i = 2 ∨ i = 3 := by omega
 rcases hc with rfl | rfl | rfl | rfl
 ·
  show U.val (z, a1, a2, a3, ()) + W64 ^ 0 * a0.nat = U.val (a0, a1, a2, a3, ()) + W64 ^ 0 * z.nat
  rw [p0]; unfold U.val; simp only; omega
 ·
  show U.val (a0, z, a2, a3, ()) + W64 ^ 1 * a1.nat = U.val (a0, a1, a2, a3, ()) + W64 ^ 1 * z.nat
  rw [p1]; unfold U.val; simp only; omega
 ·
  show U.val (a0, a1, z, a3, ()) + W64 ^ 2 * a2.nat = U.val (a0, a1, a2, a3, ()) + W64 ^ 2 * z.nat
  rw [p2]; unfold U.val; simp only; omega
 ·
  show U.val (a0, a1, a2, z, ()) + W64 ^ 3 * a3.nat = U.val (a0, a1, a2, a3, ()) + W64 ^ 3 * z.nat
  rw [p3]; unfold U.val; simp only; omega
theorem d2B (x : I .u64) (n : Nat) (m : I .u64) (hn : n < 64) (hm : m.val = ((2 ^ n - 1 : Nat) : Int)) : (I.and x m).nat = x.nat % 2 ^ n := by
 have hx := a2U x
 have h1 : (BitVec.ofInt 64 x.val).toNat = x.nat := by rw [BitVec.toNat_ofInt]; unfold I.nat; omega
 have hp : 2 ^ n ≤ 2 ^ 63 := Nat.pow_le_pow_right (by decide) (by omega)
 have h2 : (BitVec.ofInt 64 m.val).toNat = 2 ^ n - 1 := by rw [BitVec.toNat_ofInt, hm]; omega
 have h3 : (BitVec.ofInt IntKind.u64.bits x.val &&& BitVec.ofInt IntKind.u64.bits m.val).toNat = x.nat % 2 ^ n := by
  show (BitVec.ofInt 64 x.val &&& BitVec.ofInt 64 m.val).toNat = _
  rw [BitVec.toNat_and, h1, h2, Nat.and_two_pow_sub_one_eq_mod]
 unfold I.and
 rw [h3]
 have h4 : x.nat % 2 ^ n < 2 ^ n := Nat.mod_lt _ (Nat.pow_pos (by decide))
 exact b6A (by omega)
theorem d3K (x s : I .u64) (hs : s.nat < 64) : (I.shr x s).nat = x.nat / 2 ^ s.nat := by
 have h0 := a2U s
 have hx := a2U x
 have h := e2F x s (by unfold I.nat at hs; omega)
 have e : s.val.toNat = s.nat := rfl
 rw [e] at h
 have h1 : ((x.nat / 2 ^ s.nat : Nat) : Int) = x.val / (2 : Int) ^ s.nat := by
  rw [Int.natCast_ediv, a0Z]
  simp
 have := a0Z (I.shr x s)
 omega
theorem e9T (a b : I .u64) : (I.mul a b).nat = a.nat * b.nat % W64 := by
 have h1 := a0Z a
 have h2 := a0Z b
 unfold I.mul
 have : a.val * b.val = ((a.nat * b.nat : Nat) : Int) := by rw [← h1, ← h2, Int.natCast_mul]
 rw [this]
 show (IntKind.u64.wrap _).toNat = _ % 18446744073709551616
 rw [wrap_u64]
 omega
theorem c0G (a b : I .u64) : (I.add a b).nat = (a.nat + b.nat) % W64 := by
 have h1 := a0Z a
 have h2 := a0Z b
 show (IntKind.u64.wrap (a.val + b.val)).toNat = _ % 18446744073709551616
 rw [wrap_u64]
 omega
theorem d4J (a b : I .u64) : ∃ hi lo : I .u64, a6M ((a, b, ()), ()) = some ((hi, lo, ()), ()) ∧ lo.nat + W64 * hi.nat = a.nat * b.nat := by
 refine ⟨_, _, rfl, ?_⟩
 show (I.mul a b).nat + W64 * (I.add (I.add (I.mul (I.shr a (I.of .u64 32)) (I.shr b (I.of .u64 32))) (I.shr (I.add (I.mul (I.shr a (I.of .u64 32)) (I.and b (I.of .u64 4294967295))) (I.shr (I.mul (I.and a (I.of .u64 4294967295)) (I.and b (I.of .u64 4294967295))) (I.of .u64 32))) (I.of .u64 32)))
  (I.shr (I.add (I.and (I.add (I.mul (I.shr a (I.of .u64 32)) (I.and b (I.of .u64 4294967295))) (I.shr (I.mul (I.and a (I.of .u64 4294967295)) (I.and b (I.of .u64 4294967295))) (I.of .u64 32))) (I.of .u64 4294967295)) (I.mul (I.and a (I.of .u64 4294967295)) (I.shr b (I.of .u64 32)))) (I.of .u64 32))).nat = _
 have c32 : (I.of .u64 32).nat = 32 := rfl
 have p32 : 2 ^ 32 = 4294967296 := by decide
 have sh : ∀ x : I .u64, (I.shr x (I.of .u64 32)).nat = x.nat / 4294967296 := fun x => by rw [d3K _ _ (by decide), c32, p32]
 have an : ∀ x : I .u64, (I.and x (I.of .u64 4294967295)).nat = x.nat % 4294967296 := fun x => by rw [d2B x 32 _ (by decide) (by decide), p32]
 simp only [e9T, c0G, sh, an]
 have ha := a1J a
 have hb := a1J b
 have ea : a.nat = 4294967296 * (a.nat / 4294967296) + a.nat % 4294967296 := by omega
 have eb : b.nat = 4294967296 * (b.nat / 4294967296) + b.nat % 4294967296 := by omega
 generalize hA1 : a.nat / 4294967296 = a1 at *
 generalize hA0 : a.nat % 4294967296 = a0 at *
 generalize hB1 : b.nat / 4294967296 = b1 at *
 generalize hB0 : b.nat % 4294967296 = b0 at *
 have la1 : a1 ≤ 4294967295 := by omega
 have la0 : a0 ≤ 4294967295 := by omega
 have lb1 : b1 ≤ 4294967295 := by omega
 have lb0 : b0 ≤ 4294967295 := by omega
 have m11 : a1 * b1 ≤ 4294967295 * 4294967295 := Nat.mul_le_mul la1 lb1
 have m10 : a1 * b0 ≤ 4294967295 * 4294967295 := Nat.mul_le_mul la1 lb0
 have m01 : a0 * b1 ≤ 4294967295 * 4294967295 := Nat.mul_le_mul la0 lb1
 have m00 : a0 * b0 ≤ 4294967295 * 4294967295 := Nat.mul_le_mul la0 lb0
 have prod : a.nat * b.nat = 18446744073709551616 * (a1 * b1) + 4294967296 * (a1 * b0) + 4294967296 * (a0 * b1) + a0 * b0 := by
  rw [ea, eb, Nat.add_mul, Nat.mul_add, Nat.mul_add]
  have e1 : 4294967296 * a1 * (4294967296 * b1) = 18446744073709551616 * (a1 * b1) := by
   rw [Nat.mul_mul_mul_comm]
  have e2 : 4294967296 * a1 * b0 = 4294967296 * (a1 * b0) := Nat.mul_assoc _ _ _
  have e3 : a0 * (4294967296 * b1) = 4294967296 * (a0 * b1) := Nat.mul_left_comm _ _ _
  rw [e1, e2, e3]
  omega
 rw [prod]
 generalize a1 * b1 = p11 at *
 generalize a1 * b0 = p10 at *
 generalize a0 * b1 = p01 at *
 generalize a0 * b0 = p00 at *
 clear ea eb prod ha hb hA1 hA0 hB1 hB0
 unfold W64
 omega
end Sym

/- Products of 256 bits. -/
namespace Sym
open Go
theorem d8Z (x y : I .u64) : I.neb (I.or x y) (I.of .u64 0) = false ↔ x.nat = 0 ∧ y.nat = 0 := by
 rw [niff_neb]
 have c0 : (I.of .u64 0).val = 0 := rfl
 have h1 : (BitVec.ofInt 64 x.val).toNat = x.nat := by have := a2U x; rw [BitVec.toNat_ofInt]; unfold I.nat; omega
 have h2 : (BitVec.ofInt 64 y.val).toNat = y.nat := by have := a2U y; rw [BitVec.toNat_ofInt]; unfold I.nat; omega
 have h3 : (BitVec.ofInt IntKind.u64.bits x.val ||| BitVec.ofInt IntKind.u64.bits y.val).toNat = x.nat ||| y.nat := by
  show (BitVec.ofInt 64 x.val ||| BitVec.ofInt 64 y.val).toNat = _
  rw [BitVec.toNat_or, h1, h2]
 have hlt : x.nat ||| y.nat < 2 ^ 64 := Nat.or_lt_two_pow (a1J x) (a1J y)
 have h4 : (I.or x y).val = ((x.nat ||| y.nat : Nat) : Int) := by
  unfold I.or
  rw [h3]
  exact b2F ⟨by omega, by omega⟩
 rw [h4, c0]
 constructor
 ·
  intro h
  have : x.nat ||| y.nat = 0 := by omega
  exact Nat.or_eq_zero_iff.1 this
 ·
  rintro ⟨h5, h6⟩
  rw [h5, h6]; rfl
theorem e1V (a : U) (i : Nat) (h : i < 4) : W64 ^ i * limb' a i ≤ a.val := by
 have h1 := b9V a i h
 have h2 := Nat.mod_le a.val (W64 ^ (i + 1))
 rw [h1] at h2
 exact Nat.le_trans (Nat.le_add_left _ _) h2
theorem d9K {a b : U} {i k : Nat} (hi : i < 4) (hk : k < 4) (h : 3 < i + k) (hp : limb' a i * limb' b k ≠ 0) : U.top ≤ a.val * b.val := by
 have h1 := Nat.mul_le_mul (e1V a i hi) (e1V b k hk)
 rw [Nat.mul_mul_mul_comm, ← Nat.pow_add] at h1
 have h2 : U.top = W64 ^ 4 := by decide
 have h3 : W64 ^ 4 ≤ W64 ^ (i + k) := Nat.pow_le_pow_right (by decide) (by omega)
 have h4 : W64 ^ (i + k) * 1 ≤ W64 ^ (i + k) * (limb' a i * limb' b k) := Nat.mul_le_mul_left _ (by omega)
 omega
theorem d7A (a b : U) (n : Nat) : (a.val % n) * b.val ≤ a.val * b.val := Nat.mul_le_mul_right _ (Nat.mod_le _ _)
theorem e4N : W64 ^ 4 = U.top := by decide
theorem d1J {P c L B M i k hi lo z1 q1 z2 q2 p c' P' bk : Nat} (inv : P + c * W64 ^ (i + k) = M + L * W64 ^ i * B) (h1 : lo + W64 * hi = L * bk) (h2 : z1 + W64 * q1 = lo + c) (h3 : z2 + W64 * q2 = p + z1)
  (hc : c' = hi + q1 + q2) (hP : P' + W64 ^ (i + k) * p = P + W64 ^ (i + k) * z2) : P' + c' * W64 ^ (i + k + 1) = M + L * W64 ^ i * (B + W64 ^ k * bk) := by
 have e1 : L * W64 ^ i * (B + W64 ^ k * bk) = L * W64 ^ i * B + W64 ^ (i + k) * (L * bk) := by
  rw [Nat.mul_add, Nat.pow_add]
  congr 1
  simp only [Nat.mul_comm, Nat.mul_left_comm, Nat.mul_assoc]
 have e2 : c' * W64 ^ (i + k + 1) = W64 ^ (i + k) * (W64 * c') := by
  rw [Nat.pow_succ]
  simp only [Nat.mul_comm, Nat.mul_left_comm, Nat.mul_assoc]
 have e3 : W64 * c' = L * bk + c + p - z2 ∧ z2 ≤ L * bk + c + p := by
  subst hc
  unfold W64 at *
  omega
 have e4 : W64 * c' + z2 = L * bk + c + p := by omega
 have e5 := congrArg (fun t => W64 ^ (i + k) * t) e4
 simp only [Nat.mul_add] at e5
 have e6 : c * W64 ^ (i + k) = W64 ^ (i + k) * c := Nat.mul_comm _ _
 rw [e1, e2]
 omega
theorem e6B (a b : U) : a7E ((a, b, ()), ()) = some (((errS (a.val * b.val)).1, (errS (a.val * b.val)).2, ()), ()) := by
 have c0 : (I.of .i64 0).val = 0 := rfl
 have c1 : (I.of .i64 1).val = 1 := rfl
 have c3 : (I.of .i64 3).val = 3 := rfl
 have c4 : (I.of .i64 4).val = 4 := rfl
 have over : U.top ≤ a.val * b.val → some (((I.of .u64 0, I.of .u64 0, I.of .u64 0, I.of .u64 0, ()), I.of .i64 4, ()), ()) = some (((errS (a.val * b.val)).1, (errS (a.val * b.val)).2, ()), ()) := by
  intro h
  rw [show errS (a.val * b.val) = (U.of 0, I.of .i64 4) from if_neg (by omega)]
  rfl
 have key : Wp (fun o => o = some (((errS (a.val * b.val)).1, (errS (a.val * b.val)).2, ()), ())) (a7E ((a, b, ()), ())) := by
  unfold a7E
  refine Wp.iter (fun x => 0 ≤ x.1.1.val ∧ x.1.1.val ≤ 4 ∧ x.2.1 = a ∧ x.2.2.1 = b ∧ U.val x.2.2.2.2.1 = (a.val % W64 ^ x.1.1.val.toNat) * b.val) (fun x => (4 - x.1.1.val).toNat) ?_ ?_ ?_
  ·
   rintro ⟨⟨i, ⟨⟩⟩, a', b', r0, p0, ⟨⟩⟩ ⟨hi0, hi1, e1, e2, hp⟩
   simp only at hi0 hi1 e1 e2 hp
   subst e1 e2
   refine Wp.brn (fun h => ?_) (fun h => ?_)
   ·
    have hlt := iff_ltb.1 h
    simp only [c4] at hlt
    clear h
    have si : (I.add i (I.of .i64 1)).val = i.val + 1 := by rw [a2X (by omega)]; omega
    have sin : (I.add i (I.of .i64 1)).val.toNat = i.val.toNat + 1 := by omega
    have ini : inB i 4 = true := iff_inB.2 ⟨hi0, by omega⟩
    refine Wp.iter (fun x => x.1.1 = i ∧ x.1.2.2.1 = i ∧ 0 ≤ x.1.2.2.2.1.val ∧ x.1.2.2.2.1.val ≤ 4 ∧ x.2.1 = a' ∧ x.2.2.1 = b' ∧
     U.val x.2.2.2.2.1 + I.nat (k := .u64) x.1.2.1 * W64 ^ (min (i.val.toNat + x.1.2.2.2.1.val.toNat) 4) = (U.val a' % W64 ^ i.val.toNat) * U.val b' + limb' a' i.val.toNat * W64 ^ i.val.toNat * (U.val b' % W64 ^ x.1.2.2.2.1.val.toNat)) (fun x => (4 - x.1.2.2.2.1.val).toNat) ?_ ?_ ?_
    ·
     rintro ⟨⟨i2, c, i1, k, ⟨⟩⟩, a1, b1, r1, p, ⟨⟩⟩ ⟨e1, e2, hk0, hk1, e3, e4, hinv⟩
     simp only at e1 e2 hk0 hk1 e3 e4 hinv
     subst e1 e2 e3 e4
     refine Wp.brn (fun h => ?_) (fun h => ?_)
     ·
      have hkl := iff_ltb.1 h
      simp only [c4] at hkl
      clear h
      have sk : (I.add k (I.of .i64 1)).val = k.val + 1 := by rw [a2X (by omega)]; omega
      have skn : (I.add k (I.of .i64 1)).val.toNat = k.val.toNat + 1 := by omega
      have sik : (I.add i1 k).val = i1.val + k.val := a2X (by omega)
      have hm : (4 - (I.add k (I.of .i64 1)).val).toNat < (4 - k.val).toNat := by omega
      have bmod := b9V b1 k.val.toNat (by omega)
      refine Wp.brnT ini (Wp.brnT (iff_inB.2 ⟨hk0, by show k.val < ((4 : Nat) : Int); omega⟩) ?_)
      obtain ⟨hi, lo, hmul, hprod⟩ := d4J (Arr.sel (I.of .u64 0) 4 a1 (I.nat i1)) (Arr.sel (I.of .u64 0) 4 b1 (I.nat k))
      have hprod : lo.nat + W64 * hi.nat = limb' a1 i1.val.toNat * limb' b1 k.val.toNat := hprod
      refine Wp.optF hmul ?_
      refine Wp.brn (fun h => ?_) (fun h => ?_)
      ·
       have h := iff_ltb.1 h
       have h : (I.of .i64 3).val < (I.add i1 k).val := h
       refine Wp.brn (fun h2 => ?_) (fun h2 => ?_)
       ·
        refine Wp.done (Wp.done (over ?_))
        refine d9K (i := i1.val.toNat) (k := k.val.toNat) (by omega) (by omega) (by omega) ?_
        intro hz
        have h3 : hi.nat = 0 ∧ lo.nat = 0 := by rw [hz] at hprod; unfold W64 at hprod; omega
        have := (d8Z hi lo).2 h3
        exact absurd (h2.symm.trans this) (by decide)
       ·
        have h3 := (d8Z hi lo).1 h2
        have hz : limb' a1 i1.val.toNat * limb' b1 k.val.toNat = 0 := by rw [← hprod, h3.1, h3.2, Nat.mul_zero]
        refine Wp.again ⟨rfl, rfl, ?_, ?_, rfl, rfl, ?_⟩ hm
        ·
         show 0 ≤ (I.add k (I.of .i64 1)).val; omega
        ·
         show (I.add k (I.of .i64 1)).val ≤ 4; omega
        ·
         show U.val p + c.nat * W64 ^ (min (i1.val.toNat + (I.add k (I.of .i64 1)).val.toNat) 4) = _ + _ * (U.val b1 % W64 ^ (I.add k (I.of .i64 1)).val.toNat)
         rw [skn, bmod, Nat.mul_add]
         have e1 : limb' a1 i1.val.toNat * W64 ^ i1.val.toNat * (W64 ^ k.val.toNat * limb' b1 k.val.toNat) = 0 := by
          have : limb' a1 i1.val.toNat * W64 ^ i1.val.toNat * (W64 ^ k.val.toNat * limb' b1 k.val.toNat) = W64 ^ i1.val.toNat * W64 ^ k.val.toNat * (limb' a1 i1.val.toNat * limb' b1 k.val.toNat) := by simp only [Nat.mul_comm, Nat.mul_left_comm, Nat.mul_assoc]
          rw [this, hz, Nat.mul_zero]
         rw [Nat.min_eq_right (by omega)] at hinv
         rw [e1, Nat.min_eq_right (by omega)]
         exact hinv
      ·
       have h := niff_ltb.1 h
       have h : (I.add i1 k).val ≤ (I.of .i64 3).val := h
       have inik : inB (I.add i1 k) 4 = true := iff_inB.2 ⟨by omega, by omega⟩
       obtain ⟨z1, q1, ha1, hs1, hq1⟩ := a9W lo c (I.of .u64 0) (by decide)
       refine Wp.optF ha1 ?_
       refine Wp.brnT inik ?_
       obtain ⟨z2, q2, ha2, hs2, hq2⟩ := a9W (Arr.sel (I.of .u64 0) 4 p (I.nat (I.add i1 k))) z1 (I.of .u64 0) (by decide)
       refine Wp.optF ha2 ?_
       refine Wp.brnT inik ?_
       have z0 : (I.of .u64 0).nat = 0 := rfl
       have en : I.nat (I.add i1 k) = i1.val.toNat + k.val.toNat := by unfold I.nat; omega
       have hup := e1F p (i1.val.toNat + k.val.toNat) z2 (by omega)
       have hs2' : z2.nat + W64 * q2.nat = limb' p (i1.val.toNat + k.val.toNat) + z1.nat := by
        have : (Arr.sel (I.of .u64 0) 4 p (I.nat (I.add i1 k))).nat = limb' p (i1.val.toNat + k.val.toNat) := by rw [en]; rfl
        unfold W64
        omega
       have hcv : (I.add (I.add hi q1) q2).nat = hi.nat + q1.nat + q2.nat := by
        have l1 := c5A a1 i1.val.toNat
        have l2 := c5A b1 k.val.toNat
        have l3 := c5A p (i1.val.toNat + k.val.toNat)
        have l4 := a1J c
        have l5 : limb' a1 i1.val.toNat * limb' b1 k.val.toNat ≤ (W64 - 1) * (W64 - 1) := Nat.mul_le_mul (by omega) (by omega)
        rw [c0G, c0G]
        unfold W64 at *
        omega
       refine Wp.again ⟨rfl, rfl, ?_, ?_, rfl, rfl, ?_⟩ hm
       ·
        show 0 ≤ (I.add k (I.of .i64 1)).val; omega
       ·
        show (I.add k (I.of .i64 1)).val ≤ 4; omega
       ·
        show U.val (Arr.upd 4 p (I.nat (I.add i1 k)) z2) + (I.add (I.add hi q1) q2).nat * W64 ^ (min (i1.val.toNat + (I.add k (I.of .i64 1)).val.toNat) 4) = _ + _ * (U.val b1 % W64 ^ (I.add k (I.of .i64 1)).val.toNat)
        rw [skn, bmod, en, Nat.min_eq_left (by omega)]
        rw [Nat.min_eq_left (by omega)] at hinv
        exact d1J hinv hprod (by unfold W64; omega) hs2' hcv hup
     ·
      have h := niff_ltb.1 h
      simp only [c4] at h
      have hk : k.val.toNat = 4 := by omega
      rw [hk, Nat.min_eq_right (by omega), e4N, Nat.mod_eq_of_lt (U.lt b1)] at hinv
      have amod := b9V a1 i1.val.toNat (by omega)
      have hA : U.val p + c.nat * U.top = (U.val a1 % W64 ^ (i1.val.toNat + 1)) * U.val b1 := by
       rw [hinv, amod, Nat.add_mul]
       congr 1
       simp only [Nat.mul_comm, Nat.mul_left_comm, Nat.mul_assoc]
      refine Wp.done ?_
      refine Wp.brn (fun h2 => ?_) (fun h2 => ?_)
      ·
       refine Wp.done (over ?_)
       have h2 := iff_neb.1 h2
       have h2 : c.val ≠ (I.of .u64 0).val := h2
       have z0 : (I.of .u64 0).val = 0 := rfl
       have hc1 : 1 ≤ c.nat := by have := a0Z c; omega
       have h3 := d7A a1 b1 (W64 ^ (i1.val.toNat + 1))
       have h4 : 1 * U.top ≤ c.nat * U.top := Nat.mul_le_mul_right _ hc1
       omega
      ·
       have h2 := niff_neb.1 h2
       have h2 : c.val = (I.of .u64 0).val := h2
       have z0 : (I.of .u64 0).val = 0 := rfl
       have hc1 : c.nat = 0 := by have := a0Z c; omega
       rw [hc1, Nat.zero_mul, Nat.add_zero] at hA
       refine Wp.again ⟨?_, ?_, rfl, rfl, ?_⟩ ?_
       ·
        show 0 ≤ (I.add i1 (I.of .i64 1)).val; omega
       ·
        show (I.add i1 (I.of .i64 1)).val ≤ 4; omega
       ·
        show U.val p = U.val a1 % W64 ^ (I.add i1 (I.of .i64 1)).val.toNat * U.val b1
        rw [sin]; exact hA
       ·
        show (4 - (I.add i1 (I.of .i64 1)).val).toNat < (4 - i1.val).toNat
        omega
    ·
     refine ⟨rfl, rfl, by show 0 ≤ (I.of .i64 0).val; decide, by show (I.of .i64 0).val ≤ 4; decide, rfl, rfl, ?_⟩
     show U.val p0 + (I.of .u64 0).nat * _ = _ + _ * (U.val b' % W64 ^ (I.of .i64 0).val.toNat)
     have e1 : (I.of .u64 0).nat = 0 := rfl
     have e2 : (I.of .i64 0).val.toNat = 0 := rfl
     rw [e1, e2, Nat.zero_mul, Nat.pow_zero, Nat.mod_one, Nat.mul_zero, hp]
    ·
     exact b1D _ (by show (4 - (I.of .i64 0).val).toNat < _; decide)
   ·
    have h := niff_ltb.1 h
    simp only [c4] at h
    have hi : i.val.toNat = 4 := by omega
    rw [hi, e4N, Nat.mod_eq_of_lt (U.lt a')] at hp
    refine Wp.done ?_
    show some ((p0, I.of .i64 0, ()), ()) = _
    have hlt : U.val a' * U.val b' < U.top := by rw [← hp]; exact U.lt p0
    rw [show errS (U.val a' * U.val b') = (U.of (U.val a' * U.val b'), I.of .i64 0) from if_pos hlt]
    have hU : p0 = U.of (U.val a' * U.val b') := by
     have := U.of_val p0
     rw [hp] at this
     exact this.symm
    exact congrArg (fun z : U => some ((z, I.of .i64 0, ()), ())) hU
  ·
   refine ⟨by show 0 ≤ (I.of .i64 0).val; decide, by show (I.of .i64 0).val ≤ 4; decide, rfl, rfl, ?_⟩
   show U.val (I.of .u64 0, I.of .u64 0, I.of .u64 0, I.of .u64 0, ()) = (a.val % W64 ^ (I.of .i64 0).val.toNat) * b.val
   have e2 : (I.of .i64 0).val.toNat = 0 := rfl
   rw [e2, Nat.pow_zero, Nat.mod_one, Nat.zero_mul]
   rfl
  ·
   exact b1D _ (by show (4 - (I.of .i64 0).val).toNat < _; decide)
 exact key.out
end Sym

/- Equality and order of 256 bits. -/
namespace Sym
open Go
theorem b7O (a b : U) : Ty.eqb (.arr 4 (.int .u64)) a b = decide (a.val = b.val) := by
 by_cases h : a.val = b.val
 ·
  have := U.ext h
  subst this
  simp [Ty.eqb, Arr.eqb]
 ·
  simp only [h, decide_false]
  cases hb : Ty.eqb (.arr 4 (.int .u64)) a b with
  | false => rfl
  | true =>
   exfalso
   apply h
   obtain ⟨a0, a1, a2, a3, ⟨⟩⟩ := a
   obtain ⟨b0, b1, b2, b3, ⟨⟩⟩ := b
   simp only [Ty.eqb, Arr.eqb, Bool.and_eq_true, decide_eq_true_eq, and_true] at hb
   obtain ⟨h0, h1, h2, h3⟩ := hb
   rw [I.ext' h0, I.ext' h1, I.ext' h2, I.ext' h3]
end Sym

/- Quotients of 512 by 256 bits. -/
namespace Sym
open Go
theorem a2W (x : I .u64) : a0L ((x, ()), ()) = some ((u64U x, ()), ()) := rfl
theorem b6R (a b : U) : a2C ((a, b, ()), ()) = some ((U.of (a.val - b.val), ()), ()) := by
 refine Wp.out (T := fun o => o = _) ?_
 unfold a2C
 refine Wp.optF (b7Z a b) ?_
 unfold subS
 by_cases h : b.val ≤ a.val
 ·
  rw [if_pos h]; rfl
 ·
  rw [if_neg h, show a.val - b.val = 0 by omega]; rfl
theorem d9S (x y : I .u64) (n : Nat) (hy : y.nat < 2 ^ n) (hx : x.nat % 2 ^ n = 0) : (I.or x y).nat = x.nat + y.nat := by
 have h1 : (BitVec.ofInt 64 x.val).toNat = x.nat := by have := a2U x; rw [BitVec.toNat_ofInt]; unfold I.nat; omega
 have h2 : (BitVec.ofInt 64 y.val).toNat = y.nat := by have := a2U y; rw [BitVec.toNat_ofInt]; unfold I.nat; omega
 have h3 : (BitVec.ofInt IntKind.u64.bits x.val ||| BitVec.ofInt IntKind.u64.bits y.val).toNat = x.nat ||| y.nat := by
  show (BitVec.ofInt 64 x.val ||| BitVec.ofInt 64 y.val).toNat = _
  rw [BitVec.toNat_or, h1, h2]
 have hlt : x.nat ||| y.nat < 2 ^ 64 := Nat.or_lt_two_pow (a1J x) (a1J y)
 have h4 : x.nat ||| y.nat = x.nat + y.nat := by
  have e : x.nat = (x.nat / 2 ^ n) <<< n := by
   rw [Nat.shiftLeft_eq]
   have := Nat.div_add_mod x.nat (2 ^ n)
   rw [hx, Nat.add_zero, Nat.mul_comm] at this
   exact this.symm
  rw [e]
  exact (Nat.shiftLeft_add_eq_or_of_lt hy _).symm
 unfold I.or
 rw [h3, b6A (by omega), h4]
theorem c2N (x : I .u64) : (I.shl x (I.of .u64 1)).nat = 2 * x.nat % W64 := by
 have h1 := a0Z x
 have hm : min (I.of .u64 1).val.toNat IntKind.u64.bits = 1 := rfl
 unfold I.shl
 rw [hm]
 show (IntKind.u64.wrap (x.val * 2 ^ 1)).toNat = _ % 18446744073709551616
 rw [wrap_u64]
 have : (2 : Int) ^ 1 = 2 := by decide
 rw [this]
 omega
theorem c2W (x : I .u64) : (I.shr x (I.of .u64 63)).nat = x.nat / 9223372036854775808 := by
 have c : (I.of .u64 63).nat = 63 := rfl
 rw [d3K _ _ (by decide), c]
theorem K0_four' : ∃ k, K0 = k + 4 := ⟨2 ^ 64 - 4, by rw [a5L]⟩
theorem d2X (x y : I .u64) : (I.or (I.shl x (I.of .u64 1)) (I.shr y (I.of .u64 63))).nat = 2 * x.nat % W64 + y.nat / 9223372036854775808 := by
 have hy := a1J y
 rw [d9S _ _ 1 (by rw [c2W]; omega) (by rw [c2N]; unfold W64; omega), c2N, c2W]
theorem d0D (a : U) (bit : I .u64) (hb : bit.nat ≤ 1) : ∃ (r : U) (o : I .u64), a5P ((a, bit, ()), ()) = some ((r, o, ()), ()) ∧ r.val + U.top * o.nat = 2 * a.val + bit.nat := by
 obtain ⟨k, hk⟩ := K0_four'
 obtain ⟨a0, a1, a2, a3, ⟨⟩⟩ := a
 refine ⟨(I.or (I.shl a0 (I.of .u64 1)) bit, I.or (I.shl a1 (I.of .u64 1)) (I.shr a0 (I.of .u64 63)), I.or (I.shl a2 (I.of .u64 1)) (I.shr a1 (I.of .u64 63)), I.or (I.shl a3 (I.of .u64 1)) (I.shr a2 (I.of .u64 63)), ()), I.shr a3 (I.of .u64 63), ?_, ?_⟩
 ·
  refine Wp.out (T := fun o => o = _) ?_
  unfold a5P
  rw [hk]
  refine Wp.unroll (Wp.brnT rfl (Wp.brnT rfl (Wp.brnT rfl (Wp.brnT rfl (Wp.next ?_)))))
  refine Wp.unroll (Wp.brnT rfl (Wp.brnT rfl (Wp.brnT rfl (Wp.brnT rfl (Wp.next ?_)))))
  refine Wp.unroll (Wp.brnT rfl (Wp.brnT rfl (Wp.brnT rfl (Wp.brnT rfl (Wp.next ?_)))))
  refine Wp.unroll (Wp.brnF rfl (Wp.stop rfl))
 ·
  have n0 := a1J a0
  have n1 := a1J a1
  have n2 := a1J a2
  have n3 := a1J a3
  unfold U.val U.top
  simp only
  rw [d2X, d2X, d2X, c2W, d9S _ _ 1 (by omega) (by rw [c2N]; unfold W64; omega), c2N]
  unfold W64
  omega
end Sym

/- Quotients of 512 by 256 bits: the loop. -/
namespace Sym
open Go
theorem f1W : ∃ k, K0 = k + 5 := ⟨2 ^ 64 - 5, by rw [a5L]⟩
theorem c6C (a b : U) : ∃ (r : U) (q : Nat), a5V ((a, b, ()), ()) = some ((r, ()), ()) ∧ r.val + b.val = a.val + U.top * q ∧ q ≤ 1 := by
 obtain ⟨k, hk⟩ := f1W
 obtain ⟨a0, a1, a2, a3, ⟨⟩⟩ := a
 obtain ⟨b0, b1, b2, b3, ⟨⟩⟩ := b
 obtain ⟨z0, q0, h0, e0, l0⟩ := b2C a0 b0 (I.of .u64 0) (by decide)
 obtain ⟨z1, q1, h1, e1, l1⟩ := b2C a1 b1 q0 l0
 obtain ⟨z2, q2, h2, e2, l2⟩ := b2C a2 b2 q1 l1
 obtain ⟨z3, q3, h3, e3, l3⟩ := b2C a3 b3 q2 l2
 refine ⟨(z0, z1, z2, z3, ()), q3.nat, ?_, ?_, l3⟩
 ·
  refine Wp.out (T := fun o => o = _) ?_
  unfold a5V
  rw [hk]
  refine Wp.unroll (Wp.brnT rfl (Wp.brnT rfl (Wp.brnT rfl (Wp.optF h0 (Wp.brnT rfl (Wp.next ?_))))))
  refine Wp.unroll (Wp.brnT rfl (Wp.brnT rfl (Wp.brnT rfl (Wp.optF h1 (Wp.brnT rfl (Wp.next ?_))))))
  refine Wp.unroll (Wp.brnT rfl (Wp.brnT rfl (Wp.brnT rfl (Wp.optF h2 (Wp.brnT rfl (Wp.next ?_))))))
  refine Wp.unroll (Wp.brnT rfl (Wp.brnT rfl (Wp.brnT rfl (Wp.optF h3 (Wp.brnT rfl (Wp.next ?_))))))
  refine Wp.unroll (Wp.brnF rfl (Wp.stop rfl))
 ·
  have z : (I.of .u64 0).nat = 0 := rfl
  unfold U.val U.top
  simp only
  omega
theorem c4Z (i : Nat) : 2 ^ i = W64 ^ (i / 64) * 2 ^ (i % 64) := by
 have : W64 = 2 ^ 64 := by decide
 rw [this, ← Nat.pow_mul, ← Nat.pow_add]
 congr 1
 omega
theorem f8K (a : U) (k : Nat) (hk : k < 4) : ∃ Y, a.val / W64 ^ k = limb' a k + W64 * Y := by
 obtain ⟨a0, a1, a2, a3, ⟨⟩⟩ := a
 have n0 := a1J a0
 have n1 := a1J a1
 have n2 := a1J a2
 have n3 := a1J a3
 have p0 : W64 ^ 0 = 1 := by decide
 have p1 : W64 ^ 1 = 18446744073709551616 := by decide
 have p2 : W64 ^ 2 = 340282366920938463463374607431768211456 := by decide
 have p3 : W64 ^ 3 = 6277101735386680763835789423207666416102355444464034512896 := by decide
 have hc : k = 0 ∨ k = 1 ∨ k = 2 ∨ k = 3 := by omega
 rcases hc with rfl | rfl | rfl | rfl
 ·
  refine ⟨a1.nat + 18446744073709551616 * (a2.nat + 18446744073709551616 * a3.nat), ?_⟩
  show U.val _ / W64 ^ 0 = a0.nat + 18446744073709551616 * _
  rw [p0]; unfold U.val; simp only; omega
 ·
  refine ⟨a2.nat + 18446744073709551616 * a3.nat, ?_⟩
  show U.val _ / W64 ^ 1 = a1.nat + 18446744073709551616 * _
  rw [p1]; unfold U.val; simp only; omega
 ·
  refine ⟨a3.nat, ?_⟩
  show U.val _ / W64 ^ 2 = a2.nat + 18446744073709551616 * _
  rw [p2]; unfold U.val; simp only; omega
 ·
  refine ⟨0, ?_⟩
  show U.val _ / W64 ^ 3 = a3.nat + 18446744073709551616 * _
  rw [p3]; unfold U.val; simp only; omega
theorem e6M (a : U) (i : Nat) (hi : i < 256) : a.val / 2 ^ i % 2 = limb' a (i / 64) / 2 ^ (i % 64) % 2 := by
 obtain ⟨Y, hY⟩ := f8K a (i / 64) (by omega)
 rw [c4Z i, ← Nat.div_div_eq_div_mul, hY]
 have e : W64 = 2 ^ (i % 64) * (2 * 2 ^ (63 - i % 64)) := by
  have : 2 * 2 ^ (63 - i % 64) = 2 ^ (64 - i % 64) := by rw [show 64 - i % 64 = (63 - i % 64) + 1 by omega, Nat.pow_succ, Nat.mul_comm]
  rw [this, ← Nat.pow_add, show i % 64 + (64 - i % 64) = 64 by omega]
 rw [e, Nat.mul_assoc, Nat.add_mul_div_left _ _ (Nat.pow_pos (by decide)), Nat.mul_assoc, Nat.add_mul_mod_self_left]
theorem f1S (x : I .u64) (s : I .i64) (h0 : 0 ≤ s.val) (hs : s.val < 64) : (I.shr x s).nat = x.nat / 2 ^ s.val.toNat := by
 have hx := a2U x
 have hm : min s.val.toNat IntKind.u64.bits = s.val.toNat := by
  have : IntKind.u64.bits = 64 := rfl
  omega
 unfold I.shr
 rw [hm, b9A _ _ hx.1]
 have h1 : ((x.nat / 2 ^ s.val.toNat : Nat) : Int) = x.val / (2 : Int) ^ s.val.toNat := by
  rw [Int.natCast_ediv, a0Z]
  simp
 rw [← h1]
 have := Nat.div_le_self x.nat (2 ^ s.val.toNat)
 have := a1J x
 exact b6A (by omega)
theorem d3D (s : I .i64) (h0 : 0 ≤ s.val) (hs : s.val < 64) : (I.shl (I.of .u64 1) s).nat = 2 ^ s.val.toNat := by
 have hm : min s.val.toNat IntKind.u64.bits = s.val.toNat := by
  have : IntKind.u64.bits = 64 := rfl
  omega
 have h1 : (I.of .u64 1).val = 1 := rfl
 have h3 : 2 ^ s.val.toNat ≤ 2 ^ 63 := Nat.pow_le_pow_right (by decide) (by omega)
 have h4 : ((2 ^ s.val.toNat : Nat) : Int) = 2 ^ s.val.toNat := by simp
 unfold I.shl
 rw [hm, h1, Int.one_mul, ← h4]
 exact b6A (by omega)
theorem f1N (q : U) (i : Nat) (hi : i < 256) (b : I .u64) (hb : b.nat = 2 ^ (i % 64)) (hq : q.val % 2 ^ (i + 1) = 0) :
  U.val (Arr.upd 4 q (i / 64) (I.or (Arr.sel (I.of .u64 0) 4 q (i / 64)) b)) = q.val + 2 ^ i := by
 obtain ⟨Y, hY⟩ := f8K q (i / 64) (by omega)
 have hl : limb' q (i / 64) % 2 ^ (i % 64 + 1) = 0 := by
  obtain ⟨Q, hQ⟩ : ∃ Q, q.val = 2 ^ (i + 1) * Q := ⟨q.val / 2 ^ (i + 1), by have := Nat.div_add_mod q.val (2 ^ (i + 1)); omega⟩
  have e1 : q.val / W64 ^ (i / 64) = 2 ^ (i % 64 + 1) * Q := by
   rw [hQ, Nat.pow_succ, c4Z i, Nat.mul_assoc, Nat.mul_assoc, Nat.mul_div_cancel_left _ (Nat.pow_pos (by decide)), Nat.pow_succ, Nat.mul_assoc]
  have e2 : W64 = 2 ^ (i % 64 + 1) * 2 ^ (63 - i % 64) := by
   rw [← Nat.pow_add, show i % 64 + 1 + (63 - i % 64) = 64 by omega]
  rw [e1, e2, Nat.mul_assoc] at hY
  have e3 : limb' q (i / 64) = 2 ^ (i % 64 + 1) * Q - 2 ^ (i % 64 + 1) * (2 ^ (63 - i % 64) * Y) := by omega
  rw [e3, ← Nat.mul_sub]
  exact Nat.mul_mod_right _ _
 have hor : (I.or (Arr.sel (I.of .u64 0) 4 q (i / 64)) b).nat = limb' q (i / 64) + 2 ^ (i % 64) := by
  rw [d9S _ b (i % 64 + 1) (by rw [hb, Nat.pow_succ]; have := Nat.pow_pos (a := 2) (n := i % 64) (by decide); omega) hl, hb]
  rfl
 have hup := e1F q (i / 64) (I.or (Arr.sel (I.of .u64 0) 4 q (i / 64)) b) (by omega)
 rw [hor, Nat.mul_add, ← c4Z] at hup
 omega
end Sym

/- Quotients of 512 by 256 bits: what they are. -/
namespace Sym
open Go
theorem d3H : U.top = 2 ^ 256 := by decide
theorem half (N i : Nat) : N / 2 ^ i = 2 * (N / 2 ^ (i + 1)) + N / 2 ^ i % 2 := by
 rw [Nat.pow_succ, ← Nat.div_div_eq_div_mul]
 omega
theorem e9P (a b : Nat) (i : Nat) (hi : i < 256) : (U.top * b + a) / 2 ^ i % 2 = a / 2 ^ i % 2 := by
 have e : U.top * b = 2 ^ i * (2 * (2 ^ (255 - i) * b)) := by
  have : U.top = 2 ^ i * (2 * 2 ^ (255 - i)) := by
   rw [d3H, ← Nat.pow_succ', ← Nat.pow_add, show i + (255 - i + 1) = 256 by omega]
  rw [this]
  simp only [Nat.mul_assoc]
 rw [e, Nat.mul_add_div (Nat.pow_pos (by decide)), Nat.mul_add_mod]
structure DivInv (N c t : Nat) (q r : U) : Prop where
 eq : N / 2 ^ t = q.val / 2 ^ t * c + r.val
 lt : r.val < c
 low : q.val % 2 ^ t = 0
theorem c3G {N c i : Nat} {q r q' r' : U} (h : DivInv N c (i + 1) q r) (bit d : Nat) (hb : N / 2 ^ i % 2 = bit) (hd : d ≤ 1) (hq : q'.val = q.val + d * 2 ^ i) (hr : 2 * r.val + bit = d * c + r'.val) (hlt : r'.val < c) : DivInv N c i q' r' := by
 have h1 := half N i
 have e1 : q.val / 2 ^ i = 2 * (q.val / 2 ^ (i + 1)) := by
  have := half q.val i
  have h2 : q.val / 2 ^ i % 2 = 0 := by
   have h3 := h.low
   rw [Nat.pow_succ] at h3
   have h4 := Nat.mod_mul (x := q.val) (a := 2 ^ i) (b := 2)
   rw [h3] at h4
   have h5 : 0 < 2 ^ i := Nat.pow_pos (by decide)
   rcases Nat.eq_zero_or_pos (q.val / 2 ^ i % 2) with h6 | h6
   ·
    exact h6
   ·
    have : 2 ^ i * 1 ≤ 2 ^ i * (q.val / 2 ^ i % 2) := Nat.mul_le_mul_left _ h6
    omega
  omega
 have e2 : q.val % 2 ^ i = 0 := by
  have h3 := h.low
  rw [Nat.pow_succ] at h3
  have h4 := Nat.mod_mul (x := q.val) (a := 2 ^ i) (b := 2)
  omega
 have e3 : q'.val / 2 ^ i = q.val / 2 ^ i + d := by rw [hq, Nat.add_mul_div_right _ _ (Nat.pow_pos (by decide))]
 refine ⟨?_, hlt, ?_⟩
 ·
  rw [h1, h.eq, hb, e3, e1, Nat.add_mul, Nat.mul_add, Nat.mul_assoc]
  omega
 ·
  rw [hq, Nat.add_mul_mod_self_right]; exact e2
theorem c4P (a b c : U) (hbc : b.val < c.val) : a5C ((a, b, c, ()), ()) = some ((U.of ((U.top * b.val + a.val) / c.val), U.of ((U.top * b.val + a.val) % c.val), I.of .i64 0, ()), ()) := by
 have c0 : (I.of .i64 0).val = 0 := rfl
 have c1 : (I.of .i64 1).val = 1 := rfl
 have c64 : (I.of .i64 64).val = 64 := rfl
 have hct := U.lt c
 have key : Wp (fun o => o = some ((U.of ((U.top * b.val + a.val) / c.val), U.of ((U.top * b.val + a.val) % c.val), I.of .i64 0, ()), ())) (a5C ((a, b, c, ()), ())) := by
  unfold a5C
  refine Wp.brnF ?_ ?_
  ·
   refine (b7O c _).trans (decide_eq_false ?_)
   intro hh
   have hh : c.val = 0 := hh
   omega
  refine Wp.optF (a8L b c) ?_
  refine Wp.brnF ?_ ?_
  ·
   show I.leb (I.of .i64 0) (cmpS b c) = false
   unfold cmpS
   rw [if_pos hbc]; rfl
  refine Wp.iter (fun x => -1 ≤ x.1.1.val ∧ x.1.1.val ≤ 255 ∧ x.2.1 = a ∧ x.2.2.1 = c ∧ DivInv (U.top * b.val + a.val) c.val (x.1.1.val + 1).toNat x.2.2.2.1 x.2.2.2.2.1) (fun x => (x.1.1.val + 1).toNat) ?_ ?_ ?_
  ·
   rintro ⟨⟨i, ⟨⟩⟩, a', c', q, r, ⟨⟩⟩ ⟨hi0, hi1, e1, e2, hinv⟩
   simp only at hi0 hi1 e1 e2 hinv
   subst e1 e2
   refine Wp.brn (fun h => ?_) (fun h => ?_)
   ·
    have hge := iff_leb.1 h
    simp only [c0] at hge
    clear h
    have ht : (i.val + 1).toNat = i.val.toNat + 1 := by omega
    rw [ht] at hinv
    have hq4 : (I.quo i (I.of .i64 64)).val = i.val / 64 := c1K hge (by decide)
    have hr4 : (I.rem i (I.of .i64 64)).val = i.val % 64 := c3J hge (by decide)
    have hin : inB (I.quo i (I.of .i64 64)) 4 = true := iff_inB.2 ⟨by omega, by omega⟩
    have hnn : I.nn (I.rem i (I.of .i64 64)) = true := iff_nn.2 (by omega)
    have hs : (I.sub i (I.of .i64 1)).val = i.val - 1 := by rw [a8N (by omega)]; omega
    have hs1 : ((I.sub i (I.of .i64 1)).val + 1).toNat = i.val.toNat := by omega
    have hm : ((I.sub i (I.of .i64 1)).val + 1).toNat < (i.val + 1).toNat := by omega
    have en : I.nat (I.quo i (I.of .i64 64)) = i.val.toNat / 64 := by unfold I.nat; omega
    have er : (I.rem i (I.of .i64 64)).val.toNat = i.val.toNat % 64 := by omega
    refine Wp.brnT hin (Wp.brnT hnn ?_)
    have hbit : (I.and (I.shr (Arr.sel (I.of .u64 0) 4 a' (I.nat (I.quo i (I.of .i64 64)))) (I.rem i (I.of .i64 64))) (I.of .u64 1)).nat = (U.top * b.val + U.val a') / 2 ^ i.val.toNat % 2 := by
     rw [d2B _ 1 _ (by decide) (by decide), f1S _ _ (by omega) (by omega), er, en, e9P _ _ _ (by omega), e6M a' i.val.toNat (by omega)]
     rfl
    obtain ⟨r1, o, hsh, hsum⟩ := d0D r (I.and (I.shr (Arr.sel (I.of .u64 0) 4 a' (I.nat (I.quo i (I.of .i64 64)))) (I.rem i (I.of .i64 64))) (I.of .u64 1)) (by rw [hbit]; omega)
    rw [hbit] at hsum
    refine Wp.optF hsh ?_
    have hlt := hinv.lt
    have hr1 := U.lt r1
    have hc1 : U.val c' < U.top := U.lt c'
    have setb : U.val (Arr.upd 4 q (I.nat (I.quo i (I.of .i64 64))) (I.or (Arr.sel (I.of .u64 0) 4 q (I.nat (I.quo i (I.of .i64 64)))) (I.shl (I.of .u64 1) (I.rem i (I.of .i64 64))))) = U.val q + 1 * 2 ^ i.val.toNat := by
     rw [en, Nat.one_mul]
     exact f1N q i.val.toNat (by omega) _ (by rw [d3D _ (by omega) (by omega), er]) hinv.low
    generalize hB : (U.top * b.val + U.val a') / 2 ^ i.val.toNat % 2 = bit at hsum
    have hB1 : bit ≤ 1 := by omega
    have ho : o.nat = 0 ∨ o.nat = 1 := by
     rcases Nat.lt_or_ge o.nat 2 with h1 | h1
     ·
      omega
     ·
      exfalso
      have : U.top * 2 ≤ U.top * o.nat := Nat.mul_le_mul_left _ h1
      omega
    refine Wp.brn (fun h => ?_) (fun h => ?_)
    ·
     have h := iff_eqb.1 h
     have h : o.val = (I.of .u64 1).val := h
     have z1 : (I.of .u64 1).val = 1 := rfl
     have ho1 : o.nat = 1 := by have := a0Z o; omega
     rw [ho1, Nat.mul_one] at hsum
     obtain ⟨r2, qq, hsub, hsv, hqq⟩ := c6C r1 c'
     refine Wp.optF hsub ?_
     refine Wp.brnT hin (Wp.brnT hnn (Wp.brnT hin ?_))
     have hr2 := U.lt r2
     have hqq1 : qq = 1 := by
      rcases Nat.lt_or_ge qq 1 with h1 | h1
      ·
       exfalso
       have : qq = 0 := by omega
       rw [this, Nat.mul_zero] at hsv
       omega
      ·
       omega
     rw [hqq1, Nat.mul_one] at hsv
     refine Wp.again ⟨?_, ?_, rfl, rfl, ?_⟩ hm
     ·
      show -1 ≤ (I.sub i (I.of .i64 1)).val; omega
     ·
      show (I.sub i (I.of .i64 1)).val ≤ 255; omega
     ·
      show DivInv _ _ ((I.sub i (I.of .i64 1)).val + 1).toNat _ r2
      rw [hs1]
      exact c3G (r' := r2) hinv bit 1 hB (Nat.le_refl _) setb (by omega) (by omega)
    ·
     have h := niff_eqb.1 h
     have h : o.val ≠ (I.of .u64 1).val := h
     have z1 : (I.of .u64 1).val = 1 := rfl
     have ho0 : o.nat = 0 := by have := a0Z o; omega
     rw [ho0, Nat.mul_zero, Nat.add_zero] at hsum
     refine Wp.optF (a8L r1 c') ?_
     by_cases hcmp : U.val r1 < U.val c'
     ·
      refine Wp.brnF ?_ ?_
      ·
       show I.leb (I.of .i64 0) (cmpS r1 c') = false
       unfold cmpS
       rw [if_pos hcmp]; rfl
      refine Wp.again ⟨?_, ?_, rfl, rfl, ?_⟩ hm
      ·
       show -1 ≤ (I.sub i (I.of .i64 1)).val; omega
      ·
       show (I.sub i (I.of .i64 1)).val ≤ 255; omega
      ·
       show DivInv _ _ ((I.sub i (I.of .i64 1)).val + 1).toNat q r1
       rw [hs1]
       exact c3G hinv bit 0 hB (by omega) (by omega) (by omega) hcmp
     ·
      refine Wp.brnT ?_ ?_
      ·
       show I.leb (I.of .i64 0) (cmpS r1 c') = true
       unfold cmpS
       rw [if_neg hcmp]
       split <;> rfl
      obtain ⟨r2, qq, hsub, hsv, hqq⟩ := c6C r1 c'
      refine Wp.optF hsub ?_
      refine Wp.brnT hin (Wp.brnT hnn (Wp.brnT hin ?_))
      have hr2 := U.lt r2
      have hqq0 : qq = 0 := by
       rcases Nat.lt_or_ge qq 1 with h1 | h1
       ·
        omega
       ·
        exfalso
        have : qq = 1 := by omega
        rw [this, Nat.mul_one] at hsv
        omega
      rw [hqq0, Nat.mul_zero, Nat.add_zero] at hsv
      refine Wp.again ⟨?_, ?_, rfl, rfl, ?_⟩ hm
      ·
       show -1 ≤ (I.sub i (I.of .i64 1)).val; omega
      ·
       show (I.sub i (I.of .i64 1)).val ≤ 255; omega
      ·
       show DivInv _ _ ((I.sub i (I.of .i64 1)).val + 1).toNat _ r2
       rw [hs1]
       exact c3G (r' := r2) hinv bit 1 hB (Nat.le_refl _) setb (by omega) (by omega)
   ·
    have h := niff_leb.1 h
    simp only [c0] at h
    have ht : (i.val + 1).toNat = 0 := by omega
    rw [ht] at hinv
    have heq := hinv.eq
    simp only [Nat.pow_zero, Nat.div_one] at heq
    have hlt := hinv.lt
    refine Wp.done ?_
    show some ((q, r, I.of .i64 0, ()), ()) = _
    have eq : (U.top * b.val + U.val a') / U.val c' = U.val q := by
     rw [heq, Nat.mul_comm, Nat.mul_add_div (by omega), Nat.div_eq_of_lt hlt, Nat.add_zero]
    have er : (U.top * b.val + U.val a') % U.val c' = U.val r := by
     rw [heq, Nat.mul_comm, Nat.mul_add_mod, Nat.mod_eq_of_lt hlt]
    have hq : q = U.of ((U.top * b.val + U.val a') / U.val c') := by rw [eq]; exact (U.of_val q).symm
    have hr : r = U.of ((U.top * b.val + U.val a') % U.val c') := by rw [er]; exact (U.of_val r).symm
    exact (congrArg (fun z : U => some ((z, r, I.of .i64 0, ()), ())) hq).trans (congrArg (fun z : U => some ((U.of ((U.top * b.val + U.val a') / U.val c'), z, I.of .i64 0, ()), ())) hr)
  ·
   refine ⟨by show -1 ≤ (I.of .i64 255).val; decide, by show (I.of .i64 255).val ≤ 255; decide, rfl, rfl, ?_⟩
   show DivInv _ _ ((I.of .i64 255).val + 1).toNat (I.of .u64 0, I.of .u64 0, I.of .u64 0, I.of .u64 0, ()) b
   have e : ((I.of .i64 255).val + 1).toNat = 256 := rfl
   have ha := U.lt a
   rw [e]
   refine ⟨?_, hbc, rfl⟩
   have z : U.val (I.of .u64 0, I.of .u64 0, I.of .u64 0, I.of .u64 0, ()) = 0 := rfl
   rw [z, ← d3H, Nat.zero_div, Nat.zero_mul, Nat.zero_add, Nat.mul_add_div (by decide), Nat.div_eq_of_lt ha, Nat.add_zero]
  ·
   exact b1D _ (by show ((I.of .i64 255).val + 1).toNat < _; decide)
 exact key.out
def c4B (a c : U) : U × U × I .i64 := if c.val = 0 then (U.of 0, U.of 0, I.of .i64 5) else (U.of (a.val / c.val), U.of (a.val % c.val), I.of .i64 0)
theorem e1P (a c : U) : a8B ((a, c, ()), ()) = some (((c4B a c).1, (c4B a c).2.1, (c4B a c).2.2, ()), ()) := by
 refine Wp.out (T := fun o => o = _) ?_
 unfold a8B c4B
 by_cases h : c.val = 0
 ·
  rw [if_pos h]
  refine Wp.optF (y := ((U.of 0, U.of 0, I.of .i64 5, ()), ())) ?_ rfl
  refine Wp.out (T := fun o => o = _) ?_
  unfold a5C
  refine Wp.brnT ?_ rfl
  exact (b7O c _).trans (decide_eq_true h)
 ·
  rw [if_neg h]
  have hz : U.val (U.of 0) = 0 := rfl
  have := c4P a (U.of 0) c (by omega)
  rw [hz, Nat.mul_zero, Nat.zero_add] at this
  exact Wp.optF this rfl
end Sym

/- Signed numbers of 256 bits: what the program's functions compute, told of whole numbers. -/
namespace Sym
open Go
abbrev S : Type := Bool × U × Unit
def S.int (x : S) : Int := if x.1 then -(x.2.1.val : Int) else x.2.1.val
def S.of (z : Int) : S := (decide (z < 0), U.of z.natAbs, ())
def a1K (x : S) : Bool := !(x.1 && decide (x.2.1.val = 0))
theorem S.abs (x : S) : x.int.natAbs = x.2.1.val := by
 unfold S.int
 split <;> omega
theorem S.of_int {x : S} (h : a1K x = true) : S.of x.int = x := by
 obtain ⟨n, a, ⟨⟩⟩ := x
 unfold S.of
 have e := S.abs (n, a, ())
 rw [e]
 have e2 : decide (S.int (n, a, ()) < 0) = n := by
  unfold S.int
  unfold a1K at h
  cases n with
  | false => simp
  | true =>
   simp at h
   simp
   omega
 rw [e2]
 show (n, U.of a.val, ()) = _
 rw [U.of_val]
theorem S.int_of {z : Int} (h : z.natAbs < U.top) : (S.of z).int = z := by
 unfold S.of S.int
 simp only [U.val_of h]
 by_cases hz : z < 0
 ·
  simp [hz]; omega
 ·
  simp [hz]; omega
theorem S.of_valid {z : Int} (h : z.natAbs < U.top) : a1K (S.of z) = true := by
 unfold S.of a1K
 simp only [U.val_of h]
 by_cases hz : z < 0
 ·
  simp [hz]; omega
 ·
  simp [hz]
theorem S.lt (x : S) : x.int.natAbs < U.top := by rw [S.abs]; exact U.lt _
def resS (z : Int) : S × I .i64 := if z.natAbs < U.top then (S.of z, I.of .i64 0) else (S.of 0, I.of .i64 4)
theorem d9F (a : U) : Ty.eqb (.arr 4 (.int .u64)) a a = true := by rw [b7O]; simp
theorem d8J (x : S) : Ty.eqb tY5 x x = true := by
 obtain ⟨n, a, ⟨⟩⟩ := x
 have h := d9F a
 show ((n == n) && (Ty.eqb (.arr 4 (.int .u64)) a a && true)) = true
 rw [h]; simp
theorem eqz (a : U) : Ty.eqb (.arr 4 (.int .u64)) a (I.of .u64 0, I.of .u64 0, I.of .u64 0, I.of .u64 0, ()) = decide (a.val = 0) := b7O a (U.of 0)
theorem a9H (x : S) : a1S ((x, ()), ()) = some ((a1K x, ()), ()) := by
 obtain ⟨n, a, ⟨⟩⟩ := x
 refine Wp.out (T := fun o => o = some ((a1K (n, a, ()), ()), ())) ?_
 unfold a1S
 cases n with
 | false => exact Wp.brnT rfl rfl
 | true =>
  refine Wp.brnF rfl ?_
  show some ((!(Ty.eqb (.arr 4 (.int .u64)) a (I.of .u64 0, I.of .u64 0, I.of .u64 0, I.of .u64 0, ())), ()), ()) = some ((!(true && decide (a.val = 0)), ()), ())
  rw [eqz, Bool.true_and]
def sgn (n : Bool) (m : Nat) : Int := if n then -(m : Int) else m
theorem c1T (n : Bool) (a : U) : a5B ((n, a, ()), ()) = some ((S.of (sgn n a.val), ()), ()) := by
 refine Wp.out (T := fun o => o = some ((S.of (sgn n a.val), ()), ())) ?_
 unfold a5B sgn S.of
 cases n with
 | false =>
  refine Wp.brnF rfl ?_
  show some (((false, a, ()), ()), ()) = some (((decide (((a.val : Nat) : Int) < 0), U.of ((a.val : Nat) : Int).natAbs, ()), ()), ())
  rw [Int.natAbs_natCast, U.of_val, decide_eq_false (by omega)]
 | true =>
  refine Wp.brnT rfl ?_
  show some (((!(Ty.eqb (.arr 4 (.int .u64)) a (I.of .u64 0, I.of .u64 0, I.of .u64 0, I.of .u64 0, ())), a, ()), ()), ()) = some (((decide (-((a.val : Nat) : Int) < 0), U.of (-((a.val : Nat) : Int)).natAbs, ()), ()), ())
  rw [eqz, Int.natAbs_neg, Int.natAbs_natCast, U.of_val]
  by_cases h : a.val = 0
  ·
   rw [h]; rfl
  ·
   rw [decide_eq_false h, decide_eq_true (show -((a.val : Nat) : Int) < 0 by omega)]; rfl
def negS (x : S) : S × I .i64 := if a1K x then (S.of (-x.int), I.of .i64 0) else (S.of 0, I.of .i64 2)
theorem e7C (x : S) : b0Q ((x, ()), ()) = some (((negS x).1, (negS x).2, ()), ()) := by
 refine Wp.out (T := fun o => o = some (((negS x).1, (negS x).2, ()), ())) ?_
 unfold b0Q negS
 refine Wp.optF (a9H x) ?_
 by_cases h : a1K x = true
 ·
  rw [if_pos h]
  refine Wp.brnF (by show (!a1K x) = false; rw [h]; rfl) ?_
  refine Wp.optF (c1T (!x.1) x.2.1) ?_
  have : sgn (!x.1) x.2.1.val = -x.int := by
   unfold sgn S.int
   cases x.1 <;> simp
  rw [this]; rfl
 ·
  rw [if_neg h]
  refine Wp.brnT (by show (!a1K x) = true; simp [h]) rfl
theorem d3I (a b : U) : b0G ((a, b, ()), ()) = some ((S.of ((a.val : Int) - b.val), ()), ()) := by
 refine Wp.out (T := fun o => o = some ((S.of ((a.val : Int) - b.val), ()), ())) ?_
 have ha := a.lt
 have hb := b.lt
 unfold b0G
 refine Wp.optF (a8L a b) ?_
 by_cases h : a.val < b.val
 ·
  refine Wp.brnF (by show I.leb (I.of .i64 0) (cmpS a b) = false; unfold cmpS; rw [if_pos h]; rfl) ?_
  refine Wp.optF (b6R b a) ?_
  refine Wp.optF (c1T true (U.of (b.val - a.val))) ?_
  rw [U.val_of (by omega), show sgn true (b.val - a.val) = (a.val : Int) - b.val by unfold sgn; simp; omega]; rfl
 ·
  refine Wp.brnT (by show I.leb (I.of .i64 0) (cmpS a b) = true; unfold cmpS; rw [if_neg h]; split <;> rfl) ?_
  refine Wp.optF (b6R a b) ?_
  refine Wp.optF (c1T false (U.of (a.val - b.val))) ?_
  rw [U.val_of (by omega), show sgn false (a.val - b.val) = (a.val : Int) - b.val by unfold sgn; simp; omega]; rfl
def binS (x y : S) (z : Int) : S × I .i64 := if a1K x && a1K y then resS z else (S.of 0, I.of .i64 2)
theorem c5Z {x y : S} {z : Int} (h1 : a1K x = true) (h2 : a1K y = true) : binS x y z = resS z := by unfold binS; rw [h1, h2]; rfl
theorem d3A {x y : S} {z : Int} (h1 : a1K x = false) : binS x y z = (S.of 0, I.of .i64 2) := by unfold binS; rw [h1]; rfl
theorem d2Q {x y : S} {z : Int} (h2 : a1K y = false) : binS x y z = (S.of 0, I.of .i64 2) := by unfold binS; rw [h2]; simp
theorem b4L {z : Int} (h : z.natAbs < U.top) : resS z = (S.of z, I.of .i64 0) := if_pos h
theorem c0H {z : Int} (h : U.top ≤ z.natAbs) : resS z = (S.of 0, I.of .i64 4) := if_neg (by omega)
theorem f0R (x y : S) : b4T ((x, y, ()), ()) = some (((binS x y (x.int + y.int)).1, (binS x y (x.int + y.int)).2, ()), ()) := by
 refine Wp.out (T := fun o => o = some (((binS x y (x.int + y.int)).1, (binS x y (x.int + y.int)).2, ()), ())) ?_
 unfold b4T
 refine Wp.jn (fun s => a1K x = true ∧ a1K y = true ∧ s.2.1 = x ∧ s.2.2.1 = y) ?_ ?_
 ·
  rintro ⟨⟨⟩, x', y', r, ⟨⟩⟩ ⟨h1, h2, e1, e2⟩
  simp only at e1 e2
  subst e1 e2
  rw [c5Z h1 h2]
  obtain ⟨n, a, ⟨⟩⟩ := x'
  obtain ⟨m, b, ⟨⟩⟩ := y'
  have ha := U.lt a
  have hb := U.lt b
  have hab : ∀ (p q : U), ((p.val : Int) - q.val).natAbs < U.top := fun p q => by have := p.lt; have := q.lt; omega
  have same : ∀ (n : Bool), S.int (n, a, ()) + S.int (n, b, ()) = sgn n (U.val a + U.val b) := fun n => by unfold S.int sgn; cases n <;> simp <;> omega
  have add : ∀ (n : Bool), Wp (fun o => o = some (((resS (S.int (n, a, ()) + S.int (n, b, ()))).1, (resS (S.int (n, a, ()) + S.int (n, b, ()))).2, ()), ()))
    (optF none (a1V ((a, b, ()), ())) fun y1 => brn (I.neb y1.1.2.1 (I.of .i64 0)) (some (((false, (I.of .u64 0, I.of .u64 0, I.of .u64 0, I.of .u64 0, ()), ()), y1.1.2.1, ()), ())) (optF none (a5B ((n, y1.1.1, ()), ())) fun y2 => some ((y2.1.1, I.of .i64 0, ()), ()))) := by
   intro n
   rw [same]
   refine Wp.optF (b0A a b) ?_
   have e : (sgn n (U.val a + U.val b)).natAbs = U.val a + U.val b := by unfold sgn; cases n <;> simp <;> omega
   unfold addS
   by_cases h : U.val a + U.val b < U.top
   ·
    rw [if_pos h, b4L (by rw [e]; exact h)]
    refine Wp.brnF rfl ?_
    refine Wp.optF (c1T n (U.of (U.val a + U.val b))) ?_
    rw [U.val_of h]; rfl
   ·
    rw [if_neg h, c0H (by rw [e]; omega)]
    exact Wp.brnT rfl rfl
  cases n <;> cases m
  ·
   exact Wp.brnT rfl (add false)
  ·
   refine Wp.brnF rfl (Wp.brnF rfl ?_)
   refine Wp.optF (d3I a b) ?_
   have : S.int (false, a, ()) + S.int (true, b, ()) = (U.val a : Int) - U.val b := by unfold S.int; simp; omega
   rw [this, b4L (hab a b)]; rfl
  ·
   refine Wp.brnF rfl (Wp.brnT rfl ?_)
   refine Wp.optF (d3I b a) ?_
   have : S.int (true, a, ()) + S.int (false, b, ()) = (U.val b : Int) - U.val a := by unfold S.int; simp; omega
   rw [this, b4L (hab b a)]; rfl
  ·
   exact Wp.brnT rfl (add true)
 ·
  intro j hj
  refine Wp.optF (a9H x) ?_
  cases h1 : a1K x with
  | false =>
   rw [d3A h1]
   exact Wp.brnT rfl rfl
  | true =>
   refine Wp.brnF rfl ?_
   refine Wp.optF (a9H y) ?_
   cases h2 : a1K y with
   | false =>
    rw [d2Q h2]
    exact Wp.brnT rfl rfl
   | true =>
    exact Wp.brnF rfl (hj _ ⟨h1, h2, rfl, rfl⟩)
end Sym
