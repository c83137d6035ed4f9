/- The contracts of the given functions. -/
import Derived.Test.YtpeicefbediffaaGreatProg
import Derived.Test.YtpeicefbediffaaGreatPart4
import Derived.Test.YtpeicefbediffaaGreatPart3
namespace Sym
open Go Go.Proofs
set_option maxRecDepth 100000
noncomputable abbrev tp : Program := Tryz.prog
def dd : Nat → List Sh → List Sh
 | 0, l => l
 | n + 1, l => .dead :: dd n l
def tys : List (Nat × Ty) := [(2,(.int .i64)),(3,(.int .i64)),(4,.bool),(5,(.int .u8)),(6,(.int .u8)),(7,a7H),(8,a7H),(9,.str),(10,.str),(11,.str),(22,(.sl b0S)),(23,(.int .u64)),(24,(.arr 8 (.int .u64))),(27,a1C),(29,a0I),(33,a0F),(34,(.sl a0D)),(36,a0E),(38,(.int .u64)),(40,a0V),(42,b0S),(44,(.int .i64)),(48,(.sl a1H)),(50,a0Q),(51,a0Q),(60,(.sl a0W)),(62,(.arr 2 a0E)),(63,(.arr 2 a0I)),(66,a1H),(68,a0D),(98,a0W),(100,(.int .u64)),(107,.opq),(115,(.sl (.int .i64))),(123,.opq),(129,a0U),(134,(.arr 5 (.int .u64))),(144,(.sl a0Z)),(146,a1G),(148,.opq),(150,a0Z),(152,(.sl a1C)),(179,(.arr 12 .bool)),(181,.opq),(183,.opq),(184,.opq),(186,(.sl (.int .u64)))]
def eqs : List (Nat × Ty) := [(2,(.int .i64)),(3,(.int .i64)),(4,.bool),(5,(.int .u8)),(6,(.int .u8)),(7,a7H),(8,a7H),(23,(.int .u64)),(24,(.arr 8 (.int .u64))),(27,a1C),(29,a0I),(33,a0F),(38,(.int .u64)),(40,a0V),(42,b0S),(44,(.int .i64)),(63,(.arr 2 a0I)),(66,a1H),(68,a0D),(98,a0W),(100,(.int .u64)),(107,.opq),(123,.opq),(134,(.arr 5 (.int .u64))),(148,.opq),(150,a0Z),(179,(.arr 12 .bool)),(181,.opq),(183,.opq),(184,.opq)]
theorem a1U : tys.all (fun x => tiB tp x.1 x.2) = true := by kernel_rfl
theorem a1V : eqs.all (fun x => g4M tp x.1 x.2) = true := by kernel_rfl
theorem follows : tp.follows .mixedOrders = true := by kernel_rfl
theorem a0Y : d9K tp := e5P (by kernel_rfl)
def owns : List Nat := [144, 146]
def meths : List (Nat × String × FuncId × Option Nat) := [(148, "Len", 161, some 144), (148, "Less", 162, some 144), (148, "Pop", 164, none), (148, "Push", 165, none), (148, "Swap", 163, some 144)]
theorem a0R : meths.all (fun x => e1P tp x.1 x.2.1 x.2.2.1 x.2.2.2) = true := by kernel_rfl
noncomputable section
def uint256_FromUint64C : Con := ⟨⟨[.pl (.int .u64)],[]⟩,⟨[.pl a1C],[]⟩,a0M⟩
def g8Q : List (Nat × How) := []
def g2Y : Env := a1S tp tys eqs g8Q owns meths
def g2I : a4E := fun _ _ => none
theorem h5R : ∀ x,a0X g2Y g2I 22 uint256_FromUint64C.In uint256_FromUint64C.Out 60 K0 x = a0M x := by intro x; kernel_rfl
theorem e8P : a1K tp 22 uint256_FromUint64C := a0H (E := g2Y) (a1T a1U a1V (show HowsOk tp g8Q from trivial) follows a0R) a0Y fun x _ h => ⟨g2I,60,K0,(h5R x).trans h⟩
def params_GenesisC : Con := ⟨⟨[],[]⟩,⟨[.pl a0I],[]⟩,a6F⟩
def hw7 : List (Nat × How) := [(22,.con uint256_FromUint64C)]
def g9J : Env := a1S tp tys eqs hw7 owns meths
def g9B : a4E := fun _ _ => none
theorem ev7 : ∀ x,a0X g9J g9B 7 params_GenesisC.In params_GenesisC.Out 60 K0 x = a6F x := by intro x; kernel_rfl
theorem ok7 : a1K tp 7 params_GenesisC := a0H (E := g9J) (a1T a1U a1V (show HowsOk tp hw7 from (And.intro e8P trivial)) follows a0R) a0Y fun x _ h => ⟨g9B,60,K0,(ev7 x).trans h⟩
def pricer_GenesisC : Con := ⟨⟨[],[]⟩,⟨[.pl a0E],[]⟩,b2J⟩
def hw8 : List (Nat × How) := [(22,.con uint256_FromUint64C)]
def h0D : Env := a1S tp tys eqs hw8 owns meths
def g8G : a4E := fun _ _ => none
theorem ev8 : ∀ x,a0X h0D g8G 8 pricer_GenesisC.In pricer_GenesisC.Out 60 K0 x = b2J x := by intro x; kernel_rfl
theorem ok8 : a1K tp 8 pricer_GenesisC := a0H (E := h0D) (a1T a1U a1V (show HowsOk tp hw8 from (And.intro e8P trivial)) follows a0R) a0Y fun x _ h => ⟨g8G,60,K0,(ev8 x).trans h⟩
def poster_isZeroC : Con := ⟨⟨[.pl a1C],[]⟩,⟨[.pl .bool],[]⟩,a4T⟩
def g8K : List (Nat × How) := []
def f6U : Env := a1S tp tys eqs g8K owns meths
def f9L : a4E := fun _ _ => none
theorem h3I : ∀ x,a0X f6U f9L 62 poster_isZeroC.In poster_isZeroC.Out 60 K0 x = a4T x := by intro x; kernel_rfl
theorem g8C : a1K tp 62 poster_isZeroC := a0H (E := f6U) (a1T a1U a1V (show HowsOk tp g8K from trivial) follows a0R) a0Y fun x _ h => ⟨f9L,60,K0,(h3I x).trans h⟩
theorem f6K : a1K tp 26 c4N := e4C (fn := Tryz.f26) (by kernel_rfl) (by kernel_rfl) (by kernel_rfl) (by kernel_rfl) (by kernel_rfl)
def poster_sumC : Con := ⟨⟨[.pl a1C,.pl a1C],[]⟩,⟨[.pl (.arr 5 (.int .u64))],[]⟩,b1B⟩
def h0E : List (Nat × How) := [(26,.con c4N)]
def f5E : Env := a1S tp tys eqs h0E owns meths
def f6V : a4E := fun p c => match p,c with | [93],0 => some (.tmpl ⟨(dd 2 (.ptr 0 []::.ptr 1 []::.ptr 2 []::.ptr 3 []::.pl (.int .u64)::dd 1 (.pl (.int .i64)::dd 19 []))),[.box a1C (.pl a1C),.box a1C (.pl a1C),.box (.arr 5 (.int .u64)) (.pl (.arr 5 (.int .u64))),.box (.arr 5 (.int .u64)) (.pl (.arr 5 (.int .u64)))]⟩) | _,_ => none
theorem h4S : ∀ x,a0X f5E f6V 93 poster_sumC.In poster_sumC.Out 60 K0 x = b1B x := by intro x; kernel_rfl
theorem h3E : a1K tp 93 poster_sumC := a0H (E := f5E) (a1T a1U a1V (show HowsOk tp h0E from (And.intro f6K trivial)) follows a0R) a0Y fun x _ h => ⟨f6V,60,K0,(h4S x).trans h⟩
def poster_ValidC : Con := ⟨⟨[.pl (.sl a0D)],[]⟩,⟨[.pl .bool],[]⟩,a5C⟩
def h0S : List (Nat × How) := [(62,.con poster_isZeroC),(93,.con poster_sumC)]
def g0D : Env := a1S tp tys eqs h0S owns meths
def g3X : a4E := fun p c => match p,c with | [1000000,47],7 => some (.join ⟨(.pl (.sl a0D)::dd 3 (.ptr 0 []::.pl (.sl a0D)::.pl (.int .i64)::.pl (.int .i64)::dd 8 (.pl (.int .i64)::.pl .bool::.pl .bool::dd 9 (.pl .bool::dd 25 [])))),[.box a0D (.pl a0D)]⟩) | [47],0 => some (.tmpl ⟨(.pl (.sl a0D)::dd 4 (.pl (.sl a0D)::.pl (.int .i64)::.pl (.int .i64)::dd 46 [])),[]⟩) | _,_ => none
theorem h6I : ∀ x,a0X g0D g3X 47 poster_ValidC.In poster_ValidC.Out 60 K0 x = a5C x := by intro x; kernel_rfl
theorem f4I : a1K tp 47 poster_ValidC := a0H (E := g0D) (a1T a1U a1V (show HowsOk tp h0S from (And.intro g8C (And.intro h3E trivial))) follows a0R) a0Y fun x _ h => ⟨g3X,60,K0,(h6I x).trans h⟩
def int256_ValidC : Con := ⟨⟨[.pl a0F],[]⟩,⟨[.pl .bool],[]⟩,a1Y⟩
def h1G : List (Nat × How) := []
def g3Y : Env := a1S tp tys eqs h1G owns meths
def g0P : a4E := fun _ _ => none
theorem h5M : ∀ x,a0X g3Y g0P 48 int256_ValidC.In int256_ValidC.Out 60 K0 x = a1Y x := by intro x; kernel_rfl
theorem e5I : a1K tp 48 int256_ValidC := a0H (E := g3Y) (a1T a1U a1V (show HowsOk tp h1G from trivial) follows a0R) a0Y fun x _ h => ⟨g0P,60,K0,(h5M x).trans h⟩
def pricer_ValidC : Con := ⟨⟨[.pl a0E],[]⟩,⟨[.pl .bool],[]⟩,a6D⟩
def g9N : List (Nat × How) := [(47,.con poster_ValidC),(48,.con int256_ValidC)]
def f8W : Env := a1S tp tys eqs g9N owns meths
def g2W : a4E := fun p c => match p,c with | [18],0 => some (.tmpl ⟨(dd 1 (.ptr 0 []::dd 4 (.pl (.sl a0D)::.pl (.int .i64)::.pl (.int .i64)::dd 17 []))),[.box a0E (.pl a0E)]⟩) | _,_ => none
theorem h6R : ∀ x,a0X f8W g2W 18 pricer_ValidC.In pricer_ValidC.Out 60 K0 x = a6D x := by intro x; kernel_rfl
theorem g4L : a1K tp 18 pricer_ValidC := a0H (E := f8W) (a1T a1U a1V (show HowsOk tp g9N from (And.intro f4I (And.intro e5I trivial))) follows a0R) a0Y fun x _ h => ⟨g2W,60,K0,(h6R x).trans h⟩
def poster_FindC : Con := ⟨⟨[.pl (.sl a0D),.pl (.int .u64)],[]⟩,⟨[.pl (.int .i64)],[]⟩,a6Y⟩
def g8R : List (Nat × How) := [(95,.inl),(96,.inl)]
def g3C : Env := a1S tp tys eqs g8R owns meths
def f6T : a4E := fun p c => match p,c with | [95,1,2,53],0 => some (.tmpl ⟨(.pl (.sl a0D)::(.clo 96 ((.pair (.ptr 0 []) (.pl .nil))))::dd 5 (.pl (.int .i64)::.pl (.int .i64)::dd 18 [])),[.box (.int .u64) (.pl (.int .u64))]⟩) | _,_ => none
theorem h2Y : ∀ x,a0X g3C f6T 53 poster_FindC.In poster_FindC.Out 90 K0 x = a6Y x := by intro x; kernel_rfl
theorem g4K : a1K tp 53 poster_FindC := a0H (E := g3C) (a1T a1U a1V (show HowsOk tp g8R from trivial) follows a0R) a0Y fun x _ h => ⟨f6T,90,K0,(h2Y x).trans h⟩
theorem h6D : a1K tp 54 insertC := e1R a0Y
def slices_Clone___api_Poster_api_Poster_C : Con := ⟨⟨[.pl (.sl a0D)],[]⟩,⟨[.whole 0],[.row a0D]⟩,a0S⟩
def h1E : List (Nat × How) := []
def f5S : Env := a1S tp tys eqs h1E owns meths
def f9A : a4E := fun _ _ => none
theorem h2W : ∀ x,a0X f5S f9A 55 slices_Clone___api_Poster_api_Poster_C.In slices_Clone___api_Poster_api_Poster_C.Out 60 K0 x = a0S x := by intro x; kernel_rfl
theorem g3O : a1K tp 55 slices_Clone___api_Poster_api_Poster_C := a0H (E := f5S) (a1T a1U a1V (show HowsOk tp h1E from trivial) follows a0R) a0Y fun x _ h => ⟨f9A,60,K0,(h2W x).trans h⟩
def poster_AddC : Con := ⟨⟨[.pl (.sl a0D),.pl (.int .u64)],[]⟩,⟨[.pl (.sl a0D),.pl (.int .i64)],[]⟩,b2C⟩
def h1W : List (Nat × How) := [(47,.con poster_ValidC),(53,.con poster_FindC),(54,.con insertC),(55,.con slices_Clone___api_Poster_api_Poster_C)]
def g1F : Env := a1S tp tys eqs h1W owns meths
def f8G : a4E := fun p c => match p,c with | [1000000,24],11 => some (.join ⟨(.pl (.sl a0D)::.pl (.int .u64)::dd 4 (.pl (.int .i64)::dd 39 [])),[]⟩) | [1000000,24],3 => some (.join ⟨(.pl (.sl a0D)::.pl (.int .u64)::dd 5 (.pl .bool::dd 38 [])),[]⟩) | [1000000,24],8 => some (.join ⟨(.pl (.sl a0D)::.pl (.int .u64)::dd 44 []),[]⟩) | [24],1 => some (.tmpl ⟨(.pl (.sl a0D)::.pl (.int .u64)::dd 4 (.pl (.int .i64)::dd 39 [])),[]⟩) | _,_ => none
theorem h5X : ∀ x,a0X g1F f8G 24 poster_AddC.In poster_AddC.Out 60 K0 x = b2C x := by intro x; kernel_rfl
theorem h6Z : a1K tp 24 poster_AddC := a0H (E := g1F) (a1T a1U a1V (show HowsOk tp h1W from (And.intro f4I (And.intro g4K (And.intro h6D (And.intro g3O trivial))))) follows a0R) a0Y fun x _ h => ⟨f8G,60,K0,(h5X x).trans h⟩
def pricer_AddPosterC : Con := ⟨⟨[.pl a0E,.pl (.int .u64)],[]⟩,⟨[.pl a0E,.pl (.int .i64)],[]⟩,a5D⟩
def h1P : List (Nat × How) := [(18,.con pricer_ValidC),(24,.con poster_AddC)]
def g0Z : Env := a1S tp tys eqs h1P owns meths
def g0U : a4E := fun _ _ => none
theorem h3N : ∀ x,a0X g0Z g0U 10 pricer_AddPosterC.In pricer_AddPosterC.Out 60 K0 x = a5D x := by intro x; kernel_rfl
theorem g9V : a1K tp 10 pricer_AddPosterC := a0H (E := g0Z) (a1T a1U a1V (show HowsOk tp h1P from (And.intro g4L (And.intro h6Z trivial))) follows a0R) a0Y fun x _ h => ⟨g0U,60,K0,(h3N x).trans h⟩
def uint256_CmpC : Con := ⟨⟨[.pl a1C,.pl a1C],[]⟩,⟨[.pl (.int .i64)],[]⟩,a4N⟩
def g1T : List (Nat × How) := []
def e9I : Env := a1S tp tys eqs g1T owns meths
def e6T : a4E := fun p _ => match p with | 1000000::_ => none | _ => some (.unroll 6)
theorem g4R : ∀ x,a0X e9I e6T 106 uint256_CmpC.In uint256_CmpC.Out 60 K0 x = a4N x := by intro x; kernel_rfl
theorem e6I : a1K tp 106 uint256_CmpC := a0H (E := e9I) (a1T a1U a1V (show HowsOk tp g1T from trivial) follows a0R) a0Y fun x _ h => ⟨e6T,60,K0,(g4R x).trans h⟩
def params_GetC : Con := ⟨⟨[.pl a0I,.pl (.int .i64)],[]⟩,⟨[.pl a1C,.pl (.int .i64)],[]⟩,b5X⟩
def g4E : List (Nat × How) := [(22,.con uint256_FromUint64C),(137,.inl),(138,.inl)]
def e9Y : Env := a1S tp tys eqs g4E owns meths
def f0P : a4E := fun _ _ => none
theorem g7D : ∀ x,a0X e9Y f0P 120 params_GetC.In params_GetC.Out 90 K0 x = b5X x := by intro x; kernel_rfl
theorem g5E : a1K tp 120 params_GetC := a0H (E := e9Y) (a1T a1U a1V (show HowsOk tp g4E from (And.intro e8P trivial)) follows a0R) a0Y fun x _ h => ⟨f0P,90,K0,(g7D x).trans h⟩
def params_boundsC : Con := ⟨⟨[.pl a0I,.pl (.int .i64)],[]⟩,⟨[.pl (.int .u64),.pl (.int .u64)],[]⟩,b1O⟩
def g3S : List (Nat × How) := []
def e7G : Env := a1S tp tys eqs g3S owns meths
def e7J : a4E := fun p c => match p,c with | [1000000,121],12 => some (.join ⟨(dd 2 (.ptr 0 []::dd 3 (.pl (.int .i64)::dd 7 (.pl .bool::dd 10 [])))),[.box a0I (.pl a0I)]⟩) | [1000000,121],6 => some (.join ⟨(dd 2 (.ptr 0 []::dd 3 (.pl (.int .i64)::.pl .bool::dd 17 []))),[.box a0I (.pl a0I)]⟩) | [1000000,121],9 => some (.join ⟨(dd 2 (.ptr 0 []::dd 3 (.pl (.int .i64)::dd 4 (.pl .bool::dd 13 [])))),[.box a0I (.pl a0I)]⟩) | _,_ => none
theorem g7B : ∀ x,a0X e7G e7J 121 params_boundsC.In params_boundsC.Out 60 K0 x = b1O x := by intro x; kernel_rfl
theorem g5L : a1K tp 121 params_boundsC := a0H (E := e7G) (a1T a1U a1V (show HowsOk tp g3S from trivial) follows a0R) a0Y fun x _ h => ⟨e7J,60,K0,(g7B x).trans h⟩
def params_FirstInvalidC : Con := ⟨⟨[.pl a0I],[]⟩,⟨[.pl (.int .i64)],[]⟩,a4J⟩
def h0G : List (Nat × How) := [(22,.con uint256_FromUint64C),(106,.con uint256_CmpC),(120,.con params_GetC),(121,.con params_boundsC)]
def f6I : Env := a1S tp tys eqs h0G owns meths
def f5A : a4E := fun p c => match p,c with | [99],0 => some (.tmpl ⟨(dd 1 (.ptr 0 []::dd 1 (.pl (.int .i64)::dd 33 []))),[.box a0I (.pl a0I)]⟩) | _,_ => none
theorem h2V : ∀ x,a0X f6I f5A 99 params_FirstInvalidC.In params_FirstInvalidC.Out 60 K0 x = a4J x := by intro x; kernel_rfl
theorem h2X : a1K tp 99 params_FirstInvalidC := a0H (E := f6I) (a1T a1U a1V (show HowsOk tp h0G from (And.intro e8P (And.intro e6I (And.intro g5E (And.intro g5L trivial))))) follows a0R) a0Y fun x _ h => ⟨f5A,60,K0,(h2V x).trans h⟩
def params_ValidC : Con := ⟨⟨[.pl a0I],[]⟩,⟨[.pl .bool],[]⟩,a7I⟩
def g9L : List (Nat × How) := [(99,.con params_FirstInvalidC)]
def f5J : Env := a1S tp tys eqs g9L owns meths
def g2U : a4E := fun _ _ => none
theorem h4I : ∀ x,a0X f5J g2U 57 params_ValidC.In params_ValidC.Out 60 K0 x = a7I x := by intro x; kernel_rfl
theorem g5U : a1K tp 57 params_ValidC := a0H (E := f5J) (a1T a1U a1V (show HowsOk tp g9L from (And.intro h2X trivial)) follows a0R) a0Y fun x _ h => ⟨g2U,60,K0,(h4I x).trans h⟩
def math_bits_Len64C : Con := ⟨⟨[.pl (.int .u64)],[]⟩,⟨[.pl (.int .i64)],[]⟩,a6V⟩
def f8Y : List (Nat × How) := []
def e9O : Env := a1S tp tys eqs f8Y owns meths
def e7X : a4E := fun p c => match p,c with | [1000000,100],5 => some (.join ⟨(.pl (.int .u64)::dd 1 (.pl (.int .i64)::dd 22 [])),[]⟩) | [1000000,100],8 => some (.join ⟨(.pl (.int .u64)::dd 1 (.pl (.int .i64)::dd 22 [])),[]⟩) | _,_ => none
theorem g7V : ∀ x,a0X e9O e7X 100 math_bits_Len64C.In math_bits_Len64C.Out 60 K0 x = a6V x := by intro x; kernel_rfl
theorem g6P : a1K tp 100 math_bits_Len64C := a0H (E := e9O) (a1T a1U a1V (show HowsOk tp f8Y from trivial) follows a0R) a0Y fun x _ h => ⟨e7X,60,K0,(g7V x).trans h⟩
def uint256_BitLenC : Con := ⟨⟨[.pl a1C],[]⟩,⟨[.pl (.int .i64)],[]⟩,a6G⟩
def h1F : List (Nat × How) := [(100,.con math_bits_Len64C)]
def g3K : Env := a1S tp tys eqs h1F owns meths
def g4F : a4E := fun p c => match p,c with | [58],0 => some (.tmpl ⟨(dd 1 (.ptr 0 []::dd 1 (.pl (.int .i64)::dd 15 []))),[.box a1C (.pl a1C)]⟩) | _,_ => none
theorem h5B : ∀ x,a0X g3K g4F 58 uint256_BitLenC.In uint256_BitLenC.Out 60 K0 x = a6G x := by intro x; kernel_rfl
theorem h4F : a1K tp 58 uint256_BitLenC := a0H (E := g3K) (a1T a1U a1V (show HowsOk tp h1F from (And.intro g6P trivial)) follows a0R) a0Y fun x _ h => ⟨g4F,60,K0,(h5B x).trans h⟩
def pricer_checkReportC : Con := ⟨⟨[.pl a0E,.pl a0I,.pl a0V,.pl (.int .u64)],[]⟩,⟨[.pl (.int .i64)],[]⟩,a4Y⟩
def g9S : List (Nat × How) := [(18,.con pricer_ValidC),(53,.con poster_FindC),(57,.con params_ValidC),(58,.con uint256_BitLenC)]
def f9H : Env := a1S tp tys eqs g9S owns meths
def f8O : a4E := fun p c => match p,c with | [1000000,28],9 => some (.join ⟨(dd 4 (.ptr 0 []::dd 1 (.ptr 1 []::dd 17 (.pl .bool::dd 20 [])))),[.box a0E (.pl a0E),.box a0V (.pl a0V)]⟩) | _,_ => none
theorem h2B : ∀ x,a0X f9H f8O 28 pricer_checkReportC.In pricer_checkReportC.Out 60 K0 x = a4Y x := by intro x; kernel_rfl
theorem h5U : a1K tp 28 pricer_checkReportC := a0H (E := f9H) (a1T a1U a1V (show HowsOk tp g9S from (And.intro g4L (And.intro g4K (And.intro g5U (And.intro h4F trivial))))) follows a0R) a0Y fun x _ h => ⟨f8O,60,K0,(h2B x).trans h⟩
def math_bits_Mul64C : Con := ⟨⟨[.pl (.int .u64),.pl (.int .u64)],[]⟩,⟨[.pl (.int .u64),.pl (.int .u64)],[]⟩,a6O⟩
def g3B : List (Nat × How) := []
def e9Q : Env := a1S tp tys eqs g3B owns meths
def e7C : a4E := fun _ _ => none
theorem g7G : ∀ x,a0X e9Q e7C 102 math_bits_Mul64C.In math_bits_Mul64C.Out 60 K0 x = a6O x := by intro x; kernel_rfl
theorem f5K : a1K tp 102 math_bits_Mul64C := a0H (E := e9Q) (a1T a1U a1V (show HowsOk tp g3B from trivial) follows a0R) a0Y fun x _ h => ⟨e7C,60,K0,(g7G x).trans h⟩
def muldiv_MulC : Con := ⟨⟨[.pl a1C,.pl a1C],[]⟩,⟨[.pl a1C,.pl a1C],[]⟩,b0Y⟩
def f4N : List (Nat × How) := [(26,.con c4N),(102,.con math_bits_Mul64C)]
def e7N : Env := a1S tp tys eqs f4N owns meths
def f0O : a4E := fun p c => match p,c with | [122],0 => some (.tmpl ⟨(dd 2 (.ptr 0 []::.ptr 1 []::.ptr 2 []::.ptr 3 []::.ptr 4 []::dd 6 (.pl (.int .i64)::dd 55 []))),[.box a1C (.pl a1C),.box a1C (.pl a1C),.box a1C (.pl a1C),.box a1C (.pl a1C),.box (.arr 8 (.int .u64)) (.pl (.arr 8 (.int .u64)))]⟩) | [122],2 => some (.tmpl ⟨(dd 2 (.ptr 0 []::.ptr 1 []::.ptr 2 []::.ptr 3 []::.ptr 4 []::.pl (.int .i64)::.pl (.int .u64)::dd 4 (.pl (.int .i64)::dd 2 (.pl (.int .i64)::dd 52 [])))),[.box a1C (.pl a1C),.box a1C (.pl a1C),.box a1C (.pl a1C),.box a1C (.pl a1C),.box (.arr 8 (.int .u64)) (.pl (.arr 8 (.int .u64)))]⟩) | _,_ => none
theorem g5G : ∀ x,a0X e7N f0O 122 muldiv_MulC.In muldiv_MulC.Out 60 K0 x = b0Y x := by intro x; kernel_rfl
theorem g7F : a1K tp 122 muldiv_MulC := a0H (E := e7N) (a1T a1U a1V (show HowsOk tp f4N from (And.intro f6K (And.intro f5K trivial))) follows a0R) a0Y fun x _ h => ⟨f0O,60,K0,(g5G x).trans h⟩
def muldiv_shiftLeftC : Con := ⟨⟨[.pl a1C,.pl (.int .u64)],[]⟩,⟨[.pl a1C,.pl (.int .u64)],[]⟩,a6A⟩
def f4M : List (Nat × How) := []
def e7M : Env := a1S tp tys eqs f4M owns meths
def e8C : a4E := fun p c => match p,c with | [139],0 => some (.tmpl ⟨(dd 1 (.pl (.int .u64)::.ptr 0 []::dd 1 (.ptr 1 []::dd 1 (.pl (.int .u64)::.pl (.int .i64)::dd 27 [])))),[.box a1C (.pl a1C),.box a1C (.pl a1C)]⟩) | _,_ => none
theorem g4X : ∀ x,a0X e7M e8C 139 muldiv_shiftLeftC.In muldiv_shiftLeftC.Out 60 K0 x = a6A x := by intro x; kernel_rfl
theorem g5K : a1K tp 139 muldiv_shiftLeftC := a0H (E := e7M) (a1T a1U a1V (show HowsOk tp f4M from trivial) follows a0R) a0Y fun x _ h => ⟨e8C,60,K0,(g4X x).trans h⟩
theorem g2H : a1K tp 127 d7I := e4A (fn := Tryz.f127) (by kernel_rfl) (by kernel_rfl) (by kernel_rfl) (by kernel_rfl) (by kernel_rfl)
def muldiv_subWrapC : Con := ⟨⟨[.pl a1C,.pl a1C],[]⟩,⟨[.pl a1C],[]⟩,a6H⟩
def f9N : List (Nat × How) := [(127,.con d7I)]
def f0H : Env := a1S tp tys eqs f9N owns meths
def e9B : a4E := fun p c => match p,c with | [140],0 => some (.tmpl ⟨(dd 2 (.ptr 0 []::.ptr 1 []::.ptr 2 []::.pl (.int .u64)::dd 1 (.pl (.int .i64)::dd 17 []))),[.box a1C (.pl a1C),.box a1C (.pl a1C),.box a1C (.pl a1C)]⟩) | _,_ => none
theorem g6W : ∀ x,a0X f0H e9B 140 muldiv_subWrapC.In muldiv_subWrapC.Out 60 K0 x = a6H x := by intro x; kernel_rfl
theorem g5T : a1K tp 140 muldiv_subWrapC := a0H (E := f0H) (a1T a1U a1V (show HowsOk tp f9N from (And.intro g2H trivial)) follows a0R) a0Y fun x _ h => ⟨e9B,60,K0,(g6W x).trans h⟩
def muldiv_Div512C : Con := ⟨⟨[.pl a1C,.pl a1C,.pl a1C],[]⟩,⟨[.pl a1C,.pl a1C,.pl (.int .i64)],[]⟩,a5N⟩
def f6W : List (Nat × How) := [(106,.con uint256_CmpC),(139,.con muldiv_shiftLeftC),(140,.con muldiv_subWrapC)]
def e7S : Env := a1S tp tys eqs f6W owns meths
def e9Z : a4E := fun p c => match p,c with | [1000000,123],13 => some (.join ⟨(dd 3 (.ptr 0 []::dd 1 (.ptr 1 []::.ptr 2 []::.ptr 3 []::dd 1 (.pl (.int .i64)::dd 37 (.pl .bool::dd 14 []))))),[.box a1C (.pl a1C),.box a1C (.pl a1C),.box a1C (.pl a1C),.box a1C (.pl a1C)]⟩) | [123],0 => some (.tmpl ⟨(dd 3 (.ptr 0 []::dd 1 (.ptr 1 []::.ptr 2 []::.ptr 3 []::dd 1 (.pl (.int .i64)::dd 52 [])))),[.box a1C (.pl a1C),.box a1C (.pl a1C),.box a1C (.pl a1C),.box a1C (.pl a1C)]⟩) | _,_ => none
theorem g5V : ∀ x,a0X e7S e9Z 123 muldiv_Div512C.In muldiv_Div512C.Out 60 K0 x = a5N x := by intro x; kernel_rfl
theorem f6Y : a1K tp 123 muldiv_Div512C := a0H (E := e7S) (a1T a1U a1V (show HowsOk tp f6W from (And.intro e6I (And.intro g5K (And.intro g5T trivial)))) follows a0R) a0Y fun x _ h => ⟨e9Z,60,K0,(g5V x).trans h⟩
def muldiv_MulDivFloorC : Con := ⟨⟨[.pl a1C,.pl a1C,.pl a1C],[]⟩,⟨[.pl a1C,.pl (.int .i64)],[]⟩,a4A⟩
def g2Q : List (Nat × How) := [(122,.con muldiv_MulC),(123,.con muldiv_Div512C)]
def f0F : Env := a1S tp tys eqs g2Q owns meths
def e9S : a4E := fun _ _ => none
theorem g6A : ∀ x,a0X f0F e9S 101 muldiv_MulDivFloorC.In muldiv_MulDivFloorC.Out 60 K0 x = a4A x := by intro x; kernel_rfl
theorem g7A : a1K tp 101 muldiv_MulDivFloorC := a0H (E := f0F) (a1T a1U a1V (show HowsOk tp g2Q from (And.intro g7F (And.intro f6Y trivial))) follows a0R) a0Y fun x _ h => ⟨e9S,60,K0,(g6A x).trans h⟩
def alloc_AllocateC : Con := ⟨⟨[.pl (.int .u64),.pl (.int .u64),.pl (.int .u64),.pl (.int .u64)],[]⟩,⟨[.pl (.int .u64),.pl (.int .i64)],[]⟩,a7R⟩
def h1N : List (Nat × How) := [(22,.con uint256_FromUint64C),(101,.con muldiv_MulDivFloorC)]
def f9J : Env := a1S tp tys eqs h1N owns meths
def f8R : a4E := fun p c => match p,c with | [1000000,59],3 => some (.join ⟨(.pl (.int .u64)::.pl (.int .u64)::.pl (.int .u64)::.pl (.int .u64)::dd 8 (.pl .bool::dd 30 [])),[]⟩) | [1000000,59],6 => some (.join ⟨(.pl (.int .u64)::.pl (.int .u64)::.pl (.int .u64)::.pl (.int .u64)::dd 39 []),[]⟩) | _,_ => none
theorem h3A : ∀ x,a0X f9J f8R 59 alloc_AllocateC.In alloc_AllocateC.Out 60 K0 x = a7R x := by intro x; kernel_rfl
theorem h2E : a1K tp 59 alloc_AllocateC := a0H (E := f9J) (a1T a1U a1V (show HowsOk tp h1N from (And.intro e8P (And.intro g7A trivial))) follows a0R) a0Y fun x _ h => ⟨f8R,60,K0,(h3A x).trans h⟩
def uint256_MulC : Con := ⟨⟨[.pl a1C,.pl a1C],[]⟩,⟨[.pl a1C,.pl (.int .i64)],[]⟩,a8O⟩
def g9G : List (Nat × How) := [(26,.con c4N),(102,.con math_bits_Mul64C)]
def f8U : Env := a1S tp tys eqs g9G owns meths
def f7T : a4E := fun p c => match p,c with | [60],0 => some (.tmpl ⟨(dd 2 (.ptr 0 []::.ptr 1 []::.ptr 2 []::dd 1 (.ptr 3 []::dd 6 (.pl (.int .i64)::dd 56 [])))),[.box a1C (.pl a1C),.box a1C (.pl a1C),.box a1C (.pl a1C),.box a1C (.pl a1C)]⟩) | [60],2 => some (.tmpl ⟨(dd 2 (.ptr 0 []::.ptr 1 []::.ptr 2 []::dd 1 (.ptr 3 []::.pl (.int .i64)::.pl (.int .u64)::dd 4 (.pl (.int .i64)::dd 2 (.pl (.int .i64)::dd 53 []))))),[.box a1C (.pl a1C),.box a1C (.pl a1C),.box a1C (.pl a1C),.box a1C (.pl a1C)]⟩) | _,_ => none
theorem h7E : ∀ x,a0X f8U f7T 60 uint256_MulC.In uint256_MulC.Out 60 K0 x = a8O x := by intro x; kernel_rfl
theorem h0C : a1K tp 60 uint256_MulC := a0H (E := f8U) (a1T a1U a1V (show HowsOk tp g9G from (And.intro f6K (And.intro f5K trivial))) follows a0R) a0Y fun x _ h => ⟨f7T,60,K0,(h7E x).trans h⟩
def pricer_allocateC : Con := ⟨⟨[.pl a0E,.pl a0I,.pl a0V,.pl (.int .u64)],[]⟩,⟨[.pl a0Q,.pl (.int .i64)],[]⟩,a6Z⟩
def g8F : List (Nat × How) := [(22,.con uint256_FromUint64C),(59,.con alloc_AllocateC),(60,.con uint256_MulC)]
def f5Y : Env := a1S tp tys eqs g8F owns meths
def f5R : a4E := fun _ _ => none
theorem h2H : ∀ x,a0X f5Y f5R 29 pricer_allocateC.In pricer_allocateC.Out 60 K0 x = a6Z x := by intro x; kernel_rfl
theorem h5C : a1K tp 29 pricer_allocateC := a0H (E := f5Y) (a1T a1U a1V (show HowsOk tp g8F from (And.intro e8P (And.intro h2E (And.intro h0C trivial)))) follows a0R) a0Y fun x _ h => ⟨f5R,60,K0,(h2H x).trans h⟩
def uint256_AddC : Con := ⟨⟨[.pl a1C,.pl a1C],[]⟩,⟨[.pl a1C,.pl (.int .i64)],[]⟩,a1Z⟩
def g9Y : List (Nat × How) := [(26,.con c4N)]
def g1U : Env := a1S tp tys eqs g9Y owns meths
def g0F : a4E := fun p _ => match p with | 1000000::_ => none | _ => some (.unroll 6)
theorem h1Z : ∀ x,a0X g1U g0F 61 uint256_AddC.In uint256_AddC.Out 60 K0 x = a1Z x := by intro x; kernel_rfl
theorem e9R : a1K tp 61 uint256_AddC := a0H (E := g1U) (a1T a1U a1V (show HowsOk tp g9Y from (And.intro f6K trivial)) follows a0R) a0Y fun x _ h => ⟨g0F,60,K0,(h1Z x).trans h⟩
def poster_AccrueC : Con := ⟨⟨[.pl (.sl a0D),.pl (.int .u64),.pl a1C,.pl a1C,.pl (.int .u64)],[]⟩,⟨[.pl (.sl a0D),.pl (.int .i64)],[]⟩,a8N⟩
def g9T : List (Nat × How) := [(47,.con poster_ValidC),(53,.con poster_FindC),(55,.con slices_Clone___api_Poster_api_Poster_C),(61,.con uint256_AddC),(62,.con poster_isZeroC)]
def f9Z : Env := a1S tp tys eqs g9T owns meths
def f5L : a4E := fun p c => match p,c with | [1000000,30],14 => some (.join ⟨(.pl (.sl a0D)::dd 3 (.pl (.int .u64)::dd 7 (.pl (.int .i64)::.ptr 0 []::dd 2 (.ptr 1 []::dd 1 (.ptr 2 []::dd 1 (.ptr 3 []::dd 84 [])))))),[.box a0D (.pl a0D),.box a1C (.pl a1C),.box a1C (.pl a1C),.box a1C (.pl a1C)]⟩) | [1000000,30],16 => some (.join ⟨(.pl (.sl a0D)::dd 11 (.pl (.int .i64)::.ptr 0 []::dd 2 (.ptr 1 []::dd 1 (.ptr 2 []::dd 1 (.ptr 3 []::dd 84 []))))),[.box a0D (.pl a0D),.box a1C (.pl a1C),.box a1C (.pl a1C),.box a1C (.pl a1C)]⟩) | [1000000,30],4 => some (.join ⟨(.pl (.sl a0D)::dd 3 (.pl (.int .u64)::dd 2 (.ptr 0 []::.ptr 1 []::dd 3 (.pl (.int .i64)::dd 13 (.pl .bool::dd 78 []))))),[.box a1C (.pl a1C),.box a1C (.pl a1C)]⟩) | [1000000,30],7 => some (.join ⟨(.pl (.sl a0D)::dd 3 (.pl (.int .u64)::dd 2 (.ptr 0 []::.ptr 1 []::dd 3 (.pl (.int .i64)::dd 92 [])))),[.box a1C (.pl a1C),.box a1C (.pl a1C)]⟩) | _,_ => none
theorem h7F : ∀ x,a0X f9Z f5L 30 poster_AccrueC.In poster_AccrueC.Out 60 K0 x = a8N x := by intro x; kernel_rfl
theorem h4D : a1K tp 30 poster_AccrueC := a0H (E := f9Z) (a1T a1U a1V (show HowsOk tp g9T from (And.intro f4I (And.intro g4K (And.intro g3O (And.intro e9R (And.intro g8C trivial)))))) follows a0R) a0Y fun x _ h => ⟨f5L,60,K0,(h7F x).trans h⟩
def debtqueue_items_LenC : Con := ⟨⟨[.pl (.sl a0Z)],[]⟩,⟨[.pl (.int .i64)],[]⟩,a4L⟩
def f5M : List (Nat × How) := []
def e6X : Env := a1S tp tys eqs f5M owns meths
def e9T : a4E := fun _ _ => none
theorem g6Q : ∀ x,a0X e6X e9T 161 debtqueue_items_LenC.In debtqueue_items_LenC.Out 60 K0 x = a4L x := by intro x; kernel_rfl
theorem g1O : a1K tp 161 debtqueue_items_LenC := a0H (E := e6X) (a1T a1U a1V (show HowsOk tp f5M from trivial) follows a0R) a0Y fun x _ h => ⟨e9T,60,K0,(g6Q x).trans h⟩
def debtqueue_items_LessC : Con := ⟨⟨[.pl (.sl a0Z),.pl (.int .i64),.pl (.int .i64)],[]⟩,⟨[.pl .bool],[]⟩,a1W⟩
def f8X : List (Nat × How) := []
def e9X : Env := a1S tp tys eqs f8X owns meths
def e8Q : a4E := fun _ _ => none
theorem g6G : ∀ x,a0X e9X e8Q 162 debtqueue_items_LessC.In debtqueue_items_LessC.Out 60 K0 x = a1W x := by intro x; kernel_rfl
theorem f5O : a1K tp 162 debtqueue_items_LessC := a0H (E := e9X) (a1T a1U a1V (show HowsOk tp f8X from trivial) follows a0R) a0Y fun x _ h => ⟨e8Q,60,K0,(g6G x).trans h⟩
def container_heap_PushC : Con := ⟨⟨[.iface 148 (.ptr 0 [.fld 0]),.iface 150 (.pl a0Z)],[.box a1G (.pair (.whole 1) (.pl .nil)),.row a0Z]⟩,⟨[],[.box a1G (.pair (.whole 1) (.pl .nil)),.row a0Z]⟩,a4M⟩
def f9I : List (Nat × How) := [(124,.inl),(161,.con debtqueue_items_LenC),(162,.con debtqueue_items_LessC),(163,.inl),(165,.inl)]
def f0D : Env := a1S tp tys eqs f9I owns meths
def e8Y : a4E := fun p c => match p,c with | [124,1,4,103],0 => some (.tmpl ⟨((.iface 148 (.ptr 0 [.fld 0]))::.pl (.int .i64)::dd 33 (.ptr 0 []::[])),[.box a1G ((.pair (.whole 1) (.pl .nil))),.row a0Z]⟩) | _,_ => none
theorem g5Y : ∀ x,a0X f0D e8Y 103 container_heap_PushC.In container_heap_PushC.Out 140 K0 x = a4M x := by intro x; kernel_rfl
theorem g5F : a1K tp 103 container_heap_PushC := a0H (E := f0D) (a1T a1U a1V (show HowsOk tp f9I from (And.intro g1O (And.intro f5O trivial))) follows a0R) a0Y fun x _ h => ⟨e8Y,140,K0,(g5Y x).trans h⟩
def debtqueue_NewC : Con := ⟨⟨[.pl (.sl a0D)],[]⟩,⟨[.ptr 0 []],[.box a1G (.pair (.whole 1) (.pl .nil)),.row a0Z]⟩,a8K⟩
def h1I : List (Nat × How) := [(103,.con container_heap_PushC)]
def g0T : Env := a1S tp tys eqs h1I owns meths
def f7I : a4E := fun p c => match p,c with | [63],0 => some (.tmpl ⟨(dd 3 (.ptr 0 []::dd 4 (.pl (.sl a0D)::.pl (.int .i64)::.pl (.int .i64)::dd 19 []))),[.box a1G ((.pair (.whole 1) (.pl .nil))),.row a0Z]⟩) | _,_ => none
theorem h3M : ∀ x,a0X g0T f7I 63 debtqueue_NewC.In debtqueue_NewC.Out 140 K0 x = a8K x := by intro x; kernel_rfl
theorem h1Y : a1K tp 63 debtqueue_NewC := a0H (E := g0T) (a1T a1U a1V (show HowsOk tp h1I from (And.intro g5F trivial)) follows a0R) a0Y fun x _ h => ⟨f7I,140,K0,(h3M x).trans h⟩
def debtqueue_Queue_LenC : Con := ⟨⟨[.ptr 0 []],[.box a1G (.pair (.whole 1) (.pl .nil)),.row a0Z]⟩,⟨[.pl (.int .i64)],[.box a1G (.pair (.whole 1) (.pl .nil)),.row a0Z]⟩,a8Q⟩
def g3P : List (Nat × How) := []
def e8O : Env := a1S tp tys eqs g3P owns meths
def e8X : a4E := fun _ _ => none
theorem g6M : ∀ x,a0X e8O e8X 125 debtqueue_Queue_LenC.In debtqueue_Queue_LenC.Out 60 K0 x = a8Q x := by intro x; kernel_rfl
theorem g6U : a1K tp 125 debtqueue_Queue_LenC := a0H (E := e8O) (a1T a1U a1V (show HowsOk tp g3P from trivial) follows a0R) a0Y fun x _ h => ⟨e8X,60,K0,(g6M x).trans h⟩
def debtqueue_Queue_PeekC : Con := ⟨⟨[.ptr 0 []],[.box a1G (.pair (.whole 1) (.pl .nil)),.row a0Z]⟩,⟨[.pl a0D,.pl .bool],[.box a1G (.pair (.whole 1) (.pl .nil)),.row a0Z]⟩,a5B⟩
def g0W : List (Nat × How) := [(125,.con debtqueue_Queue_LenC)]
def e8T : Env := a1S tp tys eqs g0W owns meths
def e6V : a4E := fun _ _ => none
theorem g6F : ∀ x,a0X e8T e6V 104 debtqueue_Queue_PeekC.In debtqueue_Queue_PeekC.Out 60 K0 x = a5B x := by intro x; kernel_rfl
theorem g5B : a1K tp 104 debtqueue_Queue_PeekC := a0H (E := e8T) (a1T a1U a1V (show HowsOk tp g0W from (And.intro g6U trivial)) follows a0R) a0Y fun x _ h => ⟨e6V,60,K0,(g6F x).trans h⟩
def debtqueue_Queue_PopC : Con := ⟨⟨[.ptr 0 []],[.box a1G (.pair (.whole 1) (.pl .nil)),.row a0Z]⟩,⟨[.pl a0D,.pl .bool],[.box a1G (.pair (.whole 1) (.pl .nil)),.row a0Z]⟩,a2U⟩
def hw64 : List (Nat × How) := [(104,.con debtqueue_Queue_PeekC),(105,.inl),(126,.inl),(161,.con debtqueue_items_LenC),(162,.con debtqueue_items_LessC),(163,.inl),(164,.inl)]
def f6D : Env := a1S tp tys eqs hw64 owns meths
def f5U : a4E := fun p c => match p,c with | [126,3,2,105,3,4,64],0 => some (.tmpl ⟨((.iface 148 (.ptr 0 [.fld 0]))::.pl (.int .i64)::.pl (.int .i64)::dd 4 (.pl (.int .i64)::dd 40 ((.iface 148 (.ptr 0 [.fld 0]))::dd 16 (.ptr 2 []::dd 1 (.ptr 3 []::.pl .bool::dd 13 (.ptr 0 []::[])))))),[.box a1G ((.pair (.whole 1) (.pl .nil))),.row a0Z,.box a0D (.pl a0D),.box a0D (.pl a0D)]⟩) | _,_ => none
theorem h3B : ∀ x,a0X f6D f5U 64 debtqueue_Queue_PopC.In debtqueue_Queue_PopC.Out 140 K0 x = a2U x := by intro x; kernel_rfl
theorem h5V : a1K tp 64 debtqueue_Queue_PopC := a0H (E := f6D) (a1T a1U a1V (show HowsOk tp hw64 from (And.intro g5B (And.intro g1O (And.intro f5O trivial)))) follows a0R) a0Y fun x _ h => ⟨f5U,140,K0,(h3B x).trans h⟩
def uint256_MinC : Con := ⟨⟨[.pl a1C,.pl (.sl a1C)],[]⟩,⟨[.pl a1C],[]⟩,b0W⟩
def h1K : List (Nat × How) := [(106,.con uint256_CmpC)]
def f9U : Env := a1S tp tys eqs h1K owns meths
def f7A : a4E := fun p c => match p,c with | [65],0 => some (.tmpl ⟨(dd 2 (.ptr 0 []::dd 1 (.ptr 1 []::dd 2 (.pl (.sl a1C)::.pl (.int .i64)::.pl (.int .i64)::dd 10 [])))),[.box a1C (.pl a1C),.box a1C (.pl a1C)]⟩) | _,_ => none
theorem h3J : ∀ x,a0X f9U f7A 65 uint256_MinC.In uint256_MinC.Out 60 K0 x = b0W x := by intro x; kernel_rfl
theorem h6Y : a1K tp 65 uint256_MinC := a0H (E := f9U) (a1T a1U a1V (show HowsOk tp h1K from (And.intro e6I trivial)) follows a0R) a0Y fun x _ h => ⟨f7A,60,K0,(h3J x).trans h⟩
def uint256_SubC : Con := ⟨⟨[.pl a1C,.pl a1C],[]⟩,⟨[.pl a1C,.pl (.int .i64)],[]⟩,a9N⟩
def g0M : List (Nat × How) := [(127,.con d7I)]
def e9L : Env := a1S tp tys eqs g0M owns meths
def f0A : a4E := fun p _ => match p with | 1000000::_ => none | _ => some (.unroll 6)
theorem g7U : ∀ x,a0X e9L f0A 107 uint256_SubC.In uint256_SubC.Out 60 K0 x = a9N x := by intro x; kernel_rfl
theorem g4D : a1K tp 107 uint256_SubC := a0H (E := e9L) (a1T a1U a1V (show HowsOk tp g0M from (And.intro g2H trivial)) follows a0R) a0Y fun x _ h => ⟨f0A,60,K0,(g7U x).trans h⟩
def uint256_SaturatingSubC : Con := ⟨⟨[.pl a1C,.pl a1C],[]⟩,⟨[.pl a1C],[]⟩,a2E⟩
def g9X : List (Nat × How) := [(107,.con uint256_SubC)]
def f8V : Env := a1S tp tys eqs g9X owns meths
def g1X : a4E := fun _ _ => none
theorem h7D : ∀ x,a0X f8V g1X 66 uint256_SaturatingSubC.In uint256_SaturatingSubC.Out 60 K0 x = a2E x := by intro x; kernel_rfl
theorem g4P : a1K tp 66 uint256_SaturatingSubC := a0H (E := f8V) (a1T a1U a1V (show HowsOk tp g9X from (And.intro g4D trivial)) follows a0R) a0Y fun x _ h => ⟨g1X,60,K0,(h7D x).trans h⟩
def payout_PlanC : Con := ⟨⟨[.pl (.sl a0D),.pl a1C],[]⟩,⟨[.pl (.sl a1H),.pl (.int .i64)],[]⟩,b0R⟩
def g9F : List (Nat × How) := [(47,.con poster_ValidC),(63,.con debtqueue_NewC),(64,.con debtqueue_Queue_PopC),(65,.con uint256_MinC),(66,.con uint256_SaturatingSubC)]
def g3U : Env := a1S tp tys eqs g9F owns meths
def f8N : a4E := fun p c => match p,c with | [1000000,31],9 => some (.join ⟨(dd 3 (.ptr 0 []::dd 2 (.whole 1::.ptr 2 []::.ptr 4 []::dd 14 (.pl a1C::.pl a1C::.pl .bool::dd 23 [])))),[.box a1C (.pl a1C),.row a1H,.box a1G ((.pair (.whole 3) (.pl .nil))),.row a0Z,.box a0D (.pl a0D)]⟩) | [31],0 => some (.tmpl ⟨(dd 3 (.ptr 0 []::dd 2 (.whole 1::.ptr 2 []::.ptr 4 []::.pl .bool::dd 39 []))),[.box a1C (.pl a1C),.row a1H,.box a1G ((.pair (.whole 3) (.pl .nil))),.row a0Z,.box a0D (.pl a0D)]⟩) | _,_ => none
theorem h4O : ∀ x,a0X g3U f8N 31 payout_PlanC.In payout_PlanC.Out 60 K0 x = b0R x := by intro x; kernel_rfl
theorem h2A : a1K tp 31 payout_PlanC := a0H (E := g3U) (a1T a1U a1V (show HowsOk tp g9F from (And.intro f4I (And.intro h1Y (And.intro h5V (And.intro h6Y (And.intro g4P trivial)))))) follows a0R) a0Y fun x _ h => ⟨f8N,60,K0,(h4O x).trans h⟩
def poster_SettleC : Con := ⟨⟨[.pl (.sl a0D),.pl (.int .u64),.pl a1C],[]⟩,⟨[.pl (.sl a0D),.pl (.int .i64)],[]⟩,a8L⟩
def g8X : List (Nat × How) := [(47,.con poster_ValidC),(53,.con poster_FindC),(55,.con slices_Clone___api_Poster_api_Poster_C),(61,.con uint256_AddC),(62,.con poster_isZeroC),(107,.con uint256_SubC)]
def f6M : Env := a1S tp tys eqs g8X owns meths
def g0L : a4E := fun p c => match p,c with | [1000000,67],17 => some (.join ⟨(.pl (.sl a0D)::dd 7 (.pl (.int .i64)::.ptr 0 []::dd 51 [])),[.box a0D (.pl a0D)]⟩) | _,_ => none
theorem h7A : ∀ x,a0X f6M g0L 67 poster_SettleC.In poster_SettleC.Out 60 K0 x = a8L x := by intro x; kernel_rfl
theorem h6Q : a1K tp 67 poster_SettleC := a0H (E := f6M) (a1T a1U a1V (show HowsOk tp g8X from (And.intro f4I (And.intro g4K (And.intro g3O (And.intro e9R (And.intro g8C (And.intro g4D trivial))))))) follows a0R) a0Y fun x _ h => ⟨g0L,60,K0,(h7A x).trans h⟩
def payout_ApplyC : Con := ⟨⟨[.pl (.sl a0D),.pl (.sl a1H)],[]⟩,⟨[.pl (.sl a0D),.pl (.int .i64)],[]⟩,a9G⟩
def hw32 : List (Nat × How) := [(55,.con slices_Clone___api_Poster_api_Poster_C),(67,.con poster_SettleC)]
def f4W : Env := a1S tp tys eqs hw32 owns meths
def f6E : a4E := fun p c => match p,c with | [32],0 => some (.tmpl ⟨(dd 6 (.pl (.sl a0D)::dd 5 (.pl (.sl a1H)::.pl (.int .i64)::.pl (.int .i64)::dd 17 []))),[]⟩) | _,_ => none
theorem h4L : ∀ x,a0X f4W f6E 32 payout_ApplyC.In payout_ApplyC.Out 60 K0 x = a9G x := by intro x; kernel_rfl
theorem ok32 : a1K tp 32 payout_ApplyC := a0H (E := f4W) (a1T a1U a1V (show HowsOk tp hw32 from (And.intro g3O (And.intro h6Q trivial))) follows a0R) a0Y fun x _ h => ⟨f6E,60,K0,(h4L x).trans h⟩
def payout_SumC : Con := ⟨⟨[.pl (.sl a1H)],[]⟩,⟨[.pl a1C,.pl (.int .i64)],[]⟩,b2D⟩
def g8O : List (Nat × How) := [(61,.con uint256_AddC)]
def f6R : Env := a1S tp tys eqs g8O owns meths
def g1C : a4E := fun p c => match p,c with | [68],0 => some (.tmpl ⟨(dd 2 (.ptr 0 []::dd 1 (.ptr 1 []::dd 4 (.pl (.sl a1H)::.pl (.int .i64)::.pl (.int .i64)::dd 16 [])))),[.box a1C (.pl a1C),.box a1C (.pl a1C)]⟩) | _,_ => none
theorem h5G : ∀ x,a0X f6R g1C 68 payout_SumC.In payout_SumC.Out 60 K0 x = b2D x := by intro x; kernel_rfl
theorem h3G : a1K tp 68 payout_SumC := a0H (E := f6R) (a1T a1U a1V (show HowsOk tp g8O from (And.intro e9R trivial)) follows a0R) a0Y fun x _ h => ⟨g1C,60,K0,(h5G x).trans h⟩
def poster_TotalDueC : Con := ⟨⟨[.pl (.sl a0D)],[]⟩,⟨[.pl a1C,.pl (.int .i64)],[]⟩,a6U⟩
def h0M : List (Nat × How) := [(47,.con poster_ValidC),(61,.con uint256_AddC)]
def f9D : Env := a1S tp tys eqs h0M owns meths
def f9B : a4E := fun p c => match p,c with | [69],0 => some (.tmpl ⟨(dd 2 (.ptr 0 []::dd 1 (.ptr 1 []::dd 8 (.pl (.sl a0D)::.pl (.int .i64)::.pl (.int .i64)::dd 16 [])))),[.box a1C (.pl a1C),.box a1C (.pl a1C)]⟩) | _,_ => none
theorem h3W : ∀ x,a0X f9D f9B 69 poster_TotalDueC.In poster_TotalDueC.Out 60 K0 x = a6U x := by intro x; kernel_rfl
theorem h4K : a1K tp 69 poster_TotalDueC := a0H (E := f9D) (a1T a1U a1V (show HowsOk tp h0M from (And.intro f4I (And.intro e9R trivial))) follows a0R) a0Y fun x _ h => ⟨f9B,60,K0,(h3W x).trans h⟩
def int256_NewC : Con := ⟨⟨[.pl .bool,.pl a1C],[]⟩,⟨[.pl a0F],[]⟩,a5I⟩
def g1S : List (Nat × How) := []
def e9W : Env := a1S tp tys eqs g1S owns meths
def e9G : a4E := fun _ _ => none
theorem g7J : ∀ x,a0X e9W e9G 128 int256_NewC.In int256_NewC.Out 60 K0 x = a5I x := by intro x; kernel_rfl
theorem e2V : a1K tp 128 int256_NewC := a0H (E := e9W) (a1T a1U a1V (show HowsOk tp g1S from trivial) follows a0R) a0Y fun x _ h => ⟨e9G,60,K0,(g7J x).trans h⟩
def int256_DiffC : Con := ⟨⟨[.pl a1C,.pl a1C],[]⟩,⟨[.pl a0F],[]⟩,b0V⟩
def f6O : List (Nat × How) := [(66,.con uint256_SaturatingSubC),(106,.con uint256_CmpC),(128,.con int256_NewC)]
def e8H : Env := a1S tp tys eqs f6O owns meths
def e7H : a4E := fun _ _ => none
theorem g6T : ∀ x,a0X e8H e7H 108 int256_DiffC.In int256_DiffC.Out 60 K0 x = b0V x := by intro x; kernel_rfl
theorem g0B : a1K tp 108 int256_DiffC := a0H (E := e8H) (a1T a1U a1V (show HowsOk tp f6O from (And.intro g4P (And.intro e6I (And.intro e2V trivial)))) follows a0R) a0Y fun x _ h => ⟨e7H,60,K0,(g6T x).trans h⟩
def l1price_SurplusC : Con := ⟨⟨[.pl a1C,.pl a1C],[]⟩,⟨[.pl a0F],[]⟩,a8E⟩
def g8Y : List (Nat × How) := [(108,.con int256_DiffC)]
def g1N : Env := a1S tp tys eqs g8Y owns meths
def g1G : a4E := fun _ _ => none
theorem h3Y : ∀ x,a0X g1N g1G 70 l1price_SurplusC.In l1price_SurplusC.Out 60 K0 x = a8E x := by intro x; kernel_rfl
theorem h3F : a1K tp 70 l1price_SurplusC := a0H (E := g1N) (a1T a1U a1V (show HowsOk tp g8Y from (And.intro g0B trivial)) follows a0R) a0Y fun x _ h => ⟨g1G,60,K0,(h3Y x).trans h⟩
def int256_NegC : Con := ⟨⟨[.pl a0F],[]⟩,⟨[.pl a0F,.pl (.int .i64)],[]⟩,b0X⟩
def f7C : List (Nat × How) := [(48,.con int256_ValidC),(128,.con int256_NewC)]
def e8N : Env := a1S tp tys eqs f7C owns meths
def e9C : a4E := fun _ _ => none
theorem g5I : ∀ x,a0X e8N e9C 129 int256_NegC.In int256_NegC.Out 60 K0 x = b0X x := by intro x; kernel_rfl
theorem g2J : a1K tp 129 int256_NegC := a0H (E := e8N) (a1T a1U a1V (show HowsOk tp f7C from (And.intro e5I (And.intro e2V trivial))) follows a0R) a0Y fun x _ h => ⟨e9C,60,K0,(g5I x).trans h⟩
def muldiv_DivModC : Con := ⟨⟨[.pl a1C,.pl a1C],[]⟩,⟨[.pl a1C,.pl a1C,.pl (.int .i64)],[]⟩,a8H⟩
def f6P : List (Nat × How) := [(123,.con muldiv_Div512C)]
def f0Q : Env := a1S tp tys eqs f6P owns meths
def e7Z : a4E := fun _ _ => none
theorem g6J : ∀ x,a0X f0Q e7Z 141 muldiv_DivModC.In muldiv_DivModC.Out 60 K0 x = a8H x := by intro x; kernel_rfl
theorem g6V : a1K tp 141 muldiv_DivModC := a0H (E := f0Q) (a1T a1U a1V (show HowsOk tp f6P from (And.intro f6Y trivial)) follows a0R) a0Y fun x _ h => ⟨e7Z,60,K0,(g6J x).trans h⟩
def int256_DivFloorC : Con := ⟨⟨[.pl a0F,.pl a1C],[]⟩,⟨[.pl a0F,.pl (.int .i64)],[]⟩,a3P⟩
def g4B : List (Nat × How) := [(22,.con uint256_FromUint64C),(48,.con int256_ValidC),(61,.con uint256_AddC),(128,.con int256_NewC),(141,.con muldiv_DivModC)]
def e8V : Env := a1S tp tys eqs g4B owns meths
def e7W : a4E := fun p c => match p,c with | [1000000,130],8 => some (.join ⟨(dd 2 (.ptr 0 []::dd 1 (.ptr 1 []::dd 1 (.ptr 2 []::dd 24 (.pl .bool::dd 10 []))))),[.box a0F (.pl a0F),.box a0F (.pl a0F),.box a1C (.pl a1C)]⟩) | _,_ => none
theorem g7P : ∀ x,a0X e8V e7W 130 int256_DivFloorC.In int256_DivFloorC.Out 60 K0 x = a3P x := by intro x; kernel_rfl
theorem g7K : a1K tp 130 int256_DivFloorC := a0H (E := e8V) (a1T a1U a1V (show HowsOk tp g4B from (And.intro e8P (And.intro e5I (And.intro e9R (And.intro e2V (And.intro g6V trivial)))))) follows a0R) a0Y fun x _ h => ⟨e7W,60,K0,(g7P x).trans h⟩
def int256_AddC : Con := ⟨⟨[.pl a0F,.pl a0F],[]⟩,⟨[.pl a0F,.pl (.int .i64)],[]⟩,b5J⟩
def g2T : List (Nat × How) := [(48,.con int256_ValidC),(61,.con uint256_AddC),(108,.con int256_DiffC),(128,.con int256_NewC)]
def f0U : Env := a1S tp tys eqs g2T owns meths
def f0S : a4E := fun p c => match p,c with | [1000000,142],4 => some (.join ⟨(dd 2 (.ptr 0 []::.ptr 1 []::.ptr 2 []::dd 45 [])),[.box a0F (.pl a0F),.box a0F (.pl a0F),.box a0F (.pl a0F)]⟩) | _,_ => none
theorem g7I : ∀ x,a0X f0U f0S 142 int256_AddC.In int256_AddC.Out 60 K0 x = b5J x := by intro x; kernel_rfl
theorem g7T : a1K tp 142 int256_AddC := a0H (E := f0U) (a1T a1U a1V (show HowsOk tp g2T from (And.intro e5I (And.intro e9R (And.intro g0B (And.intro e2V trivial))))) follows a0R) a0Y fun x _ h => ⟨f0S,60,K0,(g7I x).trans h⟩
def int256_SubC : Con := ⟨⟨[.pl a0F,.pl a0F],[]⟩,⟨[.pl a0F,.pl (.int .i64)],[]⟩,a8W⟩
def g1R : List (Nat × How) := [(48,.con int256_ValidC),(129,.con int256_NegC),(142,.con int256_AddC)]
def e8B : Env := a1S tp tys eqs g1R owns meths
def e9K : a4E := fun p c => match p,c with | [1000000,131],5 => some (.join ⟨(dd 2 (.ptr 0 []::dd 1 (.ptr 1 []::dd 1 (.ptr 2 []::dd 19 [])))),[.box a0F (.pl a0F),.box a0F (.pl a0F),.box a0F (.pl a0F)]⟩) | _,_ => none
theorem g7E : ∀ x,a0X e8B e9K 131 int256_SubC.In int256_SubC.Out 60 K0 x = a8W x := by intro x; kernel_rfl
theorem g4U : a1K tp 131 int256_SubC := a0H (E := e8B) (a1T a1U a1V (show HowsOk tp g1R from (And.intro e5I (And.intro g2J (And.intro g7T trivial)))) follows a0R) a0Y fun x _ h => ⟨e9K,60,K0,(g7E x).trans h⟩
def int256_MulC : Con := ⟨⟨[.pl a0F,.pl a0F],[]⟩,⟨[.pl a0F,.pl (.int .i64)],[]⟩,a9S⟩
def f5P : List (Nat × How) := [(48,.con int256_ValidC),(60,.con uint256_MulC),(128,.con int256_NewC)]
def e8A : Env := a1S tp tys eqs f5P owns meths
def e7E : a4E := fun p c => match p,c with | [1000000,132],4 => some (.join ⟨(dd 2 (.ptr 0 []::.ptr 1 []::.ptr 2 []::dd 31 [])),[.box a0F (.pl a0F),.box a0F (.pl a0F),.box a0F (.pl a0F)]⟩) | _,_ => none
theorem g4Y : ∀ x,a0X e8A e7E 132 int256_MulC.In int256_MulC.Out 60 K0 x = a9S x := by intro x; kernel_rfl
theorem g5J : a1K tp 132 int256_MulC := a0H (E := e8A) (a1T a1U a1V (show HowsOk tp f5P from (And.intro e5I (And.intro h0C (And.intro e2V trivial)))) follows a0R) a0Y fun x _ h => ⟨e7E,60,K0,(g4Y x).trans h⟩
def uint256_maxValueC : Con := ⟨⟨[],[]⟩,⟨[.pl a1C],[]⟩,b2Y⟩
def f5N : List (Nat × How) := []
def e9A : Env := a1S tp tys eqs f5N owns meths
def e9J : a4E := fun _ _ => none
theorem g6Y : ∀ x,a0X e9A e9J 143 uint256_maxValueC.In uint256_maxValueC.Out 60 K0 x = b2Y x := by intro x; kernel_rfl
theorem g6L : a1K tp 143 uint256_maxValueC := a0H (E := e9A) (a1T a1U a1V (show HowsOk tp f5N from trivial) follows a0R) a0Y fun x _ h => ⟨e9J,60,K0,(g6Y x).trans h⟩
def uint256_SaturatingAddC : Con := ⟨⟨[.pl a1C,.pl a1C],[]⟩,⟨[.pl a1C],[]⟩,a4O⟩
def g0Q : List (Nat × How) := [(61,.con uint256_AddC),(143,.con uint256_maxValueC)]
def e7U : Env := a1S tp tys eqs g0Q owns meths
def e7T : a4E := fun _ _ => none
theorem g5H : ∀ x,a0X e7U e7T 133 uint256_SaturatingAddC.In uint256_SaturatingAddC.Out 60 K0 x = a4O x := by intro x; kernel_rfl
theorem g6N : a1K tp 133 uint256_SaturatingAddC := a0H (E := e7U) (a1T a1U a1V (show HowsOk tp g0Q from (And.intro e9R (And.intro g6L trivial))) follows a0R) a0Y fun x _ h => ⟨e7T,60,K0,(g5H x).trans h⟩
def l1price_DeltaC : Con := ⟨⟨[.pl a0F,.pl a0F,.pl (.int .u64),.pl a0I],[]⟩,⟨[.pl a0F,.pl (.int .i64)],[]⟩,a8M⟩
def f6N : List (Nat × How) := [(22,.con uint256_FromUint64C),(48,.con int256_ValidC),(57,.con params_ValidC),(129,.con int256_NegC),(130,.con int256_DivFloorC),(131,.con int256_SubC),(132,.con int256_MulC),(133,.con uint256_SaturatingAddC)]
def f0R : Env := a1S tp tys eqs f6N owns meths
def e7K : a4E := fun p c => match p,c with | [1000000,109],6 => some (.join ⟨(dd 2 (.pl (.int .u64)::dd 1 (.ptr 0 []::.ptr 1 []::dd 1 (.ptr 2 []::.ptr 3 []::dd 96 [])))),[.box a0F (.pl a0F),.box a0F (.pl a0F),.box a0I (.pl a0I),.box a0F (.pl a0F)]⟩) | _,_ => none
theorem g8B : ∀ x,a0X f0R e7K 109 l1price_DeltaC.In l1price_DeltaC.Out 60 K0 x = a8M x := by intro x; kernel_rfl
theorem g5M : a1K tp 109 l1price_DeltaC := a0H (E := f0R) (a1T a1U a1V (show HowsOk tp f6N from (And.intro e8P (And.intro e5I (And.intro g5U (And.intro g2J (And.intro g7K (And.intro g4U (And.intro g5J (And.intro g6N trivial))))))))) follows a0R) a0Y fun x _ h => ⟨e7K,60,K0,(g8B x).trans h⟩
def int256_AddClampedC : Con := ⟨⟨[.pl a1C,.pl a0F],[]⟩,⟨[.pl a1C,.pl (.int .i64)],[]⟩,a6N⟩
def g3H : List (Nat × How) := [(48,.con int256_ValidC),(61,.con uint256_AddC),(66,.con uint256_SaturatingSubC)]
def f0N : Env := a1S tp tys eqs g3H owns meths
def e8F : a4E := fun _ _ => none
theorem g7L : ∀ x,a0X f0N e8F 110 int256_AddClampedC.In int256_AddClampedC.Out 60 K0 x = a6N x := by intro x; kernel_rfl
theorem g6D : a1K tp 110 int256_AddClampedC := a0H (E := f0N) (a1T a1U a1V (show HowsOk tp g3H from (And.intro e5I (And.intro e9R (And.intro g4P trivial)))) follows a0R) a0Y fun x _ h => ⟨e8F,60,K0,(g7L x).trans h⟩
def l1price_NextC : Con := ⟨⟨[.pl a1C,.pl a0F,.pl a0F,.pl (.int .u64),.pl a0I],[]⟩,⟨[.pl a1C,.pl (.int .i64)],[]⟩,a9B⟩
def h1Q : List (Nat × How) := [(48,.con int256_ValidC),(57,.con params_ValidC),(109,.con l1price_DeltaC),(110,.con int256_AddClampedC)]
def f5B : Env := a1S tp tys eqs h1Q owns meths
def f4Q : a4E := fun p c => match p,c with | [1000000,71],5 => some (.join ⟨(dd 3 (.pl (.int .u64)::dd 1 (.ptr 0 []::.ptr 1 []::.ptr 2 []::dd 1 (.ptr 3 []::.ptr 4 []::dd 8 (.pl .bool::dd 30 []))))),[.box a1C (.pl a1C),.box a0F (.pl a0F),.box a0F (.pl a0F),.box a0I (.pl a0I),.box a1C (.pl a1C)]⟩) | [1000000,71],8 => some (.join ⟨(dd 3 (.pl (.int .u64)::dd 1 (.ptr 0 []::.ptr 1 []::.ptr 2 []::dd 1 (.ptr 3 []::.ptr 4 []::dd 39 [])))),[.box a1C (.pl a1C),.box a0F (.pl a0F),.box a0F (.pl a0F),.box a0I (.pl a0I),.box a1C (.pl a1C)]⟩) | _,_ => none
theorem h2L : ∀ x,a0X f5B f4Q 71 l1price_NextC.In l1price_NextC.Out 60 K0 x = a9B x := by intro x; kernel_rfl
theorem h4H : a1K tp 71 l1price_NextC := a0H (E := f5B) (a1T a1U a1V (show HowsOk tp h1Q from (And.intro e5I (And.intro g5U (And.intro g5M (And.intro g6D trivial))))) follows a0R) a0Y fun x _ h => ⟨f4Q,60,K0,(h2L x).trans h⟩
def pricer_adjustC : Con := ⟨⟨[.pl a0E,.pl a0I,.pl a1C,.pl a0Q],[]⟩,⟨[.pl a0E,.pl (.int .i64)],[]⟩,a8J⟩
def h1J : List (Nat × How) := [(66,.con uint256_SaturatingSubC),(68,.con payout_SumC),(69,.con poster_TotalDueC),(70,.con l1price_SurplusC),(71,.con l1price_NextC)]
def f8C : Env := a1S tp tys eqs h1J owns meths
def f4K : a4E := fun _ _ => none
theorem h2R : ∀ x,a0X f8C f4K 33 pricer_adjustC.In pricer_adjustC.Out 60 K0 x = a8J x := by intro x; kernel_rfl
theorem h4Q : a1K tp 33 pricer_adjustC := a0H (E := f8C) (a1T a1U a1V (show HowsOk tp h1J from (And.intro g4P (And.intro h3G (And.intro h4K (And.intro h3F (And.intro h4H trivial)))))) follows a0R) a0Y fun x _ h => ⟨f4K,60,K0,(h2R x).trans h⟩
def pricer_ReportC : Con := ⟨⟨[.pl a0E,.pl a0I,.pl a1C,.pl a0V,.pl (.int .u64)],[]⟩,⟨[.pl a0E,.pl a0Q,.pl (.int .i64)],[]⟩,a6C⟩
def g9I : List (Nat × How) := [(28,.con pricer_checkReportC),(29,.con pricer_allocateC),(30,.con poster_AccrueC),(31,.con payout_PlanC),(32,.con payout_ApplyC),(33,.con pricer_adjustC)]
def f7F : Env := a1S tp tys eqs g9I owns meths
def f8J : a4E := fun p c => match p,c with | [1000000,14],11 => some (.join ⟨(dd 5 (.ptr 0 []::.ptr 1 []::.ptr 2 []::.ptr 3 []::dd 1 (.ptr 4 []::.ptr 5 []::dd 2 (.ptr 6 []::.pl (.int .i64)::dd 86 [])))),[.box a0E (.pl a0E),.box a0I (.pl a0I),.box a1C (.pl a1C),.box a0V (.pl a0V),.box a0E (.pl a0E),.box a0Q (.pl a0Q),.box a0Q (.pl a0Q)]⟩) | [1000000,14],13 => some (.join ⟨(dd 5 (.ptr 0 []::.ptr 1 []::.ptr 2 []::.ptr 3 []::dd 1 (.ptr 4 []::.ptr 5 []::dd 2 (.ptr 6 []::.pl (.int .i64)::dd 86 [])))),[.box a0E (.pl a0E),.box a0I (.pl a0I),.box a1C (.pl a1C),.box a0V (.pl a0V),.box a0E (.pl a0E),.box a0Q (.pl a0Q),.box a0Q (.pl a0Q)]⟩) | [1000000,14],15 => some (.join ⟨(dd 5 (.ptr 0 []::dd 2 (.ptr 1 []::dd 1 (.ptr 2 []::.ptr 3 []::dd 2 (.ptr 4 []::.pl (.int .i64)::dd 86 []))))),[.box a0E (.pl a0E),.box a0V (.pl a0V),.box a0E (.pl a0E),.box a0Q (.pl a0Q),.box a0Q (.pl a0Q)]⟩) | [1000000,14],9 => some (.join ⟨(dd 5 (.ptr 0 []::.ptr 1 []::.ptr 2 []::.ptr 3 []::dd 1 (.ptr 4 []::.ptr 5 []::dd 2 (.ptr 6 []::.pl (.int .i64)::dd 86 [])))),[.box a0E (.pl a0E),.box a0I (.pl a0I),.box a1C (.pl a1C),.box a0V (.pl a0V),.box a0E (.pl a0E),.box a0Q (.pl a0Q),.box a0Q (.pl a0Q)]⟩) | _,_ => none
theorem h2G : ∀ x,a0X f7F f8J 14 pricer_ReportC.In pricer_ReportC.Out 60 K0 x = a6C x := by intro x; kernel_rfl
theorem g8Z : a1K tp 14 pricer_ReportC := a0H (E := f7F) (a1T a1U a1V (show HowsOk tp g9I from (And.intro h5U (And.intro h5C (And.intro h4D (And.intro h2A (And.intro ok32 (And.intro h4Q trivial))))))) follows a0R) a0Y fun x _ h => ⟨f8J,60,K0,(h2G x).trans h⟩
def pontagelaw21_awakeC : Con := ⟨⟨[],[]⟩,⟨[.pl .bool],[]⟩,a4X⟩
def hw5 : List (Nat × How) := [(7,.con params_GenesisC),(8,.con pricer_GenesisC),(10,.con pricer_AddPosterC),(14,.con pricer_ReportC)]
def g8M : Env := a1S tp tys eqs hw5 owns meths
def g8S : a4E := fun _ _ => none
theorem ev5 : ∀ x,a0X g8M g8S 5 pontagelaw21_awakeC.In pontagelaw21_awakeC.Out 160 K0 x = a4X x := by intro x; kernel_rfl
theorem ok5 : a1K tp 5 pontagelaw21_awakeC := a0H (E := g8M) (a1T a1U a1V (show HowsOk tp hw5 from (And.intro ok7 (And.intro ok8 (And.intro g9V (And.intro g8Z trivial))))) follows a0R) a0Y fun x _ h => ⟨g8S,160,K0,(ev5 x).trans h⟩
def pontagelaw14_ValidParamsC : Con := ⟨⟨[.pl (.arr 8 (.int .u64))],[]⟩,⟨[.pl a0I],[]⟩,a3K⟩
def hw6 : List (Nat × How) := [(7,.con params_GenesisC)]
def g8L : Env := a1S tp tys eqs hw6 owns meths
def h0X : a4E := fun _ _ => none
theorem ev6 : ∀ x,a0X g8L h0X 6 pontagelaw14_ValidParamsC.In pontagelaw14_ValidParamsC.Out 160 K0 x = a3K x := by intro x; kernel_rfl
theorem ok6 : a1K tp 6 pontagelaw14_ValidParamsC := a0H (E := g8L) (a1T a1U a1V (show HowsOk tp hw6 from (And.intro ok7 trivial)) follows a0R) a0Y fun x _ h => ⟨h0X,160,K0,(ev6 x).trans h⟩
def pontagelaw0_ModC : Con := ⟨⟨[.pl (.int .i64),.pl (.int .i64)],[]⟩,⟨[.pl (.int .i64)],[]⟩,a9M⟩
def g9C : List (Nat × How) := []
def f5Z : Env := a1S tp tys eqs g9C owns meths
def f7N : a4E := fun _ _ => none
theorem h5N : ∀ x,a0X f5Z f7N 23 pontagelaw0_ModC.In pontagelaw0_ModC.Out 160 K0 x = a9M x := by intro x; kernel_rfl
theorem h4B : a1K tp 23 pontagelaw0_ModC := a0H (E := f5Z) (a1T a1U a1V (show HowsOk tp g9C from trivial) follows a0R) a0Y fun x _ h => ⟨f7N,160,K0,(h5N x).trans h⟩
def pontageref1_normC : Con := ⟨⟨[.pl (.sl (.int .i64))],[]⟩,⟨[.pl (.sl (.int .i64))],[]⟩,a4H⟩
def g2S : List (Nat × How) := []
def e9V : Env := a1S tp tys eqs g2S owns meths
def f0V : a4E := fun p c => match p,c with | [113],0 => some (.tmpl ⟨(.pl (.sl (.int .i64))::dd 2 (.pl (.int .i64)::dd 17 [])),[]⟩) | _,_ => none
theorem g5N : ∀ x,a0X e9V f0V 113 pontageref1_normC.In pontageref1_normC.Out 60 K0 x = a4H x := by intro x; kernel_rfl
theorem f1E : a1K tp 113 pontageref1_normC := a0H (E := e9V) (a1T a1U a1V (show HowsOk tp g2S from trivial) follows a0R) a0Y fun x _ h => ⟨f0V,60,K0,(g5N x).trans h⟩
def pontageref1_FromUint256C : Con := ⟨⟨[.pl a1C],[]⟩,⟨[.pl (.sl (.int .i64))],[]⟩,a0K⟩
def h0Q : List (Nat × How) := [(113,.con pontageref1_normC)]
def g2X : Env := a1S tp tys eqs h0Q owns meths
def f6Q : a4E := fun p c => match p,c with | [79],0 => some (.tmpl ⟨(dd 1 (.ptr 0 []::dd 1 (.whole 1::.pl (.int .i64)::dd 21 []))),[.box a1C (.pl a1C),.row (.int .i64)]⟩) | _,_ => none
theorem h3Q : ∀ x,a0X g2X f6Q 79 pontageref1_FromUint256C.In pontageref1_FromUint256C.Out 60 K0 x = a0K x := by intro x; kernel_rfl
theorem d9R : a1K tp 79 pontageref1_FromUint256C := a0H (E := g2X) (a1T a1U a1V (show HowsOk tp h0Q from (And.intro f1E trivial)) follows a0R) a0Y fun x _ h => ⟨f6Q,60,K0,(h3Q x).trans h⟩
def pontageref1_AddC : Con := ⟨⟨[.pl (.sl (.int .i64)),.pl (.sl (.int .i64))],[]⟩,⟨[.pl (.sl (.int .i64))],[]⟩,a2G⟩
def h0J : List (Nat × How) := []
def g3Z : Env := a1S tp tys eqs h0J owns meths
def g0G : a4E := fun p c => match p,c with | [1000000,80],7 => some (.join ⟨(.pl (.sl (.int .i64))::.pl (.sl (.int .i64))::dd 3 (.whole 0::.pl (.int .i64)::.pl (.int .i64)::dd 44 [])),[.row (.int .i64)]⟩) | [1000000,80],9 => some (.join ⟨(.pl (.sl (.int .i64))::.pl (.sl (.int .i64))::dd 3 (.whole 0::.pl (.int .i64)::.pl (.int .i64)::dd 44 [])),[.row (.int .i64)]⟩) | [80],0 => some (.tmpl ⟨(.pl (.sl (.int .i64))::.pl (.sl (.int .i64))::dd 3 (.whole 0::.pl (.int .i64)::.pl (.int .i64)::dd 44 [])),[.row (.int .i64)]⟩) | _,_ => none
theorem h6H : ∀ x,a0X g3Z g0G 80 pontageref1_AddC.In pontageref1_AddC.Out 60 K0 x = a2G x := by intro x; kernel_rfl
theorem e6W : a1K tp 80 pontageref1_AddC := a0H (E := g3Z) (a1T a1U a1V (show HowsOk tp h0J from trivial) follows a0R) a0Y fun x _ h => ⟨g0G,60,K0,(h6H x).trans h⟩
def pontageref1_IsZeroC : Con := ⟨⟨[.pl a1C],[]⟩,⟨[.pl .bool],[]⟩,a3J⟩
def g8W : List (Nat × How) := []
def f4S : Env := a1S tp tys eqs g8W owns meths
def f7K : a4E := fun _ _ => none
theorem h2T : ∀ x,a0X f4S f7K 82 pontageref1_IsZeroC.In pontageref1_IsZeroC.Out 60 K0 x = a3J x := by intro x; kernel_rfl
theorem g4N : a1K tp 82 pontageref1_IsZeroC := a0H (E := f4S) (a1T a1U a1V (show HowsOk tp g8W from trivial) follows a0R) a0Y fun x _ h => ⟨f7K,60,K0,(h2T x).trans h⟩
def pontageref1_CmpC : Con := ⟨⟨[.pl (.sl (.int .i64)),.pl (.sl (.int .i64))],[]⟩,⟨[.pl (.int .i64)],[]⟩,a3Q⟩
def g8P : List (Nat × How) := []
def f7Z : Env := a1S tp tys eqs g8P owns meths
def g3I : a4E := fun p c => match p,c with | [87],0 => some (.tmpl ⟨(.pl (.sl (.int .i64))::.pl (.sl (.int .i64))::dd 3 (.pl (.int .i64)::dd 35 [])),[]⟩) | _,_ => none
theorem h7H : ∀ x,a0X f7Z g3I 87 pontageref1_CmpC.In pontageref1_CmpC.Out 60 K0 x = a3Q x := by intro x; kernel_rfl
theorem f9V : a1K tp 87 pontageref1_CmpC := a0H (E := f7Z) (a1T a1U a1V (show HowsOk tp g8P from trivial) follows a0R) a0Y fun x _ h => ⟨g3I,60,K0,(h7H x).trans h⟩
def pontageref16_ValidPosterC : Con := ⟨⟨[.pl a0D],[]⟩,⟨[.pl .bool],[]⟩,a4R⟩
def h1X : List (Nat × How) := [(79,.con pontageref1_FromUint256C),(80,.con pontageref1_AddC),(82,.con pontageref1_IsZeroC),(87,.con pontageref1_CmpC)]
def g2N : Env := a1S tp tys eqs h1X owns meths
def g2E : a4E := fun _ _ => none
theorem h3T : ∀ x,a0X g2N g2E 94 pontageref16_ValidPosterC.In pontageref16_ValidPosterC.Out 60 K0 x = a4R x := by intro x; kernel_rfl
theorem h5E : a1K tp 94 pontageref16_ValidPosterC := a0H (E := g2N) (a1T a1U a1V (show HowsOk tp h1X from (And.intro d9R (And.intro e6W (And.intro g4N (And.intro f9V trivial))))) follows a0R) a0Y fun x _ h => ⟨g2E,60,K0,(h3T x).trans h⟩
def pontageref16_ValidC : Con := ⟨⟨[.pl (.sl a0D)],[]⟩,⟨[.pl .bool],[]⟩,a2Y⟩
def h1V : List (Nat × How) := [(94,.con pontageref16_ValidPosterC)]
def g2P : Env := a1S tp tys eqs h1V owns meths
def g0C : a4E := fun p c => match p,c with | [51],0 => some (.tmpl ⟨(.pl (.sl a0D)::dd 2 (.pl (.int .i64)::dd 33 [])),[]⟩) | _,_ => none
theorem h2J : ∀ x,a0X g2P g0C 51 pontageref16_ValidC.In pontageref16_ValidC.Out 60 K0 x = a2Y x := by intro x; kernel_rfl
theorem f4G : a1K tp 51 pontageref16_ValidC := a0H (E := g2P) (a1T a1U a1V (show HowsOk tp h1V from (And.intro h5E trivial)) follows a0R) a0Y fun x _ h => ⟨g0C,60,K0,(h2J x).trans h⟩
def pontageref3_ValidC : Con := ⟨⟨[.pl a0F],[]⟩,⟨[.pl .bool],[]⟩,a3E⟩
def g9Q : List (Nat × How) := [(82,.con pontageref1_IsZeroC)]
def f7H : Env := a1S tp tys eqs g9Q owns meths
def f5Q : a4E := fun _ _ => none
theorem h5K : ∀ x,a0X f7H f5Q 52 pontageref3_ValidC.In pontageref3_ValidC.Out 60 K0 x = a3E x := by intro x; kernel_rfl
theorem g4O : a1K tp 52 pontageref3_ValidC := a0H (E := f7H) (a1T a1U a1V (show HowsOk tp g9Q from (And.intro g4N trivial)) follows a0R) a0Y fun x _ h => ⟨f5Q,60,K0,(h5K x).trans h⟩
def pontageref21_ValidC : Con := ⟨⟨[.pl a0E],[]⟩,⟨[.pl .bool],[]⟩,a3W⟩
def h1T : List (Nat × How) := [(51,.con pontageref16_ValidC),(52,.con pontageref3_ValidC)]
def f7S : Env := a1S tp tys eqs h1T owns meths
def f6J : a4E := fun p c => match p,c with | [1000000,21],4 => some (.join ⟨(dd 1 (.ptr 0 []::dd 28 [])),[.box a0E (.pl a0E)]⟩) | [21],0 => some (.tmpl ⟨(dd 1 (.ptr 0 []::dd 1 (.pl (.int .i64)::dd 26 []))),[.box a0E (.pl a0E)]⟩) | _,_ => none
theorem h4Y : ∀ x,a0X f7S f6J 21 pontageref21_ValidC.In pontageref21_ValidC.Out 60 K0 x = a3W x := by intro x; kernel_rfl
theorem g4I : a1K tp 21 pontageref21_ValidC := a0H (E := f7S) (a1T a1U a1V (show HowsOk tp h1T from (And.intro f4G (And.intro g4O trivial))) follows a0R) a0Y fun x _ h => ⟨f6J,60,K0,(h4Y x).trans h⟩
def pontageref16_FindC : Con := ⟨⟨[.pl (.sl a0D),.pl (.int .u64)],[]⟩,⟨[.pl (.int .i64)],[]⟩,a3S⟩
def h0I : List (Nat × How) := []
def g2B : Env := a1S tp tys eqs h0I owns meths
def f5C : a4E := fun p c => match p,c with | [56],0 => some (.tmpl ⟨(.pl (.sl a0D)::.pl (.int .u64)::dd 3 (.pl (.int .i64)::dd 14 [])),[]⟩) | _,_ => none
theorem h2N : ∀ x,a0X g2B f5C 56 pontageref16_FindC.In pontageref16_FindC.Out 60 K0 x = a3S x := by intro x; kernel_rfl
theorem f7G : a1K tp 56 pontageref16_FindC := a0H (E := g2B) (a1T a1U a1V (show HowsOk tp h0I from trivial) follows a0R) a0Y fun x _ h => ⟨f5C,60,K0,(h2N x).trans h⟩
def pontageref16_AddC : Con := ⟨⟨[.pl (.sl a0D),.pl (.int .u64)],[]⟩,⟨[.pl (.sl a0D),.pl (.int .i64)],[]⟩,a4G⟩
def h1R : List (Nat × How) := [(51,.con pontageref16_ValidC),(56,.con pontageref16_FindC)]
def f6F : Env := a1S tp tys eqs h1R owns meths
def g3G : a4E := fun p c => match p,c with | [1000000,25],14 => some (.join ⟨(.pl (.sl a0D)::.pl (.int .u64)::dd 4 (.whole 0::.pl .bool::.pl (.int .i64)::dd 30 (.pl .bool::dd 20 []))),[.row a0D]⟩) | [1000000,25],4 => some (.join ⟨(.pl (.sl a0D)::.pl (.int .u64)::dd 58 []),[]⟩) | [25],0 => some (.tmpl ⟨(.pl (.sl a0D)::.pl (.int .u64)::dd 4 (.whole 0::.pl .bool::.pl (.int .i64)::dd 51 [])),[.row a0D]⟩) | _,_ => none
theorem h4Z : ∀ x,a0X f6F g3G 25 pontageref16_AddC.In pontageref16_AddC.Out 60 K0 x = a4G x := by intro x; kernel_rfl
theorem g5W : a1K tp 25 pontageref16_AddC := a0H (E := f6F) (a1T a1U a1V (show HowsOk tp h1R from (And.intro f4G (And.intro f7G trivial))) follows a0R) a0Y fun x _ h => ⟨g3G,60,K0,(h4Z x).trans h⟩
def pontageref21_AddPosterC : Con := ⟨⟨[.pl a0E,.pl (.int .u64)],[]⟩,⟨[.pl a0E,.pl (.int .i64)],[]⟩,a5F⟩
def h1S : List (Nat × How) := [(21,.con pontageref21_ValidC),(25,.con pontageref16_AddC)]
def f8H : Env := a1S tp tys eqs h1S owns meths
def f4P : a4E := fun _ _ => none
theorem h6C : ∀ x,a0X f8H f4P 11 pontageref21_AddPosterC.In pontageref21_AddPosterC.Out 60 K0 x = a5F x := by intro x; kernel_rfl
theorem h4X : a1K tp 11 pontageref21_AddPosterC := a0H (E := f8H) (a1T a1U a1V (show HowsOk tp h1S from (And.intro g4I (And.intro g5W trivial))) follows a0R) a0Y fun x _ h => ⟨f4P,60,K0,(h6C x).trans h⟩
def pricer_clonedC : Con := ⟨⟨[.pl a0E],[]⟩,⟨[.pl a0E],[]⟩,b1M⟩
def h1A : List (Nat × How) := [(55,.con slices_Clone___api_Poster_api_Poster_C)]
def g1H : Env := a1S tp tys eqs h1A owns meths
def g3J : a4E := fun _ _ => none
theorem h3R : ∀ x,a0X g1H g3J 27 pricer_clonedC.In pricer_clonedC.Out 60 K0 x = b1M x := by intro x; kernel_rfl
theorem h2P : a1K tp 27 pricer_clonedC := a0H (E := g1H) (a1T a1U a1V (show HowsOk tp h1A from (And.intro g3O trivial)) follows a0R) a0Y fun x _ h => ⟨g3J,60,K0,(h3R x).trans h⟩
def pricer_AddUnitsC : Con := ⟨⟨[.pl a0E,.pl (.int .u64)],[]⟩,⟨[.pl a0E,.pl (.int .i64)],[]⟩,a9D⟩
def h0H : List (Nat × How) := [(18,.con pricer_ValidC),(26,.con c4N),(27,.con pricer_clonedC)]
def g2V : Env := a1S tp tys eqs h0H owns meths
def g3V : a4E := fun _ _ => none
theorem h2S : ∀ x,a0X g2V g3V 12 pricer_AddUnitsC.In pricer_AddUnitsC.Out 60 K0 x = a9D x := by intro x; kernel_rfl
theorem h3X : a1K tp 12 pricer_AddUnitsC := a0H (E := g2V) (a1T a1U a1V (show HowsOk tp h0H from (And.intro g4L (And.intro f6K (And.intro h2P trivial)))) follows a0R) a0Y fun x _ h => ⟨g3V,60,K0,(h2S x).trans h⟩
def pontageref21_AddUnitsC : Con := ⟨⟨[.pl a0E,.pl (.int .u64)],[]⟩,⟨[.pl a0E,.pl (.int .i64)],[]⟩,a5T⟩
def h1O : List (Nat × How) := [(21,.con pontageref21_ValidC)]
def f7X : Env := a1S tp tys eqs h1O owns meths
def f9C : a4E := fun _ _ => none
theorem h6J : ∀ x,a0X f7X f9C 13 pontageref21_AddUnitsC.In pontageref21_AddUnitsC.Out 60 K0 x = a5T x := by intro x; kernel_rfl
theorem h6L : a1K tp 13 pontageref21_AddUnitsC := a0H (E := f7X) (a1T a1U a1V (show HowsOk tp h1O from (And.intro g4I trivial)) follows a0R) a0Y fun x _ h => ⟨f9C,60,K0,(h6J x).trans h⟩
def pontageref12_inC : Con := ⟨⟨[.pl (.int .u64),.pl (.int .u64),.pl (.int .u64)],[]⟩,⟨[.pl .bool],[]⟩,a2T⟩
def g0V : List (Nat × How) := []
def e8R : Env := a1S tp tys eqs g0V owns meths
def e9D : a4E := fun _ _ => none
theorem g5D : ∀ x,a0X e8R e9D 134 pontageref12_inC.In pontageref12_inC.Out 60 K0 x = a2T x := by intro x; kernel_rfl
theorem g7X : a1K tp 134 pontageref12_inC := a0H (E := e8R) (a1T a1U a1V (show HowsOk tp g0V from trivial) follows a0R) a0Y fun x _ h => ⟨e9D,60,K0,(g5D x).trans h⟩
def pontageref1_Uint64C : Con := ⟨⟨[.pl a1C],[]⟩,⟨[.pl (.int .u64),.pl .bool],[]⟩,a7D⟩
def f8T : List (Nat × How) := []
def f0B : Env := a1S tp tys eqs f8T owns meths
def f0I : a4E := fun _ _ => none
theorem g4T : ∀ x,a0X f0B f0I 144 pontageref1_Uint64C.In pontageref1_Uint64C.Out 60 K0 x = a7D x := by intro x; kernel_rfl
theorem g6E : a1K tp 144 pontageref1_Uint64C := a0H (E := f0B) (a1T a1U a1V (show HowsOk tp f8T from trivial) follows a0R) a0Y fun x _ h => ⟨f0I,60,K0,(g4T x).trans h⟩
def pontageref12_atLeastC : Con := ⟨⟨[.pl a1C,.pl (.int .u64)],[]⟩,⟨[.pl .bool],[]⟩,a3U⟩
def f5F : List (Nat × How) := [(144,.con pontageref1_Uint64C)]
def e9F : Env := a1S tp tys eqs f5F owns meths
def e7A : a4E := fun _ _ => none
theorem g7R : ∀ x,a0X e9F e7A 135 pontageref12_atLeastC.In pontageref12_atLeastC.Out 60 K0 x = a3U x := by intro x; kernel_rfl
theorem g6C : a1K tp 135 pontageref12_atLeastC := a0H (E := e9F) (a1T a1U a1V (show HowsOk tp f5F from (And.intro g6E trivial)) follows a0R) a0Y fun x _ h => ⟨e7A,60,K0,(g7R x).trans h⟩
def pontageref12_FirstInvalidC : Con := ⟨⟨[.pl a0I],[]⟩,⟨[.pl (.int .i64)],[]⟩,a4D⟩
def g2C : List (Nat × How) := [(134,.con pontageref12_inC),(135,.con pontageref12_atLeastC)]
def e8I : Env := a1S tp tys eqs g2C owns meths
def e9N : a4E := fun p _ => match p with | 1000000::_ => none | _ => some (.unroll 14)
theorem g6S : ∀ x,a0X e8I e9N 111 pontageref12_FirstInvalidC.In pontageref12_FirstInvalidC.Out 90 K0 x = a4D x := by intro x; kernel_rfl
theorem g5C : a1K tp 111 pontageref12_FirstInvalidC := a0H (E := e8I) (a1T a1U a1V (show HowsOk tp g2C from (And.intro g7X (And.intro g6C trivial))) follows a0R) a0Y fun x _ h => ⟨e9N,90,K0,(g6S x).trans h⟩
def pontageref12_ValidC : Con := ⟨⟨[.pl a0I],[]⟩,⟨[.pl .bool],[]⟩,a4U⟩
def g8N : List (Nat × How) := [(111,.con pontageref12_FirstInvalidC)]
def g3Q : Env := a1S tp tys eqs g8N owns meths
def f6Z : a4E := fun _ _ => none
theorem h6F : ∀ x,a0X g3Q f6Z 72 pontageref12_ValidC.In pontageref12_ValidC.Out 60 K0 x = a4U x := by intro x; kernel_rfl
theorem g6O : a1K tp 72 pontageref12_ValidC := a0H (E := g3Q) (a1T a1U a1V (show HowsOk tp g8N from (And.intro g5C trivial)) follows a0R) a0Y fun x _ h => ⟨f6Z,60,K0,(h6F x).trans h⟩
def pontageref1_BitLenC : Con := ⟨⟨[.pl a1C],[]⟩,⟨[.pl (.int .i64)],[]⟩,a7F⟩
def g8T : List (Nat × How) := []
def g1P : Env := a1S tp tys eqs g8T owns meths
def f7U : a4E := fun p c => match p,c with | [73],0 => some (.tmpl ⟨(dd 1 (.ptr 0 []::dd 1 (.pl (.int .i64)::.pl (.int .i64)::dd 17 []))),[.box a1C (.pl a1C)]⟩) | _,_ => none
theorem h6U : ∀ x,a0X g1P f7U 73 pontageref1_BitLenC.In pontageref1_BitLenC.Out 60 K0 x = a7F x := by intro x; kernel_rfl
theorem h5A : a1K tp 73 pontageref1_BitLenC := a0H (E := g1P) (a1T a1U a1V (show HowsOk tp g8T from trivial) follows a0R) a0Y fun x _ h => ⟨f7U,60,K0,(h6U x).trans h⟩
def pontageref21_checkC : Con := ⟨⟨[.pl a0E,.pl a0I,.pl a0V,.pl (.int .u64)],[]⟩,⟨[.pl (.int .i64)],[]⟩,a7N⟩
def h1C : List (Nat × How) := [(21,.con pontageref21_ValidC),(56,.con pontageref16_FindC),(72,.con pontageref12_ValidC),(73,.con pontageref1_BitLenC)]
def g1J : Env := a1S tp tys eqs h1C owns meths
def f8K : a4E := fun p c => match p,c with | [1000000,34],10 => some (.join ⟨(dd 6 (.ptr 0 []::dd 29 [])),[.box a0V (.pl a0V)]⟩) | _,_ => none
theorem h5P : ∀ x,a0X g1J f8K 34 pontageref21_checkC.In pontageref21_checkC.Out 60 K0 x = a7N x := by intro x; kernel_rfl
theorem h3P : a1K tp 34 pontageref21_checkC := a0H (E := g1J) (a1T a1U a1V (show HowsOk tp h1C from (And.intro g4I (And.intro f7G (And.intro g6O (And.intro h5A trivial))))) follows a0R) a0Y fun x _ h => ⟨f8K,60,K0,(h5P x).trans h⟩
def pontageref1_SubC : Con := ⟨⟨[.pl (.sl (.int .i64)),.pl (.sl (.int .i64))],[]⟩,⟨[.pl (.sl (.int .i64))],[]⟩,a2X⟩
def g8U : List (Nat × How) := [(113,.inl)]
def f8L : Env := a1S tp tys eqs g8U owns meths
def g1L : a4E := fun p c => match p,c with | [1000000,85],10 => some (.join ⟨(.pl (.sl (.int .i64))::.pl (.sl (.int .i64))::dd 3 (.whole 0::dd 1 (.pl (.int .i64)::.pl (.int .i64)::dd 35 []))),[.row (.int .i64)]⟩) | [113,14,1,85],0 => some (.tmpl ⟨(.whole 0::dd 2 (.pl (.int .i64)::dd 61 [])),[.row (.int .i64)]⟩) | [85],0 => some (.tmpl ⟨(.pl (.sl (.int .i64))::.pl (.sl (.int .i64))::dd 3 (.whole 0::.pl (.int .i64)::.pl (.int .i64)::dd 36 [])),[.row (.int .i64)]⟩) | _,_ => none
theorem h4J : ∀ x,c5B f8L g1L 85 pontageref1_SubC.In pontageref1_SubC.Out 80 K0 x = a2X x := by intro x; kernel_rfl
theorem e4X : b8I tp 85 pontageref1_SubC := d4D (E := f8L) (a1T a1U a1V (show HowsOk tp g8U from trivial) follows a0R) a0Y fun x _ h => ⟨g1L, 80, K0, (h4J x).trans h⟩
def pontageref1_shortC : Con := ⟨⟨[.pl (.sl (.int .i64)),.pl (.int .i64)],[]⟩,⟨[.pl (.sl (.int .i64)),.pl (.sl (.int .i64))],[]⟩,a6J⟩
def f9W : List (Nat × How) := [(113,.con pontageref1_normC)]
def e7P : Env := a1S tp tys eqs f9W owns meths
def e7F : a4E := fun p c => match p,c with | [112],0 => some (.tmpl ⟨(.pl (.sl (.int .i64))::.pl (.int .i64)::dd 4 (.whole 0::.pl (.int .i64)::.pl (.int .i64)::dd 32 [])),[.row (.int .i64)]⟩) | _,_ => none
theorem g4V : ∀ x,a0X e7P e7F 112 pontageref1_shortC.In pontageref1_shortC.Out 60 K0 x = a6J x := by intro x; kernel_rfl
theorem g5X : a1K tp 112 pontageref1_shortC := a0H (E := e7P) (a1T a1U a1V (show HowsOk tp f9W from (And.intro f1E trivial)) follows a0R) a0Y fun x _ h => ⟨e7F,60,K0,(g4V x).trans h⟩
def pontageref1_DivC : Con := ⟨⟨[.pl (.sl (.int .i64)),.pl (.sl (.int .i64))],[]⟩,⟨[.pl (.sl (.int .i64)),.pl (.sl (.int .i64))],[]⟩,a4S⟩
def h0Y : List (Nat × How) := [(85,.fresh pontageref1_SubC),(87,.con pontageref1_CmpC),(112,.con pontageref1_shortC),(113,.inl)]
def g3T : Env := a1S tp tys eqs h0Y owns meths
def g0K : a4E := fun p c => match p,c with | [113,18,1,74],0 => some (.tmpl ⟨(.whole 0::dd 2 (.pl (.int .i64)::dd 17 (.pl (.sl (.int .i64))::.pl (.sl (.int .i64))::dd 4 (.whole 1::.whole 0::.pl (.int .i64)::.pl (.int .i64)::dd 104 [])))),[.row (.int .i64),.row (.int .i64)]⟩) | [113,19,1,74],0 => some (.tmpl ⟨(.whole 0::dd 2 (.pl (.int .i64)::dd 17 (.pl (.sl (.int .i64))::.pl (.sl (.int .i64))::dd 4 (.whole 1::.whole 0::.pl (.int .i64)::.pl (.int .i64)::dd 104 [])))),[.row (.int .i64),.row (.int .i64)]⟩) | [113,27,1,74],0 => some (.tmpl ⟨(.whole 0::dd 2 (.pl (.int .i64)::dd 24 (.whole 1::dd 106 []))),[.row (.int .i64),.row (.int .i64)]⟩) | [113,27,3,74],0 => some (.tmpl ⟨(.whole 0::dd 2 (.pl (.int .i64)::dd 128 (.pl (.sl (.int .i64))::dd 2 []))),[.row (.int .i64)]⟩) | [74],0 => some (.tmpl ⟨(.pl (.sl (.int .i64))::.pl (.sl (.int .i64))::dd 4 (.whole 0::.whole 1::.pl (.int .i64)::dd 105 [])),[.row (.int .i64),.row (.int .i64)]⟩) | [74],2 => some (.tmpl ⟨(.pl (.sl (.int .i64))::.pl (.sl (.int .i64))::dd 4 (.whole 0::.whole 1::.pl (.int .i64)::.pl (.int .i64)::dd 104 [])),[.row (.int .i64),.row (.int .i64)]⟩) | [74],4 => some (.tmpl ⟨(.pl (.sl (.int .i64))::.pl (.sl (.int .i64))::dd 4 (.whole 0::.whole 1::.pl (.int .i64)::.pl (.int .i64)::.pl (.int .i64)::.pl (.int .i64)::dd 102 [])),[.row (.int .i64),.row (.int .i64)]⟩) | [74],6 => some (.tmpl ⟨(.pl (.sl (.int .i64))::.pl (.sl (.int .i64))::dd 4 (.whole 0::.whole 1::.pl (.int .i64)::.pl (.int .i64)::dd 2 (.pl (.sl (.int .i64))::.pl (.int .i64)::dd 100 []))),[.row (.int .i64),.row (.int .i64)]⟩) | _,_ => none
theorem h6B : ∀ x,a0X g3T g0K 74 pontageref1_DivC.In pontageref1_DivC.Out 90 K0 x = a4S x := by intro x; kernel_rfl
theorem g5Z : a1K tp 74 pontageref1_DivC := a0H (E := g3T) (a1T a1U a1V (show HowsOk tp h0Y from (And.intro e4X (And.intro f9V (And.intro g5X trivial)))) follows a0R) a0Y fun x _ h => ⟨g0K,90,K0,(h6B x).trans h⟩
def pontageref1_MulC : Con := ⟨⟨[.pl (.sl (.int .i64)),.pl (.sl (.int .i64))],[]⟩,⟨[.pl (.sl (.int .i64))],[]⟩,a5Q⟩
def g8J : List (Nat × How) := [(113,.con pontageref1_normC)]
def f4L : Env := a1S tp tys eqs g8J owns meths
def f9G : a4E := fun p c => match p,c with | [75],0 => some (.tmpl ⟨(.pl (.sl (.int .i64))::.pl (.sl (.int .i64))::dd 3 (.whole 0::.pl (.int .i64)::dd 56 [])),[.row (.int .i64)]⟩) | [75],2 => some (.tmpl ⟨(.pl (.sl (.int .i64))::.pl (.sl (.int .i64))::dd 3 (.whole 0::.pl (.int .i64)::.pl (.int .i64)::.pl (.int .i64)::dd 54 [])),[.row (.int .i64)]⟩) | _,_ => none
theorem h6X : ∀ x,a0X f4L f9G 75 pontageref1_MulC.In pontageref1_MulC.Out 60 K0 x = a5Q x := by intro x; kernel_rfl
theorem g5S : a1K tp 75 pontageref1_MulC := a0H (E := f4L) (a1T a1U a1V (show HowsOk tp g8J from (And.intro f1E trivial)) follows a0R) a0Y fun x _ h => ⟨f9G,60,K0,(h6X x).trans h⟩
def pontageref1_FromUint64C : Con := ⟨⟨[.pl (.int .u64)],[]⟩,⟨[.pl (.sl (.int .i64))],[]⟩,a1J⟩
def h1M : List (Nat × How) := [(79,.con pontageref1_FromUint256C)]
def f4O : Env := a1S tp tys eqs h1M owns meths
def g2Z : a4E := fun _ _ => none
theorem h6K : ∀ x,a0X f4O g2Z 76 pontageref1_FromUint64C.In pontageref1_FromUint64C.Out 60 K0 x = a1J x := by intro x; kernel_rfl
theorem g7W : a1K tp 76 pontageref1_FromUint64C := a0H (E := f4O) (a1T a1U a1V (show HowsOk tp h1M from (And.intro d9R trivial)) follows a0R) a0Y fun x _ h => ⟨g2Z,60,K0,(h6K x).trans h⟩
def pontageref1_ToUint256C : Con := ⟨⟨[.pl (.sl (.int .i64))],[]⟩,⟨[.pl a1C],[]⟩,a1B⟩
def h0P : List (Nat × How) := []
def g1M : Env := a1S tp tys eqs h0P owns meths
def f8Z : a4E := fun p c => match p,c with | [1000000,77],6 => some (.join ⟨(.pl (.sl (.int .i64))::dd 1 (.ptr 0 []::.ptr 1 []::.pl (.int .i64)::dd 5 (.pl (.int .i64)::.pl .bool::dd 22 []))),[.box a1C (.pl a1C),.box a1C (.pl a1C)]⟩) | [77],0 => some (.tmpl ⟨(.pl (.sl (.int .i64))::dd 1 (.ptr 0 []::.ptr 1 []::.pl (.int .i64)::dd 29 [])),[.box a1C (.pl a1C),.box a1C (.pl a1C)]⟩) | _,_ => none
theorem h4N : ∀ x,a0X g1M f8Z 77 pontageref1_ToUint256C.In pontageref1_ToUint256C.Out 60 K0 x = a1B x := by intro x; kernel_rfl
theorem g0A : a1K tp 77 pontageref1_ToUint256C := a0H (E := g1M) (a1T a1U a1V (show HowsOk tp h0P from trivial) follows a0R) a0Y fun x _ h => ⟨f8Z,60,K0,(h4N x).trans h⟩
def pontageref18_AllocateC : Con := ⟨⟨[.pl (.int .u64),.pl (.int .u64),.pl (.int .u64),.pl (.int .u64)],[]⟩,⟨[.pl (.int .u64),.pl (.int .i64)],[]⟩,a5P⟩
def h1L : List (Nat × How) := [(74,.con pontageref1_DivC),(75,.con pontageref1_MulC),(76,.con pontageref1_FromUint64C),(77,.con pontageref1_ToUint256C)]
def f8B : Env := a1S tp tys eqs h1L owns meths
def f5H : a4E := fun p c => match p,c with | [1000000,35],4 => some (.join ⟨(.pl (.int .u64)::.pl (.int .u64)::.pl (.int .u64)::.pl (.int .u64)::dd 38 []),[]⟩) | _,_ => none
theorem h3Z : ∀ x,a0X f8B f5H 35 pontageref18_AllocateC.In pontageref18_AllocateC.Out 60 K0 x = a5P x := by intro x; kernel_rfl
theorem h2D : a1K tp 35 pontageref18_AllocateC := a0H (E := f8B) (a1T a1U a1V (show HowsOk tp h1L from (And.intro g5Z (And.intro g5S (And.intro g7W (And.intro g0A trivial))))) follows a0R) a0Y fun x _ h => ⟨f5H,60,K0,(h3Z x).trans h⟩
def pontageref1_FitsC : Con := ⟨⟨[.pl (.sl (.int .i64))],[]⟩,⟨[.pl .bool],[]⟩,a2W⟩
def g9R : List (Nat × How) := []
def g1E : Env := a1S tp tys eqs g9R owns meths
def f6H : a4E := fun _ _ => none
theorem h6O : ∀ x,a0X g1E f6H 81 pontageref1_FitsC.In pontageref1_FitsC.Out 60 K0 x = a2W x := by intro x; kernel_rfl
theorem g7H : a1K tp 81 pontageref1_FitsC := a0H (E := g1E) (a1T a1U a1V (show HowsOk tp g9R from trivial) follows a0R) a0Y fun x _ h => ⟨f6H,60,K0,(h6O x).trans h⟩
def pontageref1_CheckedC : Con := ⟨⟨[.pl (.sl (.int .i64))],[]⟩,⟨[.pl a1C,.pl (.int .i64)],[]⟩,a2N⟩
def g9K : List (Nat × How) := [(77,.con pontageref1_ToUint256C),(81,.con pontageref1_FitsC)]
def g1V : Env := a1S tp tys eqs g9K owns meths
def f5V : a4E := fun _ _ => none
theorem h6G : ∀ x,a0X g1V f5V 78 pontageref1_CheckedC.In pontageref1_CheckedC.Out 60 K0 x = a2N x := by intro x; kernel_rfl
theorem f4F : a1K tp 78 pontageref1_CheckedC := a0H (E := g1V) (a1T a1U a1V (show HowsOk tp g9K from (And.intro g0A (And.intro g7H trivial))) follows a0R) a0Y fun x _ h => ⟨f5V,60,K0,(h6G x).trans h⟩
def pontageref1_Mul256C : Con := ⟨⟨[.pl a1C,.pl a1C],[]⟩,⟨[.pl a1C,.pl (.int .i64)],[]⟩,a7J⟩
def g8V : List (Nat × How) := [(75,.con pontageref1_MulC),(78,.con pontageref1_CheckedC),(79,.con pontageref1_FromUint256C)]
def f8E : Env := a1S tp tys eqs g8V owns meths
def g3N : a4E := fun _ _ => none
theorem h4C : ∀ x,a0X f8E g3N 36 pontageref1_Mul256C.In pontageref1_Mul256C.Out 60 K0 x = a7J x := by intro x; kernel_rfl
theorem h3U : a1K tp 36 pontageref1_Mul256C := a0H (E := f8E) (a1T a1U a1V (show HowsOk tp g8V from (And.intro g5S (And.intro f4F (And.intro d9R trivial)))) follows a0R) a0Y fun x _ h => ⟨g3N,60,K0,(h4C x).trans h⟩
def pontageref16_AccrueC : Con := ⟨⟨[.pl (.sl a0D),.pl (.int .u64),.pl a1C,.pl a1C,.pl (.int .u64)],[]⟩,⟨[.pl (.sl a0D),.pl (.int .i64)],[]⟩,a3N⟩
def g9A : List (Nat × How) := [(51,.con pontageref16_ValidC),(56,.con pontageref16_FindC),(77,.con pontageref1_ToUint256C),(79,.con pontageref1_FromUint256C),(80,.con pontageref1_AddC),(81,.con pontageref1_FitsC),(82,.con pontageref1_IsZeroC)]
def f6X : Env := a1S tp tys eqs g9A owns meths
def f7L : a4E := fun p c => match p,c with | [1000000,37],4 => some (.join ⟨(.pl (.sl a0D)::.pl (.int .u64)::dd 2 (.pl (.int .u64)::dd 2 (.ptr 0 []::.ptr 1 []::dd 97 []))),[.box a1C (.pl a1C),.box a1C (.pl a1C)]⟩) | _,_ => none
theorem h7G : ∀ x,a0X f6X f7L 37 pontageref16_AccrueC.In pontageref16_AccrueC.Out 60 K0 x = a3N x := by intro x; kernel_rfl
theorem g9M : a1K tp 37 pontageref16_AccrueC := a0H (E := f6X) (a1T a1U a1V (show HowsOk tp g9A from (And.intro f4G (And.intro f7G (And.intro g0A (And.intro d9R (And.intro e6W (And.intro g7H (And.intro g4N trivial)))))))) follows a0R) a0Y fun x _ h => ⟨f7L,60,K0,(h7G x).trans h⟩
def pontageref17_SortedC : Con := ⟨⟨[.pl (.sl a0D)],[]⟩,⟨[.pl (.sl a0D)],[]⟩,a6T⟩
def h0F : List (Nat × How) := []
def g4H : Env := a1S tp tys eqs h0F owns meths
def g4C : a4E := fun p c => match p,c with | [1000000,83],10 => some (.join ⟨(.pl (.sl a0D)::dd 2 (.whole 0::.pl (.int .i64)::.pl (.int .i64)::dd 76 [])),[.row a0D]⟩) | [83],0 => some (.tmpl ⟨(.pl (.sl a0D)::dd 2 (.whole 0::.pl (.int .i64)::dd 77 [])),[.row a0D]⟩) | [83],2 => some (.tmpl ⟨(.pl (.sl a0D)::dd 2 (.whole 0::.pl (.int .i64)::.pl (.int .i64)::dd 76 [])),[.row a0D]⟩) | _,_ => none
theorem h3H : ∀ x,a0X g4H g4C 83 pontageref17_SortedC.In pontageref17_SortedC.Out 60 K0 x = a6T x := by intro x; kernel_rfl
theorem h3O : a1K tp 83 pontageref17_SortedC := a0H (E := g4H) (a1T a1U a1V (show HowsOk tp h0F from trivial) follows a0R) a0Y fun x _ h => ⟨g4C,60,K0,(h3H x).trans h⟩
def pontageref1_MinC : Con := ⟨⟨[.pl (.sl (.int .i64)),.pl (.sl (.int .i64))],[]⟩,⟨[.pl (.sl (.int .i64))],[]⟩,a9F⟩
def h1H : List (Nat × How) := [(87,.con pontageref1_CmpC)]
def f7V : Env := a1S tp tys eqs h1H owns meths
def g3F : a4E := fun _ _ => none
theorem h3S : ∀ x,a0X f7V g3F 84 pontageref1_MinC.In pontageref1_MinC.Out 60 K0 x = a9F x := by intro x; kernel_rfl
theorem h3L : a1K tp 84 pontageref1_MinC := a0H (E := f7V) (a1T a1U a1V (show HowsOk tp h1H from (And.intro f9V trivial)) follows a0R) a0Y fun x _ h => ⟨g3F,60,K0,(h3S x).trans h⟩
def pontageref20_PlanC : Con := ⟨⟨[.pl (.sl a0D),.pl a1C],[]⟩,⟨[.pl (.sl a1H),.pl (.int .i64)],[]⟩,a8F⟩
def g9P : List (Nat × How) := [(51,.con pontageref16_ValidC),(77,.con pontageref1_ToUint256C),(79,.con pontageref1_FromUint256C),(83,.con pontageref17_SortedC),(84,.con pontageref1_MinC),(85,.fresh pontageref1_SubC)]
def f9E : Env := a1S tp tys eqs g9P owns meths
def f9Q : a4E := fun p c => match p,c with | [1000000,38],10 => some (.join ⟨(dd 6 (.whole 0::.pl (.sl a0D)::.pl (.sl (.int .i64))::.pl (.int .i64)::dd 13 (.pl (.sl (.int .i64))::.pl (.int .i64)::.pl .bool::dd 26 []))),[.row a1H]⟩) | [38],0 => some (.tmpl ⟨(dd 6 (.whole 0::.pl (.sl a0D)::.pl (.sl (.int .i64))::.pl (.int .i64)::dd 42 [])),[.row a1H]⟩) | _,_ => none
theorem h2Z : ∀ x,a0X f9E f9Q 38 pontageref20_PlanC.In pontageref20_PlanC.Out 60 K0 x = a8F x := by intro x; kernel_rfl
theorem h6P : a1K tp 38 pontageref20_PlanC := a0H (E := f9E) (a1T a1U a1V (show HowsOk tp g9P from (And.intro f4G (And.intro g0A (And.intro d9R (And.intro h3O (And.intro h3L (And.intro e4X trivial))))))) follows a0R) a0Y fun x _ h => ⟨f9Q,60,K0,(h2Z x).trans h⟩
def pontageref1_Sub256C : Con := ⟨⟨[.pl a1C,.pl a1C],[]⟩,⟨[.pl a1C,.pl (.int .i64)],[]⟩,a5X⟩
def h0Z : List (Nat × How) := [(77,.con pontageref1_ToUint256C),(79,.con pontageref1_FromUint256C),(85,.fresh pontageref1_SubC),(87,.con pontageref1_CmpC)]
def g1K : Env := a1S tp tys eqs h0Z owns meths
def f9P : a4E := fun _ _ => none
theorem h4A : ∀ x,a0X g1K f9P 41 pontageref1_Sub256C.In pontageref1_Sub256C.Out 60 K0 x = a5X x := by intro x; kernel_rfl
theorem h1U : a1K tp 41 pontageref1_Sub256C := a0H (E := g1K) (a1T a1U a1V (show HowsOk tp h0Z from (And.intro g0A (And.intro d9R (And.intro e4X (And.intro f9V trivial))))) follows a0R) a0Y fun x _ h => ⟨f9P,60,K0,(h4A x).trans h⟩
def pontageref1_Add256C : Con := ⟨⟨[.pl a1C,.pl a1C],[]⟩,⟨[.pl a1C,.pl (.int .i64)],[]⟩,a7L⟩
def f7O : List (Nat × How) := [(78,.con pontageref1_CheckedC),(79,.con pontageref1_FromUint256C),(80,.con pontageref1_AddC)]
def e7B : Env := a1S tp tys eqs f7O owns meths
def e6U : a4E := fun _ _ => none
theorem g7S : ∀ x,a0X e7B e6U 114 pontageref1_Add256C.In pontageref1_Add256C.Out 60 K0 x = a7L x := by intro x; kernel_rfl
theorem g6I : a1K tp 114 pontageref1_Add256C := a0H (E := e7B) (a1T a1U a1V (show HowsOk tp f7O from (And.intro f4F (And.intro d9R (And.intro e6W trivial)))) follows a0R) a0Y fun x _ h => ⟨e6U,60,K0,(g7S x).trans h⟩
def pontageref16_SettleC : Con := ⟨⟨[.pl (.sl a0D),.pl (.int .u64),.pl a1C],[]⟩,⟨[.pl (.sl a0D),.pl (.int .i64)],[]⟩,a4K⟩
def g9H : List (Nat × How) := [(41,.con pontageref1_Sub256C),(51,.con pontageref16_ValidC),(56,.con pontageref16_FindC),(82,.con pontageref1_IsZeroC),(114,.con pontageref1_Add256C)]
def f9T : Env := a1S tp tys eqs g9H owns meths
def f8D : a4E := fun _ _ => none
theorem h5S : ∀ x,a0X f9T f8D 86 pontageref16_SettleC.In pontageref16_SettleC.Out 60 K0 x = a4K x := by intro x; kernel_rfl
theorem h0N : a1K tp 86 pontageref16_SettleC := a0H (E := f9T) (a1T a1U a1V (show HowsOk tp g9H from (And.intro h1U (And.intro f4G (And.intro f7G (And.intro g4N (And.intro g6I trivial)))))) follows a0R) a0Y fun x _ h => ⟨f8D,60,K0,(h5S x).trans h⟩
def pontageref20_ApplyC : Con := ⟨⟨[.pl (.sl a0D),.pl (.sl a1H)],[]⟩,⟨[.pl (.sl a0D),.pl (.int .i64)],[]⟩,a7G⟩
def h0A : List (Nat × How) := [(86,.con pontageref16_SettleC)]
def f5G : Env := a1S tp tys eqs h0A owns meths
def g0I : a4E := fun p c => match p,c with | [39],0 => some (.tmpl ⟨(dd 1 (.pl (.sl a1H)::dd 4 (.pl (.sl a0D)::.pl (.int .i64)::dd 31 []))),[]⟩) | _,_ => none
theorem h5J : ∀ x,a0X f5G g0I 39 pontageref20_ApplyC.In pontageref20_ApplyC.Out 60 K0 x = a7G x := by intro x; kernel_rfl
theorem h6V : a1K tp 39 pontageref20_ApplyC := a0H (E := f5G) (a1T a1U a1V (show HowsOk tp h0A from (And.intro h0N trivial)) follows a0R) a0Y fun x _ h => ⟨g0I,60,K0,(h5J x).trans h⟩
def pontageref20_SumC : Con := ⟨⟨[.pl (.sl a1H)],[]⟩,⟨[.pl a1C,.pl (.int .i64)],[]⟩,a8R⟩
def g9D : List (Nat × How) := [(78,.con pontageref1_CheckedC),(79,.con pontageref1_FromUint256C),(80,.con pontageref1_AddC)]
def f6A : Env := a1S tp tys eqs g9D owns meths
def f5T : a4E := fun p c => match p,c with | [40],0 => some (.tmpl ⟨(.pl (.sl a1H)::dd 1 (.ptr 0 []::dd 1 (.pl (.sl (.int .i64))::.pl (.int .i64)::dd 18 []))),[.box a1C (.pl a1C)]⟩) | _,_ => none
theorem h4R : ∀ x,a0X f6A f5T 40 pontageref20_SumC.In pontageref20_SumC.Out 60 K0 x = a8R x := by intro x; kernel_rfl
theorem h4G : a1K tp 40 pontageref20_SumC := a0H (E := f6A) (a1T a1U a1V (show HowsOk tp g9D from (And.intro f4F (And.intro d9R (And.intro e6W trivial)))) follows a0R) a0Y fun x _ h => ⟨f5T,60,K0,(h4R x).trans h⟩
def pontageref16_TotalDueC : Con := ⟨⟨[.pl (.sl a0D)],[]⟩,⟨[.pl a1C,.pl (.int .i64)],[]⟩,a5V⟩
def h0O : List (Nat × How) := [(51,.con pontageref16_ValidC),(78,.con pontageref1_CheckedC),(79,.con pontageref1_FromUint256C),(80,.con pontageref1_AddC)]
def g3L : Env := a1S tp tys eqs h0O owns meths
def g0S : a4E := fun p c => match p,c with | [42],0 => some (.tmpl ⟨(.pl (.sl a0D)::dd 1 (.ptr 0 []::dd 1 (.pl (.sl (.int .i64))::.pl (.int .i64)::dd 22 []))),[.box a1C (.pl a1C)]⟩) | _,_ => none
theorem h6N : ∀ x,a0X g3L g0S 42 pontageref16_TotalDueC.In pontageref16_TotalDueC.Out 60 K0 x = a5V x := by intro x; kernel_rfl
theorem h4E : a1K tp 42 pontageref16_TotalDueC := a0H (E := g3L) (a1T a1U a1V (show HowsOk tp h0O from (And.intro f4G (And.intro f4F (And.intro d9R (And.intro e6W trivial))))) follows a0R) a0Y fun x _ h => ⟨g0S,60,K0,(h6N x).trans h⟩
def pontageref3_CheckedC : Con := ⟨⟨[.pl a0U],[]⟩,⟨[.pl a0F,.pl (.int .i64)],[]⟩,a5M⟩
def g8D : List (Nat × How) := [(78,.con pontageref1_CheckedC)]
def f7J : Env := a1S tp tys eqs g8D owns meths
def f4V : a4E := fun _ _ => none
theorem h5F : ∀ x,a0X f7J f4V 88 pontageref3_CheckedC.In pontageref3_CheckedC.Out 60 K0 x = a5M x := by intro x; kernel_rfl
theorem h0K : a1K tp 88 pontageref3_CheckedC := a0H (E := f7J) (a1T a1U a1V (show HowsOk tp g8D from (And.intro f4F trivial)) follows a0R) a0Y fun x _ h => ⟨f4V,60,K0,(h5F x).trans h⟩
def pontageref3_signC : Con := ⟨⟨[.pl .bool,.pl (.sl (.int .i64))],[]⟩,⟨[.pl a0U],[]⟩,a2A⟩
def g9O : List (Nat × How) := []
def g3W : Env := a1S tp tys eqs g9O owns meths
def f6L : a4E := fun _ _ => none
theorem h2M : ∀ x,a0X g3W f6L 90 pontageref3_signC.In pontageref3_signC.Out 60 K0 x = a2A x := by intro x; kernel_rfl
theorem f1F : a1K tp 90 pontageref3_signC := a0H (E := g3W) (a1T a1U a1V (show HowsOk tp g9O from trivial) follows a0R) a0Y fun x _ h => ⟨f6L,60,K0,(h2M x).trans h⟩
def pontageref3_AddC : Con := ⟨⟨[.pl a0U,.pl a0U],[]⟩,⟨[.pl a0U],[]⟩,a5A⟩
def g9Z : List (Nat × How) := [(80,.con pontageref1_AddC),(85,.fresh pontageref1_SubC),(87,.con pontageref1_CmpC),(90,.con pontageref3_signC)]
def g2M : Env := a1S tp tys eqs g9Z owns meths
def f8A : a4E := fun _ _ => none
theorem h5Y : ∀ x,a0X g2M f8A 89 pontageref3_AddC.In pontageref3_AddC.Out 60 K0 x = a5A x := by intro x; kernel_rfl
theorem g4S : a1K tp 89 pontageref3_AddC := a0H (E := g2M) (a1T a1U a1V (show HowsOk tp g9Z from (And.intro e6W (And.intro e4X (And.intro f9V (And.intro f1F trivial))))) follows a0R) a0Y fun x _ h => ⟨f8A,60,K0,(h5Y x).trans h⟩
def pontageref3_DiffC : Con := ⟨⟨[.pl a1C,.pl a1C],[]⟩,⟨[.pl a0F],[]⟩,a8U⟩
def g8I : List (Nat × How) := [(79,.con pontageref1_FromUint256C),(88,.con pontageref3_CheckedC),(89,.con pontageref3_AddC),(90,.con pontageref3_signC)]
def f7R : Env := a1S tp tys eqs g8I owns meths
def g1I : a4E := fun _ _ => none
theorem h5Q : ∀ x,a0X f7R g1I 43 pontageref3_DiffC.In pontageref3_DiffC.Out 60 K0 x = a8U x := by intro x; kernel_rfl
theorem h3D : a1K tp 43 pontageref3_DiffC := a0H (E := f7R) (a1T a1U a1V (show HowsOk tp g8I from (And.intro d9R (And.intro h0K (And.intro g4S (And.intro f1F trivial))))) follows a0R) a0Y fun x _ h => ⟨g1I,60,K0,(h5Q x).trans h⟩
def pontageref3_DivFloorC : Con := ⟨⟨[.pl a0U,.pl (.sl (.int .i64))],[]⟩,⟨[.pl a0U],[]⟩,a3G⟩
def g0X : List (Nat × How) := [(74,.con pontageref1_DivC),(76,.con pontageref1_FromUint64C),(80,.con pontageref1_AddC),(90,.con pontageref3_signC)]
def f0C : Env := a1S tp tys eqs g0X owns meths
def f0E : a4E := fun p c => match p,c with | [1000000,115],4 => some (.join ⟨(dd 2 (.ptr 0 []::dd 1 (.ptr 1 []::.pl (.sl (.int .i64))::dd 14 (.pl .bool::dd 7 [])))),[.box a0U (.pl a0U),.box a0U (.pl a0U)]⟩) | _,_ => none
theorem g5O : ∀ x,a0X f0C f0E 115 pontageref3_DivFloorC.In pontageref3_DivFloorC.Out 60 K0 x = a3G x := by intro x; kernel_rfl
theorem g6H : a1K tp 115 pontageref3_DivFloorC := a0H (E := f0C) (a1T a1U a1V (show HowsOk tp g0X from (And.intro g5Z (And.intro g7W (And.intro e6W (And.intro f1F trivial))))) follows a0R) a0Y fun x _ h => ⟨f0E,60,K0,(g5O x).trans h⟩
def pontageref3_NegateC : Con := ⟨⟨[.pl a0U],[]⟩,⟨[.pl a0U],[]⟩,a3X⟩
def g1W : List (Nat × How) := [(90,.con pontageref3_signC)]
def e6Z : Env := a1S tp tys eqs g1W owns meths
def e8S : a4E := fun _ _ => none
theorem g7Z : ∀ x,a0X e6Z e8S 116 pontageref3_NegateC.In pontageref3_NegateC.Out 60 K0 x = a3X x := by intro x; kernel_rfl
theorem g6K : a1K tp 116 pontageref3_NegateC := a0H (E := e6Z) (a1T a1U a1V (show HowsOk tp g1W from (And.intro f1F trivial)) follows a0R) a0Y fun x _ h => ⟨e8S,60,K0,(g7Z x).trans h⟩
def pontageref3_FromInt256C : Con := ⟨⟨[.pl a0F],[]⟩,⟨[.pl a0U],[]⟩,a2O⟩
def f5D : List (Nat × How) := [(79,.con pontageref1_FromUint256C),(90,.con pontageref3_signC)]
def e9H : Env := a1S tp tys eqs f5D owns meths
def e8D : a4E := fun _ _ => none
theorem g7M : ∀ x,a0X e9H e8D 117 pontageref3_FromInt256C.In pontageref3_FromInt256C.Out 60 K0 x = a2O x := by intro x; kernel_rfl
theorem f8F : a1K tp 117 pontageref3_FromInt256C := a0H (E := e9H) (a1T a1U a1V (show HowsOk tp f5D from (And.intro d9R (And.intro f1F trivial))) follows a0R) a0Y fun x _ h => ⟨e8D,60,K0,(g7M x).trans h⟩
def pontageref3_MulC : Con := ⟨⟨[.pl a0U,.pl a0U],[]⟩,⟨[.pl a0U],[]⟩,a7V⟩
def g1Y : List (Nat × How) := [(75,.con pontageref1_MulC),(90,.con pontageref3_signC)]
def e8J : Env := a1S tp tys eqs g1Y owns meths
def e7Q : a4E := fun _ _ => none
theorem g4Z : ∀ x,a0X e8J e7Q 118 pontageref3_MulC.In pontageref3_MulC.Out 60 K0 x = a7V x := by intro x; kernel_rfl
theorem g5A : a1K tp 118 pontageref3_MulC := a0H (E := e8J) (a1T a1U a1V (show HowsOk tp g1Y from (And.intro g5S (And.intro f1F trivial))) follows a0R) a0Y fun x _ h => ⟨e7Q,60,K0,(g4Z x).trans h⟩
def pontageref19_DeltaC : Con := ⟨⟨[.pl a0F,.pl a0F,.pl (.int .u64),.pl a0I],[]⟩,⟨[.pl a0F,.pl (.int .i64)],[]⟩,a7M⟩
def h0L : List (Nat × How) := [(52,.con pontageref3_ValidC),(72,.con pontageref12_ValidC),(74,.con pontageref1_DivC),(76,.con pontageref1_FromUint64C),(80,.con pontageref1_AddC),(81,.con pontageref1_FitsC),(88,.con pontageref3_CheckedC),(89,.con pontageref3_AddC),(115,.con pontageref3_DivFloorC),(116,.con pontageref3_NegateC),(117,.con pontageref3_FromInt256C),(118,.con pontageref3_MulC)]
def g0R : Env := a1S tp tys eqs h0L owns meths
def f4J : a4E := fun p c => match p,c with | [1000000,91],13 => some (.join ⟨(dd 2 (.pl (.int .u64)::dd 4 (.ptr 0 []::.ptr 1 []::dd 5 (.ptr 2 []::dd 81 [])))),[.box a0I (.pl a0I),.box a0F (.pl a0F),.box a0U (.pl a0U)]⟩) | [1000000,91],6 => some (.join ⟨(dd 2 (.pl (.int .u64)::dd 1 (.ptr 0 []::.ptr 1 []::dd 1 (.ptr 2 []::.ptr 3 []::dd 87 [])))),[.box a0F (.pl a0F),.box a0F (.pl a0F),.box a0I (.pl a0I),.box a0F (.pl a0F)]⟩) | _,_ => none
theorem h5Z : ∀ x,a0X g0R f4J 91 pontageref19_DeltaC.In pontageref19_DeltaC.Out 60 K0 x = a7M x := by intro x; kernel_rfl
theorem h7B : a1K tp 91 pontageref19_DeltaC := a0H (E := g0R) (a1T a1U a1V (show HowsOk tp h0L from (And.intro g4O (And.intro g6O (And.intro g5Z (And.intro g7W (And.intro e6W (And.intro g7H (And.intro h0K (And.intro g4S (And.intro g6H (And.intro g6K (And.intro f8F (And.intro g5A trivial))))))))))))) follows a0R) a0Y fun x _ h => ⟨f4J,60,K0,(h5Z x).trans h⟩
def pontageref3_AddClampedC : Con := ⟨⟨[.pl a1C,.pl a0F],[]⟩,⟨[.pl a1C,.pl (.int .i64)],[]⟩,a5H⟩
def h0T : List (Nat × How) := [(52,.con pontageref3_ValidC),(78,.con pontageref1_CheckedC),(79,.con pontageref1_FromUint256C),(89,.con pontageref3_AddC),(90,.con pontageref3_signC),(117,.con pontageref3_FromInt256C)]
def g2D : Env := a1S tp tys eqs h0T owns meths
def g1D : a4E := fun _ _ => none
theorem h4U : ∀ x,a0X g2D g1D 92 pontageref3_AddClampedC.In pontageref3_AddClampedC.Out 60 K0 x = a5H x := by intro x; kernel_rfl
theorem h5W : a1K tp 92 pontageref3_AddClampedC := a0H (E := g2D) (a1T a1U a1V (show HowsOk tp h0T from (And.intro g4O (And.intro f4F (And.intro d9R (And.intro g4S (And.intro f1F (And.intro f8F trivial))))))) follows a0R) a0Y fun x _ h => ⟨g1D,60,K0,(h4U x).trans h⟩
def pontageref19_NextC : Con := ⟨⟨[.pl a1C,.pl a0F,.pl a0F,.pl (.int .u64),.pl a0I],[]⟩,⟨[.pl a1C,.pl (.int .i64)],[]⟩,a8C⟩
def h0U : List (Nat × How) := [(52,.con pontageref3_ValidC),(72,.con pontageref12_ValidC),(91,.con pontageref19_DeltaC),(92,.con pontageref3_AddClampedC)]
def g1Q : Env := a1S tp tys eqs h0U owns meths
def g4A : a4E := fun p c => match p,c with | [1000000,44],6 => some (.join ⟨(dd 3 (.pl (.int .u64)::dd 1 (.ptr 0 []::.ptr 1 []::.ptr 2 []::dd 1 (.ptr 3 []::.ptr 4 []::dd 36 [])))),[.box a1C (.pl a1C),.box a0F (.pl a0F),.box a0F (.pl a0F),.box a0I (.pl a0I),.box a1C (.pl a1C)]⟩) | _,_ => none
theorem h2U : ∀ x,a0X g1Q g4A 44 pontageref19_NextC.In pontageref19_NextC.Out 60 K0 x = a8C x := by intro x; kernel_rfl
theorem h7C : a1K tp 44 pontageref19_NextC := a0H (E := g1Q) (a1T a1U a1V (show HowsOk tp h0U from (And.intro g4O (And.intro g6O (And.intro h7B (And.intro h5W trivial))))) follows a0R) a0Y fun x _ h => ⟨g4A,60,K0,(h2U x).trans h⟩
def pontageref21_ReportC : Con := ⟨⟨[.pl a0E,.pl a0I,.pl a1C,.pl a0V,.pl (.int .u64)],[]⟩,⟨[.pl a0E,.pl a0Q,.pl (.int .i64)],[]⟩,a6R⟩
def g9E : List (Nat × How) := [(34,.con pontageref21_checkC),(35,.con pontageref18_AllocateC),(36,.con pontageref1_Mul256C),(37,.con pontageref16_AccrueC),(38,.con pontageref20_PlanC),(39,.con pontageref20_ApplyC),(40,.con pontageref20_SumC),(41,.con pontageref1_Sub256C),(42,.con pontageref16_TotalDueC),(43,.con pontageref3_DiffC),(44,.con pontageref19_NextC)]
def g3M : Env := a1S tp tys eqs g9E owns meths
def g2K : a4E := fun p c => match p,c with | [1000000,15],11 => some (.join ⟨(dd 5 (.ptr 0 []::.ptr 1 []::.ptr 2 []::.ptr 3 []::dd 1 (.ptr 4 []::.ptr 5 []::dd 2 (.ptr 6 []::.ptr 7 []::dd 153 [])))),[.box a0E (.pl a0E),.box a0I (.pl a0I),.box a1C (.pl a1C),.box a0V (.pl a0V),.box a0E (.pl a0E),.box a0Q (.pl a0Q),.box a0Q (.pl a0Q),.box a1C (.pl a1C)]⟩) | [1000000,15],30 => some (.join ⟨(dd 5 (.ptr 0 []::dd 2 (.ptr 1 []::dd 1 (.ptr 2 []::.ptr 3 []::dd 2 (.ptr 4 []::dd 2 (.pl (.sl a0D)::dd 151 [])))))),[.box a0E (.pl a0E),.box a0V (.pl a0V),.box a0E (.pl a0E),.box a0Q (.pl a0Q),.box a0Q (.pl a0Q)]⟩) | _,_ => none
theorem h2Q : ∀ x,a0X g3M g2K 15 pontageref21_ReportC.In pontageref21_ReportC.Out 60 K0 x = a6R x := by intro x; kernel_rfl
theorem h4W : a1K tp 15 pontageref21_ReportC := a0H (E := g3M) (a1T a1U a1V (show HowsOk tp g9E from (And.intro h3P (And.intro h2D (And.intro h3U (And.intro g9M (And.intro h6P (And.intro h6V (And.intro h4G (And.intro h1U (And.intro h4E (And.intro h3D (And.intro h7C trivial)))))))))))) follows a0R) a0Y fun x _ h => ⟨g2K,60,K0,(h2Q x).trans h⟩
def pontagelaw0_EqualPaymentsC : Con := ⟨⟨[.pl (.sl a1H),.pl (.sl a1H)],[]⟩,⟨[.pl .bool],[]⟩,a4F⟩
def g9W : List (Nat × How) := []
def f8Q : Env := a1S tp tys eqs g9W owns meths
def g0O : a4E := fun p c => match p,c with | [45],0 => some (.tmpl ⟨(.pl (.sl a1H)::.pl (.sl a1H)::dd 3 (.pl (.int .i64)::dd 20 [])),[]⟩) | _,_ => none
theorem h5I : ∀ x,a0X f8Q g0O 45 pontagelaw0_EqualPaymentsC.In pontagelaw0_EqualPaymentsC.Out 160 K0 x = a4F x := by intro x; kernel_rfl
theorem h2I : a1K tp 45 pontagelaw0_EqualPaymentsC := a0H (E := f8Q) (a1T a1U a1V (show HowsOk tp g9W from trivial) follows a0R) a0Y fun x _ h => ⟨g0O,160,K0,(h5I x).trans h⟩
def pontagelaw21_agreeC : Con := ⟨⟨[.pl a0Q,.pl a0Q],[]⟩,⟨[.pl .bool],[]⟩,a7K⟩
def hw16 : List (Nat × How) := [(45,.con pontagelaw0_EqualPaymentsC)]
def f9M : Env := a1S tp tys eqs hw16 owns meths
def g3D : a4E := fun _ _ => none
theorem h2K : ∀ x,a0X f9M g3D 16 pontagelaw21_agreeC.In pontagelaw21_agreeC.Out 160 K0 x = a7K x := by intro x; kernel_rfl
theorem ok16 : a1K tp 16 pontagelaw21_agreeC := a0H (E := f9M) (a1T a1U a1V (show HowsOk tp hw16 from (And.intro h2I trivial)) follows a0R) a0Y fun x _ h => ⟨g3D,160,K0,(h2K x).trans h⟩
def pontagelaw0_EqualPostersC : Con := ⟨⟨[.pl (.sl a0D),.pl (.sl a0D)],[]⟩,⟨[.pl .bool],[]⟩,a4P⟩
def h1B : List (Nat × How) := []
def f4T : Env := a1S tp tys eqs h1B owns meths
def g2R : a4E := fun p c => match p,c with | [46],0 => some (.tmpl ⟨(.pl (.sl a0D)::.pl (.sl a0D)::dd 3 (.pl (.int .i64)::dd 20 [])),[]⟩) | _,_ => none
theorem h4M : ∀ x,a0X f4T g2R 46 pontagelaw0_EqualPostersC.In pontagelaw0_EqualPostersC.Out 160 K0 x = a4P x := by intro x; kernel_rfl
theorem h6A : a1K tp 46 pontagelaw0_EqualPostersC := a0H (E := f4T) (a1T a1U a1V (show HowsOk tp h1B from trivial) follows a0R) a0Y fun x _ h => ⟨g2R,160,K0,(h4M x).trans h⟩
def pontagelaw0_EqualPricerC : Con := ⟨⟨[.pl a0E,.pl a0E],[]⟩,⟨[.pl .bool],[]⟩,a3B⟩
def g8H : List (Nat × How) := [(46,.con pontagelaw0_EqualPostersC)]
def f7P : Env := a1S tp tys eqs g8H owns meths
def g0N : a4E := fun _ _ => none
theorem h5T : ∀ x,a0X f7P g0N 17 pontagelaw0_EqualPricerC.In pontagelaw0_EqualPricerC.Out 160 K0 x = a3B x := by intro x; kernel_rfl
theorem h2O : a1K tp 17 pontagelaw0_EqualPricerC := a0H (E := f7P) (a1T a1U a1V (show HowsOk tp g8H from (And.intro h6A trivial)) follows a0R) a0Y fun x _ h => ⟨g0N,160,K0,(h5T x).trans h⟩
def pontagelaw16_ReferenceApplyC : Con := ⟨⟨[.pl (.sl a0D),.pl a0W],[]⟩,⟨[.pl (.sl a0D),.pl (.int .i64)],[]⟩,a3M⟩
def h0R : List (Nat × How) := [(25,.con pontageref16_AddC),(37,.con pontageref16_AccrueC),(56,.con pontageref16_FindC),(86,.con pontageref16_SettleC)]
def g0E : Env := a1S tp tys eqs h0R owns meths
def f9X : a4E := fun p c => match p,c with | [1000000,49],6 => some (.join ⟨(.pl (.sl a0D)::dd 2 (.ptr 0 []::dd 2 (.ptr 1 []::dd 51 []))),[.box a0W (.pl a0W),.box a1C (.pl a1C)]⟩) | _,_ => none
theorem h6M : ∀ x,a0X g0E f9X 49 pontagelaw16_ReferenceApplyC.In pontagelaw16_ReferenceApplyC.Out 160 K0 x = a3M x := by intro x; kernel_rfl
theorem h3V : a1K tp 49 pontagelaw16_ReferenceApplyC := a0H (E := g0E) (a1T a1U a1V (show HowsOk tp h0R from (And.intro g5W (And.intro g9M (And.intro f7G (And.intro h0N trivial))))) follows a0R) a0Y fun x _ h => ⟨f9X,160,K0,(h6M x).trans h⟩
def pontagelaw16_NormalizeC : Con := ⟨⟨[.pl a0W,.pl (.int .i64)],[]⟩,⟨[.pl a0W],[]⟩,a5E⟩
def g8E : List (Nat × How) := [(23,.con pontagelaw0_ModC)]
def g0H : Env := a1S tp tys eqs g8E owns meths
def f8M : a4E := fun p c => match p,c with | [1000000,50],5 => some (.join ⟨(dd 1 (.pl (.int .i64)::.ptr 0 []::dd 1 (.ptr 1 []::dd 34 []))),[.box a0W (.pl a0W),.box a0W (.pl a0W)]⟩) | [1000000,50],7 => some (.join ⟨(dd 1 (.pl (.int .i64)::.ptr 0 []::dd 1 (.ptr 1 []::dd 34 []))),[.box a0W (.pl a0W),.box a0W (.pl a0W)]⟩) | _,_ => none
theorem h4T : ∀ x,a0X g0H f8M 50 pontagelaw16_NormalizeC.In pontagelaw16_NormalizeC.Out 160 K0 x = a5E x := by intro x; kernel_rfl
theorem h4P : a1K tp 50 pontagelaw16_NormalizeC := a0H (E := g0H) (a1T a1U a1V (show HowsOk tp g8E from (And.intro h4B trivial)) follows a0R) a0Y fun x _ h => ⟨f8M,160,K0,(h4T x).trans h⟩
def pontagelaw16_GenerateC : Con := ⟨⟨[.pl (.sl a0W)],[]⟩,⟨[.pl (.sl a0D)],[]⟩,a5S⟩
def h1D : List (Nat × How) := [(25,.con pontageref16_AddC),(49,.con pontagelaw16_ReferenceApplyC),(50,.con pontagelaw16_NormalizeC)]
def f9Y : Env := a1S tp tys eqs h1D owns meths
def g1B : a4E := fun p c => match p,c with | [1000000,20],10 => some (.join ⟨(.pl (.sl a0W)::dd 2 (.pl (.sl a0D)::dd 1 (.pl (.int .i64)::dd 17 (.pl (.int .i64)::.pl .bool::dd 18 [])))),[]⟩) | [20],0 => some (.tmpl ⟨(.pl (.sl a0W)::dd 2 (.pl (.sl a0D)::.pl (.int .u64)::dd 38 [])),[]⟩) | [20],2 => some (.tmpl ⟨(.pl (.sl a0W)::dd 2 (.pl (.sl a0D)::dd 1 (.pl (.int .i64)::dd 37 []))),[]⟩) | _,_ => none
theorem h2F : ∀ x,a0X f9Y g1B 20 pontagelaw16_GenerateC.In pontagelaw16_GenerateC.Out 160 K0 x = a5S x := by intro x; kernel_rfl
theorem h5L : a1K tp 20 pontagelaw16_GenerateC := a0H (E := f9Y) (a1T a1U a1V (show HowsOk tp h1D from (And.intro g5W (And.intro h3V (And.intro h4P trivial)))) follows a0R) a0Y fun x _ h => ⟨g1B,160,K0,(h2F x).trans h⟩
def pontagelaw21_PricerArbitraryStatesC : Con := ⟨⟨[.pl a0E,.pl a0I,.pl (.arr 8 (.int .u64)),.pl a1C,.pl a0V,.pl (.int .u64),.pl (.sl a0W),.pl (.int .u64)],[]⟩,⟨[.pl .bool],[]⟩,a2Q⟩
def hw4 : List (Nat × How) := [(5,.con pontagelaw21_awakeC),(6,.con pontagelaw14_ValidParamsC),(10,.con pricer_AddPosterC),(11,.con pontageref21_AddPosterC),(12,.con pricer_AddUnitsC),(13,.con pontageref21_AddUnitsC),(14,.con pricer_ReportC),(15,.con pontageref21_ReportC),(16,.con pontagelaw21_agreeC),(17,.con pontagelaw0_EqualPricerC),(18,.con pricer_ValidC),(20,.con pontagelaw16_GenerateC),(21,.con pontageref21_ValidC)]
def h0W : Env := a1S tp tys eqs hw4 owns meths
def h0V : a4E := fun p c => match p,c with | [1000000,4],3 => some (.join ⟨(dd 5 (.pl (.int .u64)::.pl (.sl a0W)::.pl (.int .u64)::.ptr 0 []::.ptr 1 []::.ptr 2 []::.ptr 3 []::.ptr 4 []::dd 31 (.pl .bool::dd 128 []))),[.box a0E (.pl a0E),.box a0I (.pl a0I),.box (.arr 8 (.int .u64)) (.pl (.arr 8 (.int .u64))),.box a1C (.pl a1C),.box a0V (.pl a0V)]⟩) | [1000000,4],4 => some (.join ⟨(dd 5 (.pl (.int .u64)::.pl (.sl a0W)::.pl (.int .u64)::.ptr 0 []::.ptr 1 []::.ptr 2 []::.ptr 3 []::.ptr 4 []::dd 160 [])),[.box a0E (.pl a0E),.box a0I (.pl a0I),.box (.arr 8 (.int .u64)) (.pl (.arr 8 (.int .u64))),.box a1C (.pl a1C),.box a0V (.pl a0V)]⟩) | [1000000,4],7 => some (.join ⟨(dd 5 (.pl (.int .u64)::dd 1 (.pl (.int .u64)::.ptr 0 []::.ptr 1 []::.ptr 2 []::.ptr 3 []::.ptr 4 []::dd 4 (.ptr 5 []::dd 155 [])))),[.box a0E (.pl a0E),.box a0I (.pl a0I),.box (.arr 8 (.int .u64)) (.pl (.arr 8 (.int .u64))),.box a1C (.pl a1C),.box a0V (.pl a0V),.box a0E (.pl a0E)]⟩) | [4],0 => some (.tmpl ⟨(dd 5 (.pl (.int .u64)::dd 1 (.pl (.int .u64)::dd 1 (.ptr 0 []::.ptr 1 []::.ptr 2 []::.ptr 3 []::dd 58 (.pl (.arr 2 a0E)::.pl (.int .i64)::dd 100 []))))),[.box a0I (.pl a0I),.box (.arr 8 (.int .u64)) (.pl (.arr 8 (.int .u64))),.box a1C (.pl a1C),.box a0V (.pl a0V)]⟩) | [4],2 => some (.tmpl ⟨(dd 5 (.pl (.int .u64)::dd 1 (.pl (.int .u64)::dd 1 (.ptr 0 []::.ptr 1 []::.ptr 2 []::.ptr 3 []::dd 6 (.ptr 4 []::dd 51 (.pl (.arr 2 a0E)::.pl (.int .i64)::dd 5 (.pl (.arr 2 a0I)::.pl (.int .i64)::dd 93 []))))))),[.box a0I (.pl a0I),.box (.arr 8 (.int .u64)) (.pl (.arr 8 (.int .u64))),.box a1C (.pl a1C),.box a0V (.pl a0V),.box a0E (.pl a0E)]⟩) | _,_ => none
theorem ev4 : ∀ x,a0X h0W h0V 4 pontagelaw21_PricerArbitraryStatesC.In pontagelaw21_PricerArbitraryStatesC.Out 160 K0 x = a2Q x := by intro x; kernel_rfl
theorem ok4 : a1K tp 4 pontagelaw21_PricerArbitraryStatesC := a0H (E := h0W) (a1T a1U a1V (show HowsOk tp hw4 from (And.intro ok5 (And.intro ok6 (And.intro g9V (And.intro h4X (And.intro h3X (And.intro h6L (And.intro g8Z (And.intro h4W (And.intro ok16 (And.intro h2O (And.intro g4L (And.intro h5L (And.intro g4I trivial)))))))))))))) follows a0R) a0Y fun x _ h => ⟨h0V,160,K0,(ev4 x).trans h⟩
end
end Sym

/- Rules for what a printed function computes. -/
namespace Sym
open Go
def Wp {R : Type} (T : R → Prop) (r : R) : Prop := T r
theorem Wp.brn {R : Type} {T : R → Prop} {c : Bool} {t f : R} (h1 : c = true → Wp T t) (h2 : c = false → Wp T f) : Wp T (brn c t f) := by
 cases c
 ·
  exact h2 rfl
 ·
  exact h1 rfl
theorem Wp.brnT {R : Type} {T : R → Prop} {c : Bool} {t f : R} (hc : c = true) (h : Wp T t) : Wp T (Sym.brn c t f) := by subst hc; exact h
theorem Wp.brnF {R : Type} {T : R → Prop} {c : Bool} {t f : R} (hc : c = false) (h : Wp T f) : Wp T (Sym.brn c t f) := by subst hc; exact h
theorem Wp.optF {R Y : Type} {T : R → Prop} {fail : R} {o : Option Y} {k : Y → R} {y : Y} (ho : o = some y) (h : Wp T (k y)) : Wp T (optF fail o k) := by subst ho; exact h
theorem Wp.call {R Y : Type} {T : R → Prop} {fail : R} {o : Option Y} {k : Y → R} {P : Y → Prop} (ho : ∃ y, o = some y ∧ P y) (h : ∀ y, P y → Wp T (k y)) : Wp T (Sym.optF fail o k) := by
 obtain ⟨y, rfl, hp⟩ := ho
 exact h y hp
theorem Wp.jn {X R : Type} {T : R → Prop} {J : X → R} {f : (X → R) → R} (P : X → Prop) (h1 : ∀ x, P x → Wp T (J x)) (h2 : ∀ j : X → R, (∀ x, P x → Wp T (j x)) → Wp T (f j)) : Wp T (jn J f) := h2 J h1
def Rnd {X R : Type} (T : R → Prop) (Inv : X → Prop) (μ : X → Nat) (m : Nat) (s : Stp X R) : Prop :=
 match s with
 | .again y => Inv y ∧ μ y < m
 | .done r => Wp T r
theorem Wp.again {X R : Type} {T : R → Prop} {Inv : X → Prop} {μ : X → Nat} {m : Nat} {y : X} (h1 : Inv y) (h2 : μ y < m) : Wp (Rnd T Inv μ m) (.again y : Stp X R) := ⟨h1, h2⟩
theorem Wp.done {X R : Type} {T : R → Prop} {Inv : X → Prop} {μ : X → Nat} {m : Nat} {r : R} (h : Wp T r) : Wp (Rnd T Inv μ m) (.done r : Stp X R) := h
theorem Wp.iter {X R : Type} {T : R → Prop} {fail : R} {f : X → Stp X R} {x : X} (Inv : X → Prop) (μ : X → Nat) {k : Nat} (h : ∀ x, Inv x → Wp (Rnd T Inv μ (μ x)) (f x)) (hi : Inv x) (hm : μ x < k) : Wp T (iter fail f k x) := by
 induction k generalizing x with
 | zero => omega
 | succ k ih =>
  have h1 := h x hi
  unfold Sym.iter
  cases hf : f x with
  | again y =>
   rw [hf] at h1
   exact ih h1.1 (Nat.lt_of_lt_of_le h1.2 (by omega))
  | done r =>
   rw [hf] at h1
   exact h1
def Nxt {X R : Type} (T : R → Prop) (fail : R) (f : X → Stp X R) (k : Nat) (s : Stp X R) : Prop :=
 match s with
 | .again y => Wp T (Sym.iter fail f k y)
 | .done r => Wp T r
theorem Wp.unroll {X R : Type} {T : R → Prop} {fail : R} {f : X → Stp X R} {x : X} {k : Nat} (h : Wp (Nxt T fail f k) (f x)) : Wp T (Sym.iter fail f (k + 1) x) := by
 unfold Sym.iter
 cases hf : f x with
 | again y => rw [hf] at h; exact h
 | done r => rw [hf] at h; exact h
theorem Wp.next {X R : Type} {T : R → Prop} {fail : R} {f : X → Stp X R} {y : X} {k : Nat} (h : Wp T (Sym.iter fail f k y)) : Wp (Nxt T fail f k) (.again y) := h
theorem Wp.stop {X R : Type} {T : R → Prop} {fail : R} {f : X → Stp X R} {r : R} {k : Nat} (h : Wp T r) : Wp (Nxt T fail f k) (.done r) := h
theorem Wp.out {R : Type} {T : R → Prop} {r : R} (h : Wp T r) : T r := h
theorem I.of_val {k : IntKind} {n : Int} (h : k.min ≤ n ∧ n ≤ k.max) : (I.of k n).val = n := a5Z h
theorem b1K {n : Int} (h : 0 ≤ n ∧ n < 18446744073709551616) : (I.of .u64 n).val = n := I.of_val ⟨by simp [IntKind.min, IntKind.signed]; omega, by simp [IntKind.max, IntKind.bits, IntKind.signed]; omega⟩
theorem b1T {n : Int} (h : -9223372036854775808 ≤ n ∧ n < 9223372036854775808) : (I.of .i64 n).val = n := I.of_val ⟨by simp [IntKind.min, IntKind.bits, IntKind.signed]; omega, by simp [IntKind.max, IntKind.bits, IntKind.signed]; omega⟩
theorem g2A {n : Int} (h : 0 ≤ n ∧ n < 256) : (I.of .u8 n).val = n := I.of_val ⟨by simp [IntKind.min, IntKind.signed]; omega, by simp [IntKind.max, IntKind.bits, IntKind.signed]; omega⟩
theorem a2Z (x : I .u64) : 0 ≤ x.val ∧ x.val < 18446744073709551616 := b6A x
theorem b4F (x : I .i64) : -9223372036854775808 ≤ x.val ∧ x.val < 9223372036854775808 := by
 have h := x.ok
 have h1 : (2 ^ IntKind.i64.bits : Int) = 18446744073709551616 := by decide
 have h2 : (2 ^ (IntKind.i64.bits - 1) : Int) = 9223372036854775808 := by decide
 have h3 : IntKind.i64.signed = true := rfl
 simp only [IntKind.wrap, h1, h2, h3, Bool.true_and, decide_eq_true_eq] at h
 split at h <;> omega
theorem iff_ltb {k : IntKind} {a b : I k} : I.ltb a b = true ↔ a.val < b.val := by simp [I.ltb]
theorem iff_leb {k : IntKind} {a b : I k} : I.leb a b = true ↔ a.val ≤ b.val := by simp [I.leb]
theorem iff_eqb {k : IntKind} {a b : I k} : I.eqb a b = true ↔ a.val = b.val := by simp [I.eqb]
theorem iff_neb {k : IntKind} {a b : I k} : I.neb a b = true ↔ a.val ≠ b.val := by simp [I.neb]
theorem niff_ltb {k : IntKind} {a b : I k} : I.ltb a b = false ↔ b.val ≤ a.val := by simp [I.ltb]
theorem niff_leb {k : IntKind} {a b : I k} : I.leb a b = false ↔ b.val < a.val := by simp [I.leb]
theorem niff_eqb {k : IntKind} {a b : I k} : I.eqb a b = false ↔ a.val ≠ b.val := by simp [I.eqb]
theorem niff_neb {k : IntKind} {a b : I k} : I.neb a b = false ↔ a.val = b.val := by simp [I.neb]
theorem iff_nz {k : IntKind} {a : I k} : I.nz a = true ↔ a.val ≠ 0 := by simp [I.nz]
theorem iff_nn {k : IntKind} {a : I k} : I.nn a = true ↔ 0 ≤ a.val := by simp [I.nn]
theorem iff_inB {k : IntKind} {a : I k} {n : Nat} : inB a n = true ↔ 0 ≤ a.val ∧ a.val < n := by simp [inB]
theorem iff_fits {n : Nat} : a2P n = true ↔ n ≤ 1073741824 := by simp [a2P]
theorem a2S {n : Nat} (h : n < 9223372036854775808) : (I.ofNat .i64 n).val = n := b1T ⟨by omega, by omega⟩
theorem a3D {a b : I .i64} (h : -9223372036854775808 ≤ a.val + b.val ∧ a.val + b.val < 9223372036854775808) : (I.add a b).val = a.val + b.val := b1T h
theorem a8X {a b : I .i64} (h : -9223372036854775808 ≤ a.val - b.val ∧ a.val - b.val < 9223372036854775808) : (I.sub a b).val = a.val - b.val := b1T h
theorem b9M {a b : I .i64} (h : -9223372036854775808 ≤ a.val * b.val ∧ a.val * b.val < 9223372036854775808) : (I.mul a b).val = a.val * b.val := b1T h
theorem c5L {a b : I .i64} (h : 0 ≤ a.val) (h2 : 0 < b.val) : (I.rem a b).val = a.val % b.val := by
 have ha := b4F a
 have hb := b4F b
 have e : a.val.tmod b.val = a.val % b.val := Int.tmod_eq_emod_of_nonneg h
 have h3 := Int.emod_nonneg a.val (b := b.val) (by omega)
 have h4 := Int.emod_lt_of_pos a.val h2
 unfold I.rem
 rw [e]
 exact b1T ⟨by omega, by omega⟩
theorem c1C {a b : I .i64} (h : 0 ≤ a.val) (h2 : 0 < b.val) : (I.quo a b).val = a.val / b.val := by
 have ha := b4F a
 have e : a.val.tdiv b.val = a.val / b.val := Int.tdiv_eq_ediv_of_nonneg h
 have h3 : 0 ≤ a.val / b.val := Int.ediv_nonneg h (by omega)
 have h4 : a.val / b.val ≤ a.val := Int.ediv_le_self _ h
 unfold I.quo
 rw [e]
 exact b1T ⟨by omega, by omega⟩
theorem d4P {a b : I .u64} (h : a.val + b.val < 18446744073709551616) : (I.add a b).val = a.val + b.val := b1K ⟨by have := a2Z a; have := a2Z b; omega, h⟩
theorem f1H {a b : I .u64} (h : b.val ≤ a.val) : (I.sub a b).val = a.val - b.val := b1K ⟨by omega, by have := a2Z a; have := a2Z b; omega⟩
theorem e0H {a b : I .u64} (h2 : b.val ≠ 0) : (I.rem a b).val = a.val % b.val := by
 have ha := a2Z a
 have hb := a2Z b
 have e : a.val.tmod b.val = a.val % b.val := Int.tmod_eq_emod_of_nonneg ha.1
 have h3 := Int.emod_nonneg a.val (b := b.val) (by omega)
 have h4 := Int.emod_lt_of_pos a.val (b := b.val) (by omega)
 unfold I.rem
 rw [e]
 exact b1K ⟨by omega, by omega⟩
theorem f2U {a b : I .u64} : (I.quo a b).val = a.val / b.val := by
 have ha := a2Z a
 have hb := a2Z b
 have e : a.val.tdiv b.val = a.val / b.val := Int.tdiv_eq_ediv_of_nonneg ha.1
 have h3 : 0 ≤ a.val / b.val := Int.ediv_nonneg ha.1 hb.1
 have h4 : a.val / b.val ≤ a.val := Int.ediv_le_self _ ha.1
 unfold I.quo
 rw [e]
 exact b1K ⟨by omega, by omega⟩
theorem b6T (a : I .u64) : I.nn a = true := iff_nn.2 (a2Z a).1
theorem f3H {a : I .u64} (h : a.val < 64) : (I.shl (I.of .u64 1) a).val = 2 ^ a.val.toNat := by
 have ha := a2Z a
 have hm : min a.val.toNat IntKind.u64.bits = a.val.toNat := by
  have : IntKind.u64.bits = 64 := rfl
  omega
 have h1 : (I.of .u64 1).val = 1 := rfl
 unfold I.shl
 rw [hm, h1, Int.one_mul]
 refine b1K ⟨Int.le_of_lt (Int.pow_pos (by decide)), ?_⟩
 have h3 : 2 ^ a.val.toNat ≤ 2 ^ 63 := Nat.pow_le_pow_right (by decide) (by omega)
 have h4 : ((2 ^ a.val.toNat : Nat) : Int) = 2 ^ a.val.toNat := by simp
 rw [← h4]
 omega
end Sym

/- Natural numbers as ints; lists as rows. -/
namespace Sym
open Go
def i6 (n : Nat) : I .i64 := I.of .i64 (n : Int)
theorem a1D {n : Nat} (h : n < 9223372036854775808) : (i6 n).val = n := b1T ⟨by omega, by omega⟩
theorem a3H {n : Nat} (h : n < 9223372036854775808) : I.nat (i6 n) = n := by unfold I.nat; rw [a1D h]; simp
theorem a5W {n m : Nat} (h : n + m < 9223372036854775808) : I.add (i6 n) (i6 m) = i6 (n + m) := by
 apply I.ext'
 rw [a3D (by rw [a1D (by omega), a1D (by omega)]; omega), a1D (by omega), a1D (by omega), a1D h]
 omega
theorem c4V {n m : Nat} (h : n < 9223372036854775808) (hm : m ≤ n) : I.sub (i6 n) (i6 m) = i6 (n - m) := by
 apply I.ext'
 rw [a8X (by rw [a1D (by omega), a1D (by omega)]; omega), a1D (by omega), a1D (by omega), a1D (by omega)]
 omega
theorem a5U {n m : Nat} (hn : n < 9223372036854775808) (hm : m < 9223372036854775808) : I.ltb (i6 n) (i6 m) = decide (n < m) := by
 simp only [I.ltb, a1D hn, a1D hm]
 by_cases h : n < m
 ·
  rw [decide_eq_true h, decide_eq_true (by omega)]
 ·
  rw [decide_eq_false h, decide_eq_false (by omega)]
theorem e7V {n m : Nat} (hn : n < 9223372036854775808) (hm : m < 9223372036854775808) : I.leb (i6 n) (i6 m) = decide (n ≤ m) := by
 simp only [I.leb, a1D hn, a1D hm]
 by_cases h : n ≤ m
 ·
  rw [decide_eq_true h, decide_eq_true (by omega)]
 ·
  rw [decide_eq_false h, decide_eq_false (by omega)]
theorem a3F {n m : Nat} (hn : n < m) (hm : n < 9223372036854775808) : inB (i6 n) m = true := iff_inB.2 (by rw [a1D hm]; omega)
theorem i6_inB' {n m : Nat} (hn : n ≤ m) (hm : n < 9223372036854775808) : inB' (i6 n) m = true := by
 simp only [inB', Bool.and_eq_true, decide_eq_true_eq, a1D hm]
 omega
theorem g7Y (n : Nat) : I.of .i64 (n : Int) = i6 n := rfl
theorem a4I (n : Nat) : I.ofNat .i64 n = i6 n := rfl
theorem e2M {n m : Nat} (hn : n < 9223372036854775808) (hm : m < 9223372036854775808) : I.eqb (i6 n) (i6 m) = decide (n = m) := by
 simp only [I.eqb, a1D hn, a1D hm]
 by_cases h : n = m
 ·
  rw [decide_eq_true h, decide_eq_true (by omega)]
 ·
  rw [decide_eq_false h, decide_eq_false (by omega)]
theorem a3Z {X : Type} (d : X) : ∀ (l : List X) (i : Nat) (h : i < l.length), rdL d l i = l[i]
 | x :: l, 0, _ => rfl
 | x :: l, i + 1, h => a3Z d l i (by simpa using h)
theorem b1Y {X : Type} (d : X) : ∀ (l : List X) (i : Nat), l.length ≤ i → rdL d l i = d
 | [], _, _ => rfl
 | _ :: _, 0, h => by simp at h
 | _ :: l, i + 1, h => b1Y d l i (by simpa using h)
theorem a2J {X : Type} : ∀ (l : List X) (i : Nat) (v : X), setAt l i v = l.set i v
 | [], _, _ => rfl
 | _ :: _, 0, _ => rfl
 | x :: l, i + 1, v => by simp [setAt, a2J l i v]
theorem b4C {X : Type} (d : X) (l : List X) (i k : Nat) (v : X) : rdL d (setAt l i v) k = if k = i ∧ i < l.length then v else rdL d l k := by
 rw [a2J]
 by_cases hk : k < l.length
 ·
  rw [a3Z d _ k (by simpa using hk), List.getElem_set]
  by_cases h : k = i
  ·
   subst h; simp [hk]
  ·
   rw [if_neg (by omega), if_neg (by omega), a3Z d l k hk]
 ·
  rw [b1Y _ _ _ (by simp; omega), b1Y _ _ _ (by omega), if_neg (by omega)]
theorem e1A {X : Type} (d : X) (l m : List X) (k : Nat) : rdL d (l ++ m) k = if k < l.length then rdL d l k else rdL d m (k - l.length) := by
 induction l generalizing k with
 | nil => simp
 | cons x l ih =>
  cases k with
  | zero => simp [rdL]
  | succ k =>
   simp only [List.cons_append, rdL, ih, List.length_cons, Nat.add_lt_add_iff_right, Nat.add_sub_add_right]
theorem d7V {X : Type} (d : X) (l : List X) (n k : Nat) (h : k < n) : rdL d (l.take n) k = rdL d l k := by
 by_cases hk : k < l.length
 ·
  rw [a3Z d _ k (by simp; omega), a3Z d l k hk, List.getElem_take]
 ·
  rw [b1Y _ _ _ (by simp; omega), b1Y _ _ _ (by omega)]
theorem b9G {X : Type} (d : X) (l : List X) (k : Nat) (h : k < l.length) : rdL d l k ∈ l := by rw [a3Z d l k h]; exact List.getElem_mem h
theorem b9K {X : Type} (d : X) {l : List X} {x : X} (h : x ∈ l) : ∃ k, k < l.length ∧ rdL d l k = x := by
 obtain ⟨k, hk, e⟩ := List.getElem_of_mem h
 exact ⟨k, hk, by rw [a3Z d l k hk, e]⟩
theorem d2W {X : Type} (s : List X) (n : Nat) : a6E s 0 n = s.take n := by simp [a6E]
theorem d9U {X : Type} (s : List X) (n : Nat) : a6E s n (s.length - n) = s.drop n := by
 simp only [a6E]
 exact List.take_of_length_le (by simp)
theorem a4W {X : Type} (l : List X) : a0O l = l.length := rfl
theorem f1Y {X : Type} (l m : List X) : a0G l m = l ++ m := rfl
theorem d4U : ∀ (t : Ty), t.eqOk = true → ∀ x y : t.D, Ty.eqb t x y = true ↔ x = y := by
 intro t
 induction t with
 | int k => intro _ x y; simp only [Ty.eqb, decide_eq_true_eq]; exact ⟨fun h => I.ext' h, fun h => by rw [h]⟩
 | bool => intro _ x y; exact (by decide : ∀ a b : Bool, (a == b) = true ↔ a = b) x y
 | nil => intro _ x y; exact ⟨fun _ => rfl, fun _ => rfl⟩
 | cons a b iha ihb =>
  intro h x y
  simp only [Ty.eqOk, Bool.and_eq_true] at h
  simp only [Ty.eqb, Bool.and_eq_true, iha h.1, ihb h.2]
  obtain ⟨x1, x2⟩ := x
  obtain ⟨y1, y2⟩ := y
  exact ⟨fun h => by rw [show x1 = y1 from h.1, show x2 = y2 from h.2], fun h => ⟨congrArg Prod.fst h, congrArg Prod.snd h⟩⟩
 | arr n t ih =>
  intro h x y
  have key : ∀ (n : Nat) (x y : Arr t.D n), Arr.eqb t.eqb n x y = true ↔ x = y := by
   intro n
   induction n with
   | zero => intro x y; exact ⟨fun _ => rfl, fun _ => rfl⟩
   | succ n ihn =>
    intro x y
    simp only [Arr.eqb, Bool.and_eq_true, ih h, ihn]
    obtain ⟨x1, x2⟩ := x
    obtain ⟨y1, y2⟩ := y
    exact ⟨fun h => by rw [show x1 = y1 from h.1, show x2 = y2 from h.2], fun h => ⟨congrArg Prod.fst h, congrArg Prod.snd h⟩⟩
  exact key n x y
 | str => intro h; cases h
 | sl t _ => intro h; cases h
 | opq => intro h; cases h
theorem eqb_self' {t : Ty} (h : t.eqOk = true) (x : t.D) : Ty.eqb t x x = true := (d4U t h x x).2 rfl
theorem a7Y {n : Nat} (h : n ≤ 1073741824) : a2P n = true := iff_fits.2 h
end Sym

/- Natural numbers by digits of 65536: what the reference's first functions compute. -/
namespace Sym
open Go
abbrev Dg : Type := I .i64
def bv : List Dg → Nat
 | [] => 0
 | d :: l => d.nat + 65536 * bv l
def DigOk (d : Dg) : Prop := 0 ≤ d.val ∧ d.val < 65536
def b2S (l : List Dg) : Prop := ∀ d ∈ l, DigOk d
def e8G : List Dg → Prop
 | [] => True
 | [d] => d.val ≠ 0
 | _ :: e :: l => e8G (e :: l)
structure IsB (l : List Dg) (n : Nat) : Prop where
 dig : b2S l
 lead : e8G l
 val : bv l = n
theorem DigOk.nat {d : Dg} (h : DigOk d) : (d.nat : Int) = d.val ∧ d.nat < 65536 := by
 unfold DigOk at h
 unfold I.nat
 omega
theorem digs_cons {d : Dg} {l : List Dg} : b2S (d :: l) ↔ DigOk d ∧ b2S l := by
 unfold b2S
 simp
theorem digs_app {l r : List Dg} : b2S (l ++ r) ↔ b2S l ∧ b2S r := by
 unfold b2S
 simp only [List.mem_append]
 exact ⟨fun h => ⟨fun d hd => h d (.inl hd), fun d hd => h d (.inr hd)⟩, fun h d hd => hd.elim (h.1 d) (h.2 d)⟩
theorem b7G {l : List Dg} (h : b2S l) (n : Nat) : b2S (l.take n) := fun d hd => h d (List.mem_of_mem_take hd)
theorem d9L : ∀ {l : List Dg}, b2S l → bv l < 65536 ^ l.length
 | [], _ => by simp [bv]
 | d :: l, h => by
  have h := digs_cons.1 h
  have h1 := h.1.nat.2
  have h2 := d9L h.2
  simp only [bv, List.length_cons, Nat.pow_succ]
  omega
theorem c3S : IsB [] 0 := ⟨fun _ h => by simp at h, trivial, rfl⟩
theorem b7M : ∀ (l r : List Dg), bv (l ++ r) = bv l + 65536 ^ l.length * bv r
 | [], r => by simp [bv]
 | d :: l, r => by
  simp only [List.cons_append, bv, List.length_cons, b7M l r, Nat.pow_succ, Nat.mul_add]
  rw [Nat.mul_comm (65536 ^ l.length) 65536, Nat.mul_assoc]
  omega
theorem b7V : ∀ (l : List Dg) (d : Dg), d.val ≠ 0 → e8G (l ++ [d])
 | [], d, h => h
 | [e], d, h => h
 | e :: f :: l, d, h => b7V (f :: l) d h
theorem f7M : ∀ {l : List Dg}, b2S l → e8G l → l ≠ [] → 65536 ^ (l.length - 1) ≤ bv l
 | [], _, _, h => absurd rfl h
 | [d], hd, hl, _ => by
  have h := (digs_cons.1 hd).1.nat.1
  have : d.val ≠ 0 := hl
  simp only [bv, List.length_singleton, Nat.sub_self, Nat.pow_zero]
  omega
 | d :: e :: l, hd, hl, _ => by
  have := f7M (l := e :: l) (digs_cons.1 hd).2 hl (by simp)
  simp only [List.length_cons, Nat.add_sub_cancel] at this ⊢
  simp only [bv, Nat.pow_succ] at *
  omega
theorem IsB.len {l : List Dg} {n k : Nat} (h : IsB l n) : l.length ≤ k ↔ n < 65536 ^ k := by
 have h1 := d9L h.dig
 rw [h.val] at h1
 constructor
 ·
  intro hk
  exact Nat.lt_of_lt_of_le h1 (Nat.pow_le_pow_right (by decide) hk)
 ·
  intro hn
  rcases Nat.lt_or_ge k l.length with hk | hk
  ·
   have h2 := f7M h.dig h.lead (by intro e; subst e; simp at hk)
   rw [h.val] at h2
   have h3 : 65536 ^ k ≤ 65536 ^ (l.length - 1) := Nat.pow_le_pow_right (by decide) (by omega)
   omega
  ·
   exact hk
theorem b1S (n : Nat) (h : n < 2 ^ 64) : n < K0 := by rw [a5J]; exact h
theorem d0B (l : List Dg) (hd : b2S l) (hl : l.length ≤ 1073741824) : ∃ r, a4H ((l, ()), ()) = some ((r, ()), ()) ∧ IsB r (bv l) := by
 have key : Wp (fun o => ∃ r, o = some ((r, ()), ()) ∧ IsB r (bv l)) (a4H ((l, ()), ())) := by
  have hlen : (I.ofNat .i64 (a0O l)).val = l.length := a2S (by show l.length < _; omega)
  have c1 : (I.of .i64 1).val = 1 := rfl
  have c0 : (I.of .i64 0).val = 0 := rfl
  unfold a4H
  refine Wp.iter (fun x => x.1.1 = l ∧ 0 ≤ x.1.2.1.val ∧ x.1.2.1.val ≤ (l.length : Int) ∧ bv (l.take x.1.2.1.val.toNat) = bv l) (fun x => x.1.2.1.val.toNat) ?_ ?_ ?_
  ·
   rintro ⟨⟨l', i, ⟨⟩⟩, ⟨⟩⟩ ⟨e1, hi0, hi1, hb⟩
   simp only at e1 hi0 hi1 hb
   subst e1
   have cut : inB' i (a0O l') = true := by
    show (decide (0 ≤ i.val) && decide (i.val ≤ ((l'.length : Nat) : Int))) = true
    simp [hi0, hi1]
   have sub : a6E l' 0 (I.nat i) = l'.take i.val.toNat := by simp [a6E, I.nat]
   refine Wp.brn (fun h => ?_) (fun h => ?_)
   ·
    have h := iff_ltb.1 h
    simp only [c0] at h
    have hs : (I.sub i (I.of .i64 1)).val = i.val - 1 := by rw [a8X (by omega)]; omega
    have hidx : (I.nat (I.sub i (I.of .i64 1))) = i.val.toNat - 1 := by unfold I.nat; omega
    have hlt : i.val.toNat - 1 < l'.length := by omega
    have hrd : rdL (I.of .i64 0) l' (I.nat (I.sub i (I.of .i64 1))) = l'[i.val.toNat - 1] := by rw [hidx]; exact a3Z _ _ _ hlt
    have htk : l'.take i.val.toNat = l'.take (i.val.toNat - 1) ++ [l'[i.val.toNat - 1]] := by
     rw [List.take_append_getElem hlt]
     congr 1
     omega
    refine Wp.brnT (iff_inB.2 ⟨by show 0 ≤ (I.sub i (I.of .i64 1)).val; omega, by show (I.sub i (I.of .i64 1)).val < (l'.length : Int); omega⟩) ?_
    refine Wp.brn (fun h2 => ?_) (fun h2 => ?_)
    ·
     have h2 := iff_eqb.1 h2
     simp only [hrd] at h2
     refine Wp.again ⟨rfl, ?_, ?_, ?_⟩ ?_
     ·
      show 0 ≤ (I.sub i (I.of .i64 1)).val; omega
     ·
      show (I.sub i (I.of .i64 1)).val ≤ _; omega
     ·
      show bv (l'.take (I.sub i (I.of .i64 1)).val.toNat) = _
      have e : (I.sub i (I.of .i64 1)).val.toNat = i.val.toNat - 1 := by omega
      rw [e, ← hb, htk, b7M]
      have hz : (l'[i.val.toNat - 1]).nat = 0 := by unfold I.nat; rw [h2]; rfl
      simp [bv, hz]
     ·
      show (I.sub i (I.of .i64 1)).val.toNat < _
      simp only; omega
    ·
     have h2 := niff_eqb.1 h2
     simp only [hrd] at h2
     refine Wp.done (Wp.brnT cut ⟨_, rfl, ?_⟩)
     show IsB (a6E l' 0 (I.nat i)) _
     rw [sub]
     refine ⟨b7G hd _, ?_, hb⟩
     rw [htk]
     exact b7V _ _ h2
   ·
    have h := niff_ltb.1 h
    simp only [c0] at h
    refine Wp.done (Wp.brnT cut ⟨_, rfl, ?_⟩)
    show IsB (a6E l' 0 (I.nat i)) _
    rw [sub]
    have e : i.val.toNat = 0 := by omega
    rw [e] at hb ⊢
    simp only [List.take_zero] at hb ⊢
    rw [← hb]
    exact c3S
  ·
   refine ⟨rfl, ?_, ?_, ?_⟩
   ·
    show 0 ≤ (I.ofNat .i64 (a0O l)).val; omega
   ·
    show (I.ofNat .i64 (a0O l)).val ≤ _; omega
   ·
    show bv (l.take (I.ofNat .i64 (a0O l)).val.toNat) = _
    rw [hlen, Int.toNat_natCast, List.take_length]
  ·
   refine b1S _ ?_
   show (I.ofNat .i64 (a0O l)).val.toNat < _
   omega
 exact key.out
end Sym

/- Natural numbers by digits of 65536: from and to 256 bits, comparison. -/
namespace Sym
open Go
theorem d7L (k : IntKind) (hk : k.bits = 64) (x : I k) (h : 0 ≤ x.val) (hx : x.val < 18446744073709551616) : ((BitVec.ofInt k.bits x.val &&& BitVec.ofInt k.bits 65535).toNat : Int) = x.val % 65536 := by
 rw [hk, BitVec.toNat_and]
 have h1 : (BitVec.ofInt 64 65535).toNat = 2 ^ 16 - 1 := rfl
 rw [h1, Nat.and_two_pow_sub_one_eq_mod, BitVec.toNat_ofInt]
 omega
theorem f3B (x : I .u64) : (I.and x (I.of .u64 65535)).val = x.val % 65536 := by
 have h := a2Z x
 have := d7L .u64 rfl x h.1 h.2
 have e : (I.of .u64 65535).val = 65535 := rfl
 show (I.of .u64 _).val = _
 rw [e, this]
 exact b1K ⟨by omega, by omega⟩
theorem d4R (x : I .i64) (h : 0 ≤ x.val) : (I.and x (I.of .i64 65535)).val = x.val % 65536 := by
 have h2 := b4F x
 have := d7L .i64 rfl x h (by omega)
 have e : (I.of .i64 65535).val = 65535 := rfl
 show (I.of .i64 _).val = _
 rw [e, this]
 exact b1T ⟨by omega, by omega⟩
theorem c0X (a : Int) (n : Nat) (h : 0 ≤ a) : a.fdiv ((2 : Int) ^ n) = a / (2 : Int) ^ n := by
 have h2 : (0 : Int) ≤ (2 : Int) ^ n := Int.le_of_lt (Int.pow_pos (by decide))
 rw [Int.fdiv_eq_ediv_of_nonneg _ h2]
theorem e0M (x s : I .u64) (hs : s.val < 64) : (I.shr x s).val = x.val / (2 : Int) ^ s.val.toNat := by
 have hx := a2Z x
 have h0 := a2Z s
 have hm : min s.val.toNat IntKind.u64.bits = s.val.toNat := by
  have : IntKind.u64.bits = 64 := rfl
  omega
 unfold I.shr
 rw [hm, c0X _ _ hx.1]
 have h2 : (0 : Int) < (2 : Int) ^ s.val.toNat := Int.pow_pos (by decide)
 have h3 : 0 ≤ x.val / (2 : Int) ^ s.val.toNat := Int.ediv_nonneg hx.1 (by omega)
 have h4 : x.val / (2 : Int) ^ s.val.toNat ≤ x.val := Int.ediv_le_self _ hx.1
 exact b1K ⟨by omega, by omega⟩
theorem c2F (x : I .i64) (h : 0 ≤ x.val) : (I.shr x (I.of .u64 16)).val = x.val / 65536 := by
 have hx := b4F x
 have hm : min (I.of .u64 16).val.toNat IntKind.i64.bits = 16 := rfl
 unfold I.shr
 rw [hm, c0X _ _ h]
 have e : (2 : Int) ^ 16 = 65536 := by decide
 rw [e]
 exact b1T ⟨by omega, by omega⟩
def e1X (a : U) (j : Nat) : Dg := I.conv .i64 (I.and (I.shr (Arr.sel (I.of .u64 0) 4 a (j / 4)) (I.of .u64 (16 * (j % 4) : Nat))) (I.of .u64 65535))
theorem d6N (a : U) (j : Nat) : (e1X a j).val = (Arr.sel (I.of .u64 0) 4 a (j / 4)).val / (2 : Int) ^ (16 * (j % 4)) % 65536 := by
 have h1 : (I.of .u64 (16 * (j % 4) : Nat)).val = (16 * (j % 4) : Nat) := b1K ⟨by omega, by omega⟩
 have h2 := e0M (Arr.sel (I.of .u64 0) 4 a (j / 4)) (I.of .u64 (16 * (j % 4) : Nat)) (by omega)
 rw [h1, Int.toNat_natCast] at h2
 unfold e1X
 show (I.of .i64 _).val = _
 rw [f3B, h2]
 exact b1T ⟨by omega, by omega⟩
theorem e3R (a : U) (j : Nat) : DigOk (e1X a j) := by
 unfold DigOk
 rw [d6N]
 omega
theorem limb (x : I .u64) (d0 d1 d2 d3 : Nat) (h0 : (d0 : Int) = x.val / (2 : Int) ^ 0 % 65536) (h1 : (d1 : Int) = x.val / (2 : Int) ^ 16 % 65536) (h2 : (d2 : Int) = x.val / (2 : Int) ^ 32 % 65536) (h3 : (d3 : Int) = x.val / (2 : Int) ^ 48 % 65536) :
  x.nat = d0 + 65536 * d1 + 4294967296 * d2 + 281474976710656 * d3 := by
 have p0 : (2 : Int) ^ 0 = 1 := by decide
 have p1 : (2 : Int) ^ 16 = 65536 := by decide
 have p2 : (2 : Int) ^ 32 = 4294967296 := by decide
 have p3 : (2 : Int) ^ 48 = 281474976710656 := by decide
 rw [p0] at h0
 rw [p1] at h1
 rw [p2] at h2
 rw [p3] at h3
 have hx := a2Z x
 have hn := a1L x
 omega
theorem h5O (a0 a1 a2 a3 d0 d1 d2 d3 d4 d5 d6 d7 d8 d9 d10 d11 d12 d13 d14 d15 : Nat) (v0 : a0 = d0 + 65536 * d1 + 4294967296 * d2 + 281474976710656 * d3) (v1 : a1 = d4 + 65536 * d5 + 4294967296 * d6 + 281474976710656 * d7)
  (v2 : a2 = d8 + 65536 * d9 + 4294967296 * d10 + 281474976710656 * d11) (v3 : a3 = d12 + 65536 * d13 + 4294967296 * d14 + 281474976710656 * d15) :
  d0 + 65536 * (d1 + 65536 * (d2 + 65536 * (d3 + 65536 * (d4 + 65536 * (d5 + 65536 * (d6 + 65536 * (d7 + 65536 * (d8 + 65536 * (d9 + 65536 * (d10 + 65536 * (d11 + 65536 * (d12 + 65536 * (d13 + 65536 * (d14 + 65536 * (d15 + 65536 * 0))))))))))))))) =
   a0 + 18446744073709551616 * (a1 + 18446744073709551616 * (a2 + 18446744073709551616 * a3)) := by
 subst v0 v1 v2 v3
 omega
theorem e0U (a : U) : bv ((List.range 16).map (e1X a)) = a.val := by
 obtain ⟨a0, a1, a2, a3, ⟨⟩⟩ := a
 have n : ∀ j, ((e1X (a0, a1, a2, a3, ()) j).nat : Int) = (Arr.sel (I.of .u64 0) 4 (a0, a1, a2, a3, ()) (j / 4)).val / (2 : Int) ^ (16 * (j % 4)) % 65536 := fun j => (e3R _ j).nat.1.trans (d6N _ j)
 exact h5O _ _ _ _ _ _ _ _ _ _ _ _ _ _ _ _ _ _ _ _ (limb a0 _ _ _ _ (n 0) (n 1) (n 2) (n 3)) (limb a1 _ _ _ _ (n 4) (n 5) (n 6) (n 7)) (limb a2 _ _ _ _ (n 8) (n 9) (n 10) (n 11)) (limb a3 _ _ _ _ (n 12) (n 13) (n 14) (n 15))
theorem a7P (a : U) : ∃ r, a0K ((a, ()), ()) = some ((r, ()), ()) ∧ IsB r a.val := by
 have key : Wp (fun o => ∃ r, o = some ((r, ()), ()) ∧ IsB r a.val) (a0K ((a, ()), ())) := by
  have c16 : (I.of .i64 16).val = 16 := rfl
  have c4 : (I.of .i64 4).val = 4 := rfl
  have c1 : (I.of .i64 1).val = 1 := rfl
  unfold a0K
  refine Wp.iter (fun x => 0 ≤ x.1.1.val ∧ x.1.1.val ≤ 16 ∧ x.2.1 = a ∧ x.2.2.1 = (List.range x.1.1.val.toNat).map (e1X a) ++ List.replicate (16 - x.1.1.val.toNat) (I.of .i64 0)) (fun x => (16 - x.1.1.val).toNat) ?_ ?_ ?_
  ·
   rintro ⟨⟨i, ⟨⟩⟩, a', out, ⟨⟩⟩ ⟨hi0, hi1, e1, e2⟩
   simp only at hi0 hi1 e1 e2
   subst e1
   refine Wp.brn (fun h => ?_) (fun h => ?_)
   ·
    have h := iff_ltb.1 h
    simp only [c16] at h
    have hq : (I.quo i (I.of .i64 4)).val = i.val / 4 := c1C hi0 (by decide)
    have hr : (I.rem i (I.of .i64 4)).val = i.val % 4 := c5L hi0 (by decide)
    have hlen : out.length = 16 := by rw [e2]; simp; omega
    have hs : (I.add i (I.of .i64 1)).val = i.val + 1 := by rw [a3D (by omega)]; omega
    have hm : (I.mul (I.of .i64 16) (I.rem i (I.of .i64 4))).val = 16 * (i.val % 4) := by rw [b9M (by rw [c16, hr]; omega), hr, c16]
    refine Wp.brnT (iff_inB.2 ⟨by show 0 ≤ (I.quo i (I.of .i64 4)).val; omega, by show (I.quo i (I.of .i64 4)).val < ((4 : Nat) : Int); omega⟩) ?_
    refine Wp.brnT (b6T _) ?_
    refine Wp.brnT (iff_inB.2 ⟨hi0, by show i.val < ((out.length : Nat) : Int); omega⟩) ?_
    refine Wp.again ⟨?_, ?_, rfl, ?_⟩ ?_
    ·
     show 0 ≤ (I.add i (I.of .i64 1)).val; omega
    ·
     show (I.add i (I.of .i64 1)).val ≤ 16; omega
    ·
     have ed : I.conv .i64 (I.and (I.shr (Arr.sel (I.of .u64 0) 4 a' (I.nat (I.quo i (I.of .i64 4)))) (I.conv .u64 (I.mul (I.of .i64 16) (I.rem i (I.of .i64 4))))) (I.of .u64 65535)) = e1X a' i.val.toNat := by
      unfold e1X
      have e1 : I.nat (I.quo i (I.of .i64 4)) = i.val.toNat / 4 := by unfold I.nat; omega
      have e2 : I.conv .u64 (I.mul (I.of .i64 16) (I.rem i (I.of .i64 4))) = I.of .u64 (16 * (i.val.toNat % 4) : Nat) := by
       show I.of .u64 _ = _
       rw [hm]
       congr 1
       omega
      rw [e1, e2]
     show setAt out (I.nat i) _ = (List.range (I.add i (I.of .i64 1)).val.toNat).map (e1X a') ++ List.replicate (16 - (I.add i (I.of .i64 1)).val.toNat) (I.of .i64 0)
     have e3 : (I.add i (I.of .i64 1)).val.toNat = i.val.toNat + 1 := by omega
     have e4 : I.nat i = ((List.range i.val.toNat).map (e1X a')).length := by simp [I.nat]
     have e5 : 16 - i.val.toNat = (16 - (i.val.toNat + 1)) + 1 := by omega
     rw [a2J, e2, e3, e4, List.set_append_right _ _ (Nat.le_refl _), Nat.sub_self, e5, List.replicate_succ, List.set_cons_zero, List.range_succ, List.map_append, List.map_cons, List.map_nil, List.append_assoc]
     show _ ++ _ = _ ++ ([_] ++ _)
     rw [← ed]
     rfl
    ·
     show (16 - (I.add i (I.of .i64 1)).val).toNat < _
     simp only; omega
   ·
    have h := niff_ltb.1 h
    simp only [c16] at h
    have hi : i.val.toNat = 16 := by omega
    rw [hi] at e2
    simp only [Nat.sub_self, List.replicate_zero, List.append_nil] at e2
    subst e2
    have hd : b2S ((List.range 16).map (e1X a')) := by
     intro d hd
     rw [List.mem_map] at hd
     obtain ⟨j, _, rfl⟩ := hd
     exact e3R a' j
    obtain ⟨r, hr, hB⟩ := d0B _ hd (by simp)
    exact Wp.done (Wp.optF hr ⟨r, rfl, hB.dig, hB.lead, hB.val.trans (e0U a')⟩)
  ·
   exact ⟨by show 0 ≤ (I.of .i64 0).val; decide, by show (I.of .i64 0).val ≤ 16; decide, rfl, rfl⟩
  ·
   exact b1S _ (by show (16 - (I.of .i64 0).val).toNat < _; decide)
 exact key.out
end Sym

/- Natural numbers by digits of 65536: to 256 bits, comparison. -/
namespace Sym
open Go
theorem f2Y (x s : I .u64) (hs : s.val < 64) (h : x.val * (2 : Int) ^ s.val.toNat < 18446744073709551616) : (I.shl x s).val = x.val * (2 : Int) ^ s.val.toNat := by
 have hx := a2Z x
 have h0 := a2Z s
 have hm : min s.val.toNat IntKind.u64.bits = s.val.toNat := by
  have : IntKind.u64.bits = 64 := rfl
  omega
 have h2 : (0 : Int) ≤ (2 : Int) ^ s.val.toNat := Int.le_of_lt (Int.pow_pos (by decide))
 unfold I.shl
 rw [hm]
 exact b1K ⟨Int.mul_nonneg hx.1 h2, h⟩
theorem a9Z (x : I .u64) (d r S : Nat) (hd : d < 65536) (hr : r < 4) (hS : (S : Int) = (2 : Int) ^ (16 * r)) (hx : x.nat < S) (hl : S ≤ 281474976710656) : (I.add x (I.shl (I.of .u64 d) (I.of .u64 (16 * r : Nat)))).nat = x.nat + S * d := by
 have h1 : (I.of .u64 (16 * r : Nat)).val = (16 * r : Nat) := b1K ⟨by omega, by omega⟩
 have h2 : (I.of .u64 (d : Int)).val = d := b1K ⟨by omega, by omega⟩
 have hv := a1L x
 have hdS : (d : Int) * S = ((S * d : Nat) : Int) := by rw [Nat.mul_comm, Int.natCast_mul]
 have hle : S * d ≤ 281474976710656 * 65535 := Nat.mul_le_mul hl (by omega)
 have h3 : (I.shl (I.of .u64 d) (I.of .u64 (16 * r : Nat))).val = ((S * d : Nat) : Int) := by
  rw [f2Y _ _ (by omega) (by rw [h1, h2, Int.toNat_natCast, ← hS, hdS]; omega), h1, h2, Int.toNat_natCast, ← hS, hdS]
 have h4 := d4P (a := x) (b := I.shl (I.of .u64 d) (I.of .u64 (16 * r : Nat))) (by rw [h3]; omega)
 rw [h3] at h4
 have h5 := a1L (I.add x (I.shl (I.of .u64 d) (I.of .u64 (16 * r : Nat))))
 omega
theorem e5J (u : U) (d : Nat) (j : Nat) (hj : j < 16) (hu : u.val < 65536 ^ j) (hd : d < 65536) :
  U.val (Arr.upd 4 u (j / 4) (I.add (Arr.sel (I.of .u64 0) 4 u (j / 4)) (I.shl (I.of .u64 d) (I.of .u64 (16 * (j % 4) : Nat))))) = u.val + 65536 ^ j * d := by
 obtain ⟨u0, u1, u2, u3, ⟨⟩⟩ := u
 have n0 := a1Q u0
 have n1 := a1Q u1
 have n2 := a1Q u2
 have n3 := a1Q u3
 unfold U.val at hu
 simp only at hu
 have hc : j = 0 ∨ j = 1 ∨ j = 2 ∨ j = 3 ∨ j = 4 ∨ j = 5 ∨ j = 6 ∨ j = 7 ∨ j = 8 ∨ j = 9 ∨ j = 10 ∨ j = 11 ∨ j = 12 ∨ j = 13 ∨ j = 14 ∨ j = 15 := by omega
 rcases hc with rfl | rfl | rfl | rfl | rfl | rfl | rfl | rfl | rfl | rfl | rfl | rfl | rfl | rfl | rfl | rfl
 ·
  have p : 65536 ^ 0 = 1 := by decide
  rw [p] at hu ⊢
  have k := a9Z u0 d 0 1 hd (by decide) (by decide) (by omega) (by decide)
  show U.val ((I.add u0 (I.shl (I.of .u64 d) (I.of .u64 (16 * 0 : Nat)))), u1, u2, u3, ()) = _
  unfold U.val
  simp only
  omega
 ·
  have p : 65536 ^ 1 = 65536 := by decide
  rw [p] at hu ⊢
  have k := a9Z u0 d 1 65536 hd (by decide) (by decide) (by omega) (by decide)
  show U.val ((I.add u0 (I.shl (I.of .u64 d) (I.of .u64 (16 * 1 : Nat)))), u1, u2, u3, ()) = _
  unfold U.val
  simp only
  omega
 ·
  have p : 65536 ^ 2 = 4294967296 := by decide
  rw [p] at hu ⊢
  have k := a9Z u0 d 2 4294967296 hd (by decide) (by decide) (by omega) (by decide)
  show U.val ((I.add u0 (I.shl (I.of .u64 d) (I.of .u64 (16 * 2 : Nat)))), u1, u2, u3, ()) = _
  unfold U.val
  simp only
  omega
 ·
  have p : 65536 ^ 3 = 281474976710656 := by decide
  rw [p] at hu ⊢
  have k := a9Z u0 d 3 281474976710656 hd (by decide) (by decide) (by omega) (by decide)
  show U.val ((I.add u0 (I.shl (I.of .u64 d) (I.of .u64 (16 * 3 : Nat)))), u1, u2, u3, ()) = _
  unfold U.val
  simp only
  omega
 ·
  have p : 65536 ^ 4 = 18446744073709551616 := by decide
  rw [p] at hu ⊢
  have k := a9Z u1 d 0 1 hd (by decide) (by decide) (by omega) (by decide)
  show U.val (u0, (I.add u1 (I.shl (I.of .u64 d) (I.of .u64 (16 * 0 : Nat)))), u2, u3, ()) = _
  unfold U.val
  simp only
  omega
 ·
  have p : 65536 ^ 5 = 1208925819614629174706176 := by decide
  rw [p] at hu ⊢
  have k := a9Z u1 d 1 65536 hd (by decide) (by decide) (by omega) (by decide)
  show U.val (u0, (I.add u1 (I.shl (I.of .u64 d) (I.of .u64 (16 * 1 : Nat)))), u2, u3, ()) = _
  unfold U.val
  simp only
  omega
 ·
  have p : 65536 ^ 6 = 79228162514264337593543950336 := by decide
  rw [p] at hu ⊢
  have k := a9Z u1 d 2 4294967296 hd (by decide) (by decide) (by omega) (by decide)
  show U.val (u0, (I.add u1 (I.shl (I.of .u64 d) (I.of .u64 (16 * 2 : Nat)))), u2, u3, ()) = _
  unfold U.val
  simp only
  omega
 ·
  have p : 65536 ^ 7 = 5192296858534827628530496329220096 := by decide
  rw [p] at hu ⊢
  have k := a9Z u1 d 3 281474976710656 hd (by decide) (by decide) (by omega) (by decide)
  show U.val (u0, (I.add u1 (I.shl (I.of .u64 d) (I.of .u64 (16 * 3 : Nat)))), u2, u3, ()) = _
  unfold U.val
  simp only
  omega
 ·
  have p : 65536 ^ 8 = 340282366920938463463374607431768211456 := by decide
  rw [p] at hu ⊢
  have k := a9Z u2 d 0 1 hd (by decide) (by decide) (by omega) (by decide)
  show U.val (u0, u1, (I.add u2 (I.shl (I.of .u64 d) (I.of .u64 (16 * 0 : Nat)))), u3, ()) = _
  unfold U.val
  simp only
  omega
 ·
  have p : 65536 ^ 9 = 22300745198530623141535718272648361505980416 := by decide
  rw [p] at hu ⊢
  have k := a9Z u2 d 1 65536 hd (by decide) (by decide) (by omega) (by decide)
  show U.val (u0, u1, (I.add u2 (I.shl (I.of .u64 d) (I.of .u64 (16 * 1 : Nat)))), u3, ()) = _
  unfold U.val
  simp only
  omega
 ·
  have p : 65536 ^ 10 = 1461501637330902918203684832716283019655932542976 := by decide
  rw [p] at hu ⊢
  have k := a9Z u2 d 2 4294967296 hd (by decide) (by decide) (by omega) (by decide)
  show U.val (u0, u1, (I.add u2 (I.shl (I.of .u64 d) (I.of .u64 (16 * 2 : Nat)))), u3, ()) = _
  unfold U.val
  simp only
  omega
 ·
  have p : 65536 ^ 11 = 95780971304118053647396689196894323976171195136475136 := by decide
  rw [p] at hu ⊢
  have k := a9Z u2 d 3 281474976710656 hd (by decide) (by decide) (by omega) (by decide)
  show U.val (u0, u1, (I.add u2 (I.shl (I.of .u64 d) (I.of .u64 (16 * 3 : Nat)))), u3, ()) = _
  unfold U.val
  simp only
  omega
 ·
  have p : 65536 ^ 12 = 6277101735386680763835789423207666416102355444464034512896 := by decide
  rw [p] at hu ⊢
  have k := a9Z u3 d 0 1 hd (by decide) (by decide) (by omega) (by decide)
  show U.val (u0, u1, u2, (I.add u3 (I.shl (I.of .u64 d) (I.of .u64 (16 * 0 : Nat)))), ()) = _
  unfold U.val
  simp only
  omega
 ·
  have p : 65536 ^ 13 = 411376139330301510538742295639337626245683966408394965837152256 := by decide
  rw [p] at hu ⊢
  have k := a9Z u3 d 1 65536 hd (by decide) (by decide) (by omega) (by decide)
  show U.val (u0, u1, u2, (I.add u3 (I.shl (I.of .u64 d) (I.of .u64 (16 * 1 : Nat)))), ()) = _
  unfold U.val
  simp only
  omega
 ·
  have p : 65536 ^ 14 = 26959946667150639794667015087019630673637144422540572481103610249216 := by decide
  rw [p] at hu ⊢
  have k := a9Z u3 d 2 4294967296 hd (by decide) (by decide) (by omega) (by decide)
  show U.val (u0, u1, u2, (I.add u3 (I.shl (I.of .u64 d) (I.of .u64 (16 * 2 : Nat)))), ()) = _
  unfold U.val
  simp only
  omega
 ·
  have p : 65536 ^ 15 = 1766847064778384329583297500742918515827483896875618958121606201292619776 := by decide
  rw [p] at hu ⊢
  have k := a9Z u3 d 3 281474976710656 hd (by decide) (by decide) (by omega) (by decide)
  show U.val (u0, u1, u2, (I.add u3 (I.shl (I.of .u64 d) (I.of .u64 (16 * 3 : Nat)))), ()) = _
  unfold U.val
  simp only
  omega
theorem c2P {l : List Dg} {i : Nat} (h : i < l.length) : bv (l.take (i + 1)) = bv (l.take i) + 65536 ^ i * (l[i]).nat := by
 rw [← List.take_append_getElem h, b7M]
 have e : (l.take i).length = i := by simp; omega
 simp [bv, e]
theorem a2H {l : List Dg} {n : Nat} (hl : IsB l n) (hn : n < U.top) : a1B ((l, ()), ()) = some ((U.of n, ()), ()) := by
 have ht : U.top = 65536 ^ 16 := by decide
 have hlen : l.length ≤ 16 := hl.len.2 (by rw [← ht]; exact hn)
 have c16 : (I.of .i64 16).val = 16 := rfl
 have c4 : (I.of .i64 4).val = 4 := rfl
 have c1 : (I.of .i64 1).val = 1 := rfl
 have hol : (I.ofNat .i64 (a0O l)).val = l.length := a2S (by show l.length < _; omega)
 have key : Wp (fun o => o = some ((U.of n, ()), ())) (a1B ((l, ()), ())) := by
  unfold a1B
  refine Wp.iter (fun x => x.1.1 = l ∧ 0 ≤ x.1.2.1.val ∧ x.1.2.1.val ≤ (l.length : Int) ∧ U.val x.2.2.1 = bv (l.take x.1.2.1.val.toNat)) (fun x => ((l.length : Int) - x.1.2.1.val).toNat) ?_ ?_ ?_
  ·
   rintro ⟨⟨l', i, ⟨⟩⟩, r0, u, ⟨⟩⟩ ⟨e1, hi0, hi1, hu⟩
   simp only at e1 hi0 hi1 hu
   subst e1
   have fin : i.val.toNat = l'.length → u = U.of n := by
    intro e
    rw [e, List.take_length, hl.val] at hu
    rw [← hu]
    exact (U.of_val u).symm
   refine Wp.brn (fun h => ?_) (fun h => ?_)
   ·
    have h := iff_ltb.1 h
    simp only [hol] at h
    have hlt : i.val.toNat < l'.length := by omega
    refine Wp.brnT (iff_ltb.2 (by show i.val < (I.of .i64 16).val; omega)) ?_
    have hq : (I.quo i (I.of .i64 4)).val = i.val / 4 := c1C hi0 (by decide)
    have hr : (I.rem i (I.of .i64 4)).val = i.val % 4 := c5L hi0 (by decide)
    have hs : (I.add i (I.of .i64 1)).val = i.val + 1 := by rw [a3D (by omega)]; omega
    have hm : (I.mul (I.of .i64 16) (I.rem i (I.of .i64 4))).val = 16 * (i.val % 4) := by rw [b9M (by rw [c16, hr]; omega), hr, c16]
    have hin : inB (I.quo i (I.of .i64 4)) 4 = true := iff_inB.2 ⟨by omega, by omega⟩
    refine Wp.brnT hin ?_
    refine Wp.brnT (iff_inB.2 ⟨hi0, by show i.val < ((l'.length : Nat) : Int); omega⟩) ?_
    refine Wp.brnT (b6T _) ?_
    refine Wp.brnT hin ?_
    have hdig : DigOk l'[i.val.toNat] := hl.dig _ (List.getElem_mem hlt)
    have hrd : rdL (I.of .i64 0) l' (I.nat i) = l'[i.val.toNat] := a3Z _ _ _ hlt
    have e1 : I.nat (I.quo i (I.of .i64 4)) = i.val.toNat / 4 := by unfold I.nat; omega
    have e2 : I.conv .u64 (I.mul (I.of .i64 16) (I.rem i (I.of .i64 4))) = I.of .u64 (16 * (i.val.toNat % 4) : Nat) := by
     show I.of .u64 _ = _
     rw [hm]
     congr 1
     omega
    have e3 : I.conv .u64 (rdL (I.of .i64 0) l' (I.nat i)) = I.of .u64 ((l'[i.val.toNat]).nat : Int) := by
     show I.of .u64 _ = _
     rw [hrd, hdig.nat.1]
    have hub : U.val u < 65536 ^ i.val.toNat := by
     rw [hu]
     have := d9L (b7G hl.dig i.val.toNat)
     rw [List.length_take] at this
     rwa [Nat.min_eq_left (by omega)] at this
    have st := e5J u (l'[i.val.toNat]).nat i.val.toNat (by omega) hub hdig.nat.2
    refine Wp.again ⟨rfl, ?_, ?_, ?_⟩ ?_
    ·
     show 0 ≤ (I.add i (I.of .i64 1)).val; omega
    ·
     show (I.add i (I.of .i64 1)).val ≤ _; omega
    ·
     show U.val (Arr.upd 4 u (I.nat (I.quo i (I.of .i64 4))) (I.add (Arr.sel (I.of .u64 0) 4 u (I.nat (I.quo i (I.of .i64 4)))) (I.shl (I.conv .u64 (rdL (I.of .i64 0) l' (I.nat i))) (I.conv .u64 (I.mul (I.of .i64 16) (I.rem i (I.of .i64 4))))))) = bv (l'.take (I.add i (I.of .i64 1)).val.toNat)
     have e4 : (I.add i (I.of .i64 1)).val.toNat = i.val.toNat + 1 := by omega
     rw [e1, e2, e3, e4, st, c2P hlt, ← hu]
    ·
     show ((l'.length : Int) - (I.add i (I.of .i64 1)).val).toNat < _
     simp only; omega
   ·
    have h := niff_ltb.1 h
    simp only [hol] at h
    have := fin (by omega)
    subst this
    exact Wp.done rfl
  ·
   refine ⟨rfl, by show 0 ≤ (I.of .i64 0).val; decide, by show (I.of .i64 0).val ≤ (l.length : Int); have : (I.of .i64 0).val = 0 := rfl; omega, ?_⟩
   show U.val _ = bv (l.take (I.of .i64 0).val.toNat)
   rfl
  ·
   exact b1S _ (by show ((l.length : Int) - (I.of .i64 0).val).toNat < _; have : (I.of .i64 0).val = 0 := rfl; omega)
 exact key.out
def b4V (n : Nat) : U × I .i64 := if n < U.top then (U.of n, I.of .i64 0) else (U.of 0, I.of .i64 4)
theorem c5W {l : List Dg} {n : Nat} (hl : IsB l n) (hlen : l.length < 9223372036854775808) : a2W ((l, ()), ()) = some ((decide (n < U.top), ()), ()) := by
 have ht : U.top = 65536 ^ 16 := by decide
 have h := hl.len (k := 16)
 have hol : (I.ofNat .i64 (a0O l)).val = l.length := a2S hlen
 have c16 : (I.of .i64 16).val = 16 := rfl
 have e : I.leb (I.ofNat .i64 (a0O l)) (I.of .i64 16) = decide (n < U.top) := by
  unfold I.leb
  rw [hol, c16, ht]
  by_cases hc : l.length ≤ 16
  ·
   have := h.1 hc
   simp [this]; omega
  ·
   have : ¬ n < 65536 ^ 16 := fun hh => hc (h.2 hh)
   simp [this]; omega
 refine Wp.out (T := fun o => o = _) ?_
 unfold a2W
 show some ((I.leb (I.ofNat .i64 (a0O l)) (I.of .i64 16), ()), ()) = _
 rw [e]
theorem d8S {l : List Dg} {n : Nat} (hl : IsB l n) (hlen : l.length < 9223372036854775808) : a2N ((l, ()), ()) = some (((b4V n).1, (b4V n).2, ()), ()) := by
 refine Wp.out (T := fun o => o = _) ?_
 unfold a2N b4V
 refine Wp.optF (c5W hl hlen) ?_
 by_cases h : n < U.top
 ·
  refine Wp.brnF (by show (!decide (n < U.top)) = false; simp [h]) ?_
  refine Wp.optF (a2H hl h) ?_
  show _ = _
  rw [if_pos h]
  rfl
 ·
  refine Wp.brnT (by show (!decide (n < U.top)) = true; simp [h]) ?_
  show _ = _
  rw [if_neg h]
  rfl
theorem Checked_ok' {l : List Dg} {n : Nat} (hl : IsB l n) (hlen : l.length ≤ 1000000) : a2N ((l, ()), ()) = some (((b4V n).1, (b4V n).2, ()), ()) := d8S hl (by omega)
def b1F (x : I .u64) : U := (x, I.of .u64 0, I.of .u64 0, I.of .u64 0, ())
theorem a3I (x : I .u64) : (b1F x).val = x.nat := by
 unfold b1F U.val
 have : (I.of .u64 0).nat = 0 := rfl
 simp only [this]
 omega
theorem a7E (x : I .u64) : ∃ r, a1J ((x, ()), ()) = some ((r, ()), ()) ∧ IsB r x.nat := by
 obtain ⟨r, hr, hB⟩ := a7P (b1F x)
 rw [a3I] at hB
 refine ⟨r, ?_, hB⟩
 refine Wp.out (T := fun o => o = _) ?_
 unfold a1J
 exact Wp.optF hr rfl
end Sym

/- Natural numbers by digits of 65536: sums, differences, comparison. -/
namespace Sym
open Go
abbrev rd0 (l : List Dg) (i : Nat) : Dg := rdL (I.of .i64 0) l i
theorem e8M : DigOk (I.of .i64 0) := by unfold DigOk; decide
theorem a9W {l : List Dg} (h : b2S l) (i : Nat) : DigOk (rd0 l i) := by
 rcases Nat.lt_or_ge i l.length with hi | hi
 ·
  rw [rd0, a3Z _ _ _ hi]; exact h _ (List.getElem_mem hi)
 ·
  rw [rd0, b1Y _ _ _ hi]; exact e8M
theorem b8E {l : List Dg} {i : Nat} (h : l.length ≤ i) : (rd0 l i).nat = 0 := by rw [rd0, b1Y _ _ _ h]; rfl
theorem b4G : ∀ (l : List Dg) (i : Nat), bv (l.drop i) = (rd0 l i).nat + 65536 * bv (l.drop (i + 1))
 | [], i => by simp [bv, rd0, rdL]; rfl
 | x :: l, 0 => by simp [bv, rd0, rdL]
 | x :: l, i + 1 => by simpa [rd0, rdL] using b4G l i
theorem b8O (l : List Dg) (i : Nat) : bv (l.take (i + 1)) = bv (l.take i) + 65536 ^ i * (rd0 l i).nat := by
 rcases Nat.lt_or_ge i l.length with hi | hi
 ·
  rw [c2P hi, rd0, a3Z _ _ _ hi]
 ·
  rw [b8E hi, List.take_of_length_le (by omega), List.take_of_length_le hi]; simp
theorem c3Z : ∀ {l : List Dg}, e8G l → ∀ (i : Nat), i + 1 = l.length → (rd0 l i).val ≠ 0
 | [], _, i, h => by simp at h
 | [d], h, i, hi => by
  have : i = 0 := by simpa using hi
  subst this
  exact h
 | d :: e :: l, h, 0, hi => by simp at hi
 | d :: e :: l, h, i + 1, hi => c3Z (l := e :: l) h i (by simpa using hi)
structure AddInv (a b : List Dg) (over i : I .i64) (out : List Dg) : Prop where
 o0 : 0 ≤ over.val
 o1 : over.val ≤ 1
 i0 : 0 ≤ i.val
 i1 : i.val ≤ max a.length b.length ∨ (over.val = 0 ∧ i.val = max a.length b.length + 1)
 len : (out.length : Int) = i.val
 dig : b2S out
 sum : bv out + 65536 ^ i.val.toNat * (over.nat + bv (a.drop i.val.toNat) + bv (b.drop i.val.toNat)) = bv a + bv b
 lead : over.val = 0 → (a.length : Int) ≤ i.val → (b.length : Int) ≤ i.val → e8G out
theorem e5S {a b : List Dg} {over i s : I .i64} {out : List Dg} (ha : b2S a) (hb : b2S b) (la : e8G a) (lb : e8G b) (hal : a.length ≤ 1000000) (hbl : b.length ≤ 1000000) (h : AddInv a b over i out)
  (hc : i.val < a.length ∨ i.val < b.length ∨ 0 < over.val) (hs : s.val = over.val + (rd0 a i.val.toNat).val + (rd0 b i.val.toNat).val) :
  AddInv a b (I.shr s (I.of .u64 16)) (I.add i (I.of .i64 1)) (a0G out [I.and s (I.of .i64 65535)]) := by
 have c1 : (I.of .i64 1).val = 1 := rfl
 have da := a9W ha i.val.toNat
 have db := a9W hb i.val.toNat
 have da2 := da.nat
 have db2 := db.nat
 unfold DigOk at da db
 have ho0 := h.o0
 have ho1 := h.o1
 have hi0 := h.i0
 have hi1 := h.i1
 have hsh := c2F s (by omega)
 have han := d4R s (by omega)
 have hi : (I.add i (I.of .i64 1)).val = i.val + 1 := by rw [a3D (by omega)]; omega
 have hin : (I.add i (I.of .i64 1)).val.toNat = i.val.toNat + 1 := by omega
 have hout : out.length = i.val.toNat := by have := h.len; omega
 refine ⟨by omega, by omega, by omega, ?_, ?_, ?_, ?_, ?_⟩
 ·
  rcases hi1 with hi1 | hi1
  ·
   rcases Int.lt_or_le i.val (max a.length b.length) with hlt | hge
   ·
    left; omega
   ·
    right
    have z1 := b8E (l := a) (i := i.val.toNat) (by omega)
    have z2 := b8E (l := b) (i := i.val.toNat) (by omega)
    omega
  ·
   exfalso; omega
 ·
  show ((a0G out [_]).length : Int) = _
  simp only [a0G, List.length_append, List.length_singleton]
  have := h.len
  omega
 ·
  exact digs_app.2 ⟨h.dig, digs_cons.2 ⟨by unfold DigOk; omega, fun _ h => by simp at h⟩⟩
 ·
  have hsum := h.sum
  rw [b4G a, b4G b] at hsum
  rw [hin]
  have hn1 : (I.and s (I.of .i64 65535)).nat + 65536 * (I.shr s (I.of .u64 16)).nat = over.nat + (rd0 a i.val.toNat).nat + (rd0 b i.val.toNat).nat := by
   unfold I.nat at *
   omega
  have e : over.nat + ((rd0 a i.val.toNat).nat + 65536 * bv (a.drop (i.val.toNat + 1))) + ((rd0 b i.val.toNat).nat + 65536 * bv (b.drop (i.val.toNat + 1))) =
    (I.and s (I.of .i64 65535)).nat + 65536 * ((I.shr s (I.of .u64 16)).nat + bv (a.drop (i.val.toNat + 1)) + bv (b.drop (i.val.toNat + 1))) := by omega
  rw [e, Nat.mul_add, ← Nat.mul_assoc] at hsum
  rw [← hsum, a0G, b7M, hout, Nat.pow_succ]
  simp only [bv, Nat.mul_zero, Nat.add_zero]
  omega
 ·
  intro hz h1 h2
  refine b7V _ _ ?_
  intro hz2
  have hs0 : s.val = 0 := by omega
  rcases hc with hc | hc | hc
  ·
   have := c3Z la i.val.toNat (by omega)
   omega
  ·
   have := c3Z lb i.val.toNat (by omega)
   omega
  ·
   omega
theorem b3I {a b : List Dg} {m n : Nat} (ha : IsB a m) (hb : IsB b n) (hal : a.length ≤ 1000000) (hbl : b.length ≤ 1000000) : ∃ r, a2G ((a, b, ()), ()) = some ((r, ()), ()) ∧ IsB r (m + n) := by
 have hol : (I.ofNat .i64 (a0O a)).val = a.length := a2S (by show a.length < _; omega)
 have hol2 : (I.ofNat .i64 (a0O b)).val = b.length := a2S (by show b.length < _; omega)
 have c0 : (I.of .i64 0).val = 0 := rfl
 have key : Wp (fun o => ∃ r, o = some ((r, ()), ()) ∧ IsB r (m + n)) (a2G ((a, b, ()), ())) := by
  unfold a2G
  refine Wp.iter (fun x => x.1.1 = a ∧ x.1.2.1 = b ∧ AddInv a b x.1.2.2.1 x.1.2.2.2.1 x.2.1) (fun x => ((max a.length b.length : Int) + 2 - x.1.2.2.2.1.val).toNat) ?_ ?_ ?_
  ·
   rintro ⟨⟨a', b', over, i, ⟨⟩⟩, out, ⟨⟩⟩ ⟨e1, e2, hI⟩
   simp only at e1 e2 hI
   subst e1 e2
   have hi0 := hI.i0
   have hi1 := hI.i1
   have ho0 := hI.o0
   have ho1 := hI.o1
   have again : ∀ (s : I .i64), (i.val < a'.length ∨ i.val < b'.length ∨ 0 < over.val) → s.val = over.val + (rd0 a' i.val.toNat).val + (rd0 b' i.val.toNat).val →
     AddInv a' b' (I.shr s (I.of .u64 16)) (I.add i (I.of .i64 1)) (a0G out [I.and s (I.of .i64 65535)]) ∧ ((max a'.length b'.length : Int) + 2 - (I.add i (I.of .i64 1)).val).toNat < ((max a'.length b'.length : Int) + 2 - i.val).toNat := by
    intro s hc hs
    refine ⟨e5S ha.dig hb.dig ha.lead hb.lead hal hbl hI hc hs, ?_⟩
    have c1 : (I.of .i64 1).val = 1 := rfl
    have hi : (I.add i (I.of .i64 1)).val = i.val + 1 := by rw [a3D (by omega)]; omega
    omega
   have fits : a2P (a0O (a0G out [I.of .i64 0])) = true := iff_fits.2 (by show (a0G out [_]).length ≤ _; rw [a0G, List.length_append, List.length_singleton]; have := hI.len; omega)
   have fits' : ∀ d : Dg, a2P (a0O (a0G out [d])) = true := fun d => iff_fits.2 (by show (a0G out [_]).length ≤ _; rw [a0G, List.length_append, List.length_singleton]; have := hI.len; omega)
   refine Wp.jn (fun x => x.1.1 = a' ∧ x.1.2.1 = b' ∧ x.1.2.2.1 = over ∧ x.1.2.2.2.1 = i ∧ x.2.1 = out ∧ (i.val < a'.length ∨ i.val < b'.length ∨ 0 < over.val)) ?_ ?_
   ·
    rintro ⟨⟨a1, b1, over1, i1, ⟨⟩⟩, out1, ⟨⟩⟩ ⟨e1, e2, e3, e4, e5, hc⟩
    simp only at e1 e2 e3 e4 e5
    subst e1 e2 e3 e4 e5
    have ra := a9W ha.dig i1.val.toNat
    have rb := a9W hb.dig i1.val.toNat
    unfold DigOk at ra rb
    refine Wp.jn (fun x => x.1.1 = a1 ∧ x.1.2.1 = b1 ∧ x.1.2.2.1.val = over1.val + (rd0 a1 i1.val.toNat).val ∧ x.1.2.2.2.1 = i1 ∧ x.2.1 = out1) ?_ ?_
    ·
     rintro ⟨⟨a2, b2, over2, i2, ⟨⟩⟩, out2, ⟨⟩⟩ ⟨e1, e2, e3, e4, e5⟩
     simp only at e1 e2 e3 e4 e5
     subst e1 e2 e4 e5
     refine Wp.brn (fun h => ?_) (fun h => ?_)
     ·
      have h := iff_ltb.1 h
      simp only [hol2] at h
      refine Wp.brnT (iff_inB.2 ⟨hi0, by show i2.val < ((b2.length : Nat) : Int); omega⟩) ?_
      have hs : (I.add over2 (rd0 b2 i2.val.toNat)).val = over1.val + (rd0 a2 i2.val.toNat).val + (rd0 b2 i2.val.toNat).val := by rw [a3D (by omega)]; omega
      have := again _ hc hs
      exact Wp.brnT (fits' _) (Wp.again ⟨rfl, rfl, this.1⟩ this.2)
     ·
      have h := niff_ltb.1 h
      simp only [hol2] at h
      have hz := b8E (l := b2) (i := i2.val.toNat) (by omega)
      have hz2 : (rd0 b2 i2.val.toNat).val = 0 := by unfold I.nat at hz; omega
      have := again over2 hc (by omega)
      exact Wp.brnT (fits' _) (Wp.again ⟨rfl, rfl, this.1⟩ this.2)
    ·
     intro j2 hj2
     refine Wp.brn (fun h => ?_) (fun h => ?_)
     ·
      have h := iff_ltb.1 h
      simp only [hol] at h
      refine Wp.brnT (iff_inB.2 ⟨hi0, by show i1.val < ((a1.length : Nat) : Int); omega⟩) ?_
      exact hj2 _ ⟨rfl, rfl, a3D (by show _ ≤ over1.val + (rd0 a1 i1.val.toNat).val ∧ over1.val + (rd0 a1 i1.val.toNat).val < _; omega), rfl, rfl⟩
     ·
      have h := niff_ltb.1 h
      simp only [hol] at h
      have hz := b8E (l := a1) (i := i1.val.toNat) (by omega)
      have hz2 : (rd0 a1 i1.val.toNat).val = 0 := by unfold I.nat at hz; omega
      exact hj2 _ ⟨rfl, rfl, by show over1.val = _; omega, rfl, rfl⟩
   ·
    intro j1 hj1
    refine Wp.brn (fun h => ?_) (fun h => ?_)
    ·
     have h := iff_ltb.1 h
     simp only [hol] at h
     exact hj1 _ ⟨rfl, rfl, rfl, rfl, rfl, .inl h⟩
    ·
     have h := niff_ltb.1 h
     simp only [hol] at h
     refine Wp.brn (fun h2 => ?_) (fun h2 => ?_)
     ·
      have h2 := iff_ltb.1 h2
      simp only [hol2] at h2
      exact hj1 _ ⟨rfl, rfl, rfl, rfl, rfl, .inr (.inl h2)⟩
     ·
      have h2 := niff_ltb.1 h2
      simp only [hol2] at h2
      refine Wp.brn (fun h3 => ?_) (fun h3 => ?_)
      ·
       have h3 := iff_ltb.1 h3
       simp only [c0] at h3
       exact hj1 _ ⟨rfl, rfl, rfl, rfl, rfl, .inr (.inr h3)⟩
      ·
       have h3 := niff_ltb.1 h3
       simp only [c0] at h3
       refine Wp.done ⟨out, rfl, hI.dig, hI.lead (by omega) (by omega) (by omega), ?_⟩
       have hsum := hI.sum
       have hz : over.nat = 0 := by unfold I.nat; omega
       rw [List.drop_of_length_le (l := a') (by omega), List.drop_of_length_le (l := b') (by omega), hz] at hsum
       simp only [bv, Nat.mul_zero, Nat.add_zero] at hsum
       rw [hsum, ha.val, hb.val]
  ·
   refine ⟨rfl, rfl, ?_⟩
   show AddInv a b (I.of .i64 0) (I.of .i64 0) []
   refine ⟨by decide, by decide, by decide, ?_, rfl, fun _ h => by simp at h, ?_, fun _ _ _ => trivial⟩
   ·
    left; show (I.of .i64 0).val ≤ _; omega
   ·
    show bv [] + 65536 ^ (I.of .i64 0).val.toNat * ((I.of .i64 0).nat + bv (a.drop (I.of .i64 0).val.toNat) + bv (b.drop (I.of .i64 0).val.toNat)) = _
    have e : (I.of .i64 0).val.toNat = 0 := rfl
    have e2 : (I.of .i64 0).nat = 0 := rfl
    rw [e, e2]
    simp [bv]
  ·
   exact b1S _ (by show ((max a.length b.length : Int) + 2 - (I.of .i64 0).val).toNat < _; omega)
 exact key.out
end Sym

/- Natural numbers by digits of 65536: differences, comparison. -/
namespace Sym
open Go
theorem b5P : ∀ (n : Nat), b2S (b4L n (I.of .i64 0))
 | 0 => fun _ h => by simp [b4L] at h
 | n + 1 => digs_cons.2 ⟨e8M, b5P n⟩
theorem a9J {X : Type} : ∀ (n : Nat) (x : X), (b4L n x).length = n
 | 0, _ => rfl
 | n + 1, x => by simp [b4L, a9J n x]
theorem b6K {X : Type} (l : List X) (i : Nat) (v : X) (h : i < l.length) : (l.set i v).take (i + 1) = l.take i ++ [v] := by
 have h2 : i < (l.set i v).length := by simpa using h
 rw [← List.take_append_getElem h2]
 simp [List.take_set_of_le]
theorem b2I {l : List Dg} (h : b2S l) (i : Nat) {d : Dg} (hd : DigOk d) : b2S (l.set i d) := by
 intro e he
 rcases List.mem_or_eq_of_mem_set he with h1 | h1
 ·
  exact h e h1
 ·
  subst h1; exact hd
structure SubInv (a b : List Dg) (under i : I .i64) (out : List Dg) : Prop where
 u0 : 0 ≤ under.val
 u1 : under.val ≤ 1
 i0 : 0 ≤ i.val
 i1 : i.val ≤ a.length
 len : out.length = a.length
 dig : b2S out
 sum : bv (out.take i.val.toNat) + bv (b.take i.val.toNat) = bv (a.take i.val.toNat) + 65536 ^ i.val.toNat * under.nat
theorem d7U {a b : List Dg} {under i d un : I .i64} {out : List Dg} (ha : b2S a) (hb : b2S b) (hal : a.length ≤ 1000000) (h : SubInv a b under i out) (hc : i.val < a.length)
  (hd : DigOk d) (hu : un.val = 0 ∨ un.val = 1) (hs : d.val = (rd0 a i.val.toNat).val - under.val - (rd0 b i.val.toNat).val + 65536 * un.val) :
  SubInv a b un (I.add i (I.of .i64 1)) (setAt out (I.nat i) d) := by
 have c1 : (I.of .i64 1).val = 1 := rfl
 have da2 := (a9W ha i.val.toNat).nat
 have db2 := (a9W hb i.val.toNat).nat
 have hd2 := hd.nat
 have hu0 := h.u0
 have hu1 := h.u1
 have hi0 := h.i0
 have hi : (I.add i (I.of .i64 1)).val = i.val + 1 := by rw [a3D (by omega)]; omega
 have hin : (I.add i (I.of .i64 1)).val.toNat = i.val.toNat + 1 := by omega
 have hlen := h.len
 have hni : I.nat i = i.val.toNat := rfl
 rw [a2J, hni]
 refine ⟨by omega, by omega, by omega, by omega, by simpa using hlen, b2I h.dig _ hd, ?_⟩
 rw [hin, b6K _ _ _ (by omega), b7M, b8O a, b8O b]
 have el : (out.take i.val.toNat).length = i.val.toNat := by simp; omega
 rw [el, Nat.pow_succ]
 simp only [bv, Nat.mul_zero, Nat.add_zero]
 have hsum := h.sum
 have e : d.nat + (rd0 b i.val.toNat).nat + under.nat = (rd0 a i.val.toNat).nat + 65536 * un.nat := by
  unfold I.nat at *
  omega
 have e2 := congrArg (fun z => 65536 ^ i.val.toNat * z) e
 simp only [Nat.mul_add] at e2
 rw [← Nat.mul_assoc] at e2
 omega
theorem c2T {a b : List Dg} {m n : Nat} (ha : IsB a m) (hb : IsB b n) (hmn : n ≤ m) (hal : a.length ≤ 1000000) : ∃ r, a2X ((a, b, ()), ()) = some ((r, ()), ()) ∧ IsB r (m - n) := by
 have hbl : b.length ≤ a.length := hb.len.2 (Nat.lt_of_le_of_lt hmn (ha.len.1 (Nat.le_refl _)))
 have hol : (I.ofNat .i64 (a0O a)).val = a.length := a2S (by show a.length < _; omega)
 have hol2 : (I.ofNat .i64 (a0O b)).val = b.length := a2S (by show b.length < _; omega)
 have c0 : (I.of .i64 0).val = 0 := rfl
 have hn : I.nat (I.ofNat .i64 (a0O a)) = a.length := by unfold I.nat; omega
 have key : Wp (fun o => ∃ r, o = some ((r, ()), ()) ∧ IsB r (m - n)) (a2X ((a, b, ()), ())) := by
  unfold a2X
  refine Wp.brnT ?_ ?_
  ·
   show (decide (0 ≤ (I.ofNat .i64 (a0O a)).val) && decide ((I.ofNat .i64 (a0O a)).val ≤ ((I.nat (I.ofNat .i64 (a0O a)) : Nat) : Int))) = true
   rw [hn, hol]; simp
  refine Wp.brnT ?_ ?_
  ·
   show (decide (0 ≤ (I.ofNat .i64 (a0O a)).val) && decide ((I.ofNat .i64 (a0O a)).val ≤ ((1073741824 : Nat) : Int))) = true
   rw [hol]; simp; omega
  refine Wp.iter (fun x => x.1.1 = a ∧ x.1.2.1 = b ∧ SubInv a b x.1.2.2.1 x.1.2.2.2.1 x.2.1) (fun x => ((a.length : Int) - x.1.2.2.2.1.val).toNat) ?_ ?_ ?_
  ·
   rintro ⟨⟨a', b', under, i, ⟨⟩⟩, out, ⟨⟩⟩ ⟨e1, e2, hI⟩
   simp only at e1 e2 hI
   subst e1 e2
   have hi0 := hI.i0
   have hi1 := hI.i1
   have hu0 := hI.u0
   have hu1 := hI.u1
   refine Wp.brn (fun h => ?_) (fun h => ?_)
   ·
    have hlt := iff_ltb.1 h
    simp only [hol] at hlt
    clear h
    have ra := a9W ha.dig i.val.toNat
    have rb := a9W hb.dig i.val.toNat
    have ra' := ra
    have rb' := rb
    unfold DigOk at ra rb
    have c1 : (I.of .i64 1).val = 1 := rfl
    have hi : (I.add i (I.of .i64 1)).val = i.val + 1 := by rw [a3D (by omega)]; omega
    have hm : ((a'.length : Int) - (I.add i (I.of .i64 1)).val).toNat < ((a'.length : Int) - i.val).toNat := by omega
    have hlen := hI.len
    refine Wp.brnT (iff_inB.2 ⟨hi0, by show i.val < ((a'.length : Nat) : Int); omega⟩) ?_
    refine Wp.jn (fun x => x.1.1 = a' ∧ x.1.2.1 = b' ∧ x.1.2.2.1 = i ∧ x.1.2.2.2.1.val = (rd0 a' i.val.toNat).val - under.val - (rd0 b' i.val.toNat).val ∧ x.2.1 = out) ?_ ?_
    ·
     rintro ⟨⟨a1, b1, i1, x, ⟨⟩⟩, out1, ⟨⟩⟩ ⟨e1, e2, e3, e4, e5⟩
     simp only at e1 e2 e3 e4 e5
     subst e1 e2 e3 e5
     refine Wp.brn (fun h2 => ?_) (fun h2 => ?_)
     ·
      have h2 := iff_ltb.1 h2
      simp only [c0] at h2
      refine Wp.brnT (iff_inB.2 ⟨hi0, by show i1.val < ((out1.length : Nat) : Int); omega⟩) ?_
      have c6 : (I.of .i64 65536).val = 65536 := rfl
      have hx : (I.add x (I.of .i64 65536)).val = x.val + 65536 := by rw [a3D (by omega)]; omega
      have st := d7U (un := I.of .i64 1) (d := I.add x (I.of .i64 65536)) ha.dig hb.dig hal hI hlt (by unfold DigOk; omega) (.inr rfl) (by omega)
      exact Wp.again ⟨rfl, rfl, st⟩ hm
     ·
      have h2 := niff_ltb.1 h2
      simp only [c0] at h2
      refine Wp.brnT (iff_inB.2 ⟨hi0, by show i1.val < ((out1.length : Nat) : Int); omega⟩) ?_
      have st := d7U (un := I.of .i64 0) (d := x) ha.dig hb.dig hal hI hlt (by unfold DigOk; omega) (.inl rfl) (by omega)
      exact Wp.again ⟨rfl, rfl, st⟩ hm
    ·
     intro j hj
     have hs1 : (I.sub (rd0 a' i.val.toNat) under).val = (rd0 a' i.val.toNat).val - under.val := a8X (by omega)
     refine Wp.brn (fun h2 => ?_) (fun h2 => ?_)
     ·
      have h2 := iff_ltb.1 h2
      simp only [hol2] at h2
      refine Wp.brnT (iff_inB.2 ⟨hi0, by show i.val < ((b'.length : Nat) : Int); omega⟩) ?_
      refine hj _ ⟨rfl, rfl, rfl, ?_, rfl⟩
      show (I.sub (I.sub (rd0 a' i.val.toNat) under) (rd0 b' i.val.toNat)).val = _
      rw [a8X (by omega), hs1]
     ·
      have h2 := niff_ltb.1 h2
      simp only [hol2] at h2
      have hz := b8E (l := b') (i := i.val.toNat) (by omega)
      have hz2 : (rd0 b' i.val.toNat).val = 0 := by unfold I.nat at hz; omega
      refine hj _ ⟨rfl, rfl, rfl, ?_, rfl⟩
      show (I.sub (rd0 a' i.val.toNat) under).val = _
      omega
   ·
    have h := niff_ltb.1 h
    simp only [hol] at h
    have hlen := hI.len
    have hsum := hI.sum
    have hi : i.val.toNat = a'.length := by omega
    rw [hi, List.take_of_length_le (by omega), List.take_of_length_le hbl, List.take_length, ha.val, hb.val] at hsum
    have hlt := d9L hI.dig
    rw [hlen] at hlt
    have hz : under.nat = 0 := by
     unfold I.nat
     rcases Int.lt_or_le under.val 1 with h1 | h1
     ·
      omega
     ·
      exfalso
      have : under.nat = 1 := by unfold I.nat; omega
      rw [this] at hsum
      omega
    rw [hz, Nat.mul_zero, Nat.add_zero] at hsum
    have hbv : bv out = m - n := by omega
    have holen : (I.ofNat .i64 (a0O out)).val = out.length := a2S (by show out.length < _; omega)
    clear hsum h
    refine Wp.done ?_
    refine Wp.iter (fun x => x.2.1 = out ∧ 0 ≤ x.1.1.val ∧ x.1.1.val ≤ (out.length : Int) ∧ bv (out.take x.1.1.val.toNat) = bv out) (fun x => x.1.1.val.toNat) ?_ ?_ ?_
    ·
     rintro ⟨⟨j, r⟩, out', ⟨⟩⟩ ⟨e1, hj0, hj1, hb⟩
     simp only at e1 hj0 hj1 hb
     subst e1
     have c1 : (I.of .i64 1).val = 1 := rfl
     have cut : inB' j (a0O out') = true := by
      show (decide (0 ≤ j.val) && decide (j.val ≤ ((out'.length : Nat) : Int))) = true
      simp [hj0, hj1]
     have sub : a6E out' 0 (I.nat j) = out'.take j.val.toNat := by simp [a6E, I.nat]
     refine Wp.brn (fun h => ?_) (fun h => ?_)
     ·
      have h := iff_ltb.1 h
      have h : (I.of .i64 0).val < j.val := h
      have hs : (I.sub j (I.of .i64 1)).val = j.val - 1 := by rw [a8X (by omega)]; omega
      have hidx : (I.nat (I.sub j (I.of .i64 1))) = j.val.toNat - 1 := by unfold I.nat; omega
      have hlt : j.val.toNat - 1 < out'.length := by omega
      have hrd : rdL (I.of .i64 0) out' (I.nat (I.sub j (I.of .i64 1))) = out'[j.val.toNat - 1] := by rw [hidx]; exact a3Z _ _ _ hlt
      have htk : out'.take j.val.toNat = out'.take (j.val.toNat - 1) ++ [out'[j.val.toNat - 1]] := by
       rw [List.take_append_getElem hlt]
       congr 1
       omega
      refine Wp.brnT (iff_inB.2 ⟨by show 0 ≤ (I.sub j (I.of .i64 1)).val; omega, by show (I.sub j (I.of .i64 1)).val < (out'.length : Int); omega⟩) ?_
      refine Wp.brn (fun h2 => ?_) (fun h2 => ?_)
      ·
       have h2 := iff_eqb.1 h2
       have h2 : (rdL (I.of .i64 0) out' (I.nat (I.sub j (I.of .i64 1)))).val = (I.of .i64 0).val := h2
       rw [hrd] at h2
       refine Wp.again ⟨rfl, ?_, ?_, ?_⟩ ?_
       ·
        show 0 ≤ (I.sub j (I.of .i64 1)).val; omega
       ·
        show (I.sub j (I.of .i64 1)).val ≤ _; omega
       ·
        show bv (out'.take (I.sub j (I.of .i64 1)).val.toNat) = _
        have e : (I.sub j (I.of .i64 1)).val.toNat = j.val.toNat - 1 := by omega
        rw [e, ← hb, htk, b7M]
        have hz : (out'[j.val.toNat - 1]).nat = 0 := by unfold I.nat; rw [h2]; rfl
        simp [bv, hz]
       ·
        show (I.sub j (I.of .i64 1)).val.toNat < j.val.toNat
        omega
      ·
       have h2 := niff_eqb.1 h2
       have h2 : (rdL (I.of .i64 0) out' (I.nat (I.sub j (I.of .i64 1)))).val ≠ (I.of .i64 0).val := h2
       rw [hrd] at h2
       refine Wp.done (Wp.brnT cut ⟨_, rfl, ?_⟩)
       show IsB (a6E out' 0 (I.nat j)) _
       rw [sub]
       refine ⟨b7G hI.dig _, ?_, hb.trans hbv⟩
       rw [htk]
       exact b7V _ _ h2
     ·
      have h := niff_ltb.1 h
      have h : j.val ≤ (I.of .i64 0).val := h
      refine Wp.done (Wp.brnT cut ⟨_, rfl, ?_⟩)
      show IsB (a6E out' 0 (I.nat j)) _
      rw [sub]
      have e : j.val.toNat = 0 := by omega
      rw [e] at hb ⊢
      simp only [List.take_zero] at hb ⊢
      rw [← hbv, ← hb]
      exact c3S
    ·
     refine ⟨rfl, ?_, ?_, ?_⟩
     ·
      show 0 ≤ (I.ofNat .i64 (a0O out)).val; omega
     ·
      show (I.ofNat .i64 (a0O out)).val ≤ _; omega
     ·
      show bv (out.take (I.ofNat .i64 (a0O out)).val.toNat) = _
      rw [holen, Int.toNat_natCast, List.take_length]
    ·
     refine b1S _ ?_
     show (I.ofNat .i64 (a0O out)).val.toNat < _
     omega
  ·
   refine ⟨rfl, rfl, ?_⟩
   show SubInv a b (I.of .i64 0) (I.of .i64 0) (b4L (I.nat (I.ofNat .i64 (a0O a))) (I.of .i64 0))
   rw [hn]
   have e : (I.of .i64 0).val.toNat = 0 := rfl
   refine ⟨by decide, by decide, by decide, by omega, a9J _ _, b5P _, ?_⟩
   rw [e]
   rfl
  ·
   exact b1S _ (by show ((a.length : Int) - (I.of .i64 0).val).toNat < _; omega)
 exact key.out
def c1F (m n : Nat) : I .i64 := if m < n then I.of .i64 (-1) else if n < m then I.of .i64 1 else I.of .i64 0
theorem e8U {a b : List Dg} (ha : b2S a) (hb : b2S b) (i : Nat) (hd : bv (a.drop (i + 1)) = bv (b.drop (i + 1))) (hlt : (rd0 a i).nat < (rd0 b i).nat) (hia : i ≤ a.length) (hib : i ≤ b.length) : bv a < bv b := by
 have e1 : bv a = bv (a.take i) + 65536 ^ i * bv (a.drop i) := by
  have := b7M (a.take i) (a.drop i)
  rw [List.take_append_drop] at this
  rw [this]; simp [Nat.min_eq_left hia]
 have e2 : bv b = bv (b.take i) + 65536 ^ i * bv (b.drop i) := by
  have := b7M (b.take i) (b.drop i)
  rw [List.take_append_drop] at this
  rw [this]; simp [Nat.min_eq_left hib]
 have h1 := d9L (b7G ha i)
 rw [List.length_take, Nat.min_eq_left hia] at h1
 have h2 : bv (a.drop i) + 1 ≤ bv (b.drop i) := by rw [b4G a, b4G b]; omega
 have h3 := Nat.mul_le_mul_left (65536 ^ i) h2
 rw [Nat.mul_add] at h3
 omega
theorem c7G {a b : List Dg} {m n : Nat} (ha : IsB a m) (hb : IsB b n) (hal : a.length ≤ 1000000) (hbl : b.length ≤ 1000000) : a3Q ((a, b, ()), ()) = some ((c1F m n, ()), ()) := by
 have hol : (I.ofNat .i64 (a0O a)).val = a.length := a2S (by show a.length < _; omega)
 have hol2 : (I.ofNat .i64 (a0O b)).val = b.length := a2S (by show b.length < _; omega)
 have c0 : (I.of .i64 0).val = 0 := rfl
 have c1 : (I.of .i64 1).val = 1 := rfl
 have key : Wp (fun o => o = some ((c1F m n, ()), ())) (a3Q ((a, b, ()), ())) := by
  unfold a3Q
  refine Wp.brn (fun h => ?_) (fun h => ?_)
  ·
   have h := iff_neb.1 h
   simp only [hol, hol2] at h
   refine Wp.brn (fun h2 => ?_) (fun h2 => ?_)
   ·
    have h2 := iff_ltb.1 h2
    simp only [hol, hol2] at h2
    have h3 : m < n := by
     rcases Nat.lt_or_ge m n with h3 | h3
     ·
      exact h3
     ·
      have := hb.len.2 (Nat.lt_of_le_of_lt h3 (ha.len.1 (Nat.le_refl _)))
      omega
    show _ = _
    unfold c1F
    rw [if_pos h3]
    rfl
   ·
    have h2 := niff_ltb.1 h2
    simp only [hol, hol2] at h2
    have h3 : n < m := by
     rcases Nat.lt_or_ge n m with h3 | h3
     ·
      exact h3
     ·
      have := ha.len.2 (Nat.lt_of_le_of_lt h3 (hb.len.1 (Nat.le_refl _)))
      omega
    show _ = _
    unfold c1F
    rw [if_neg (by omega), if_pos h3]
    rfl
  ·
   have h := niff_neb.1 h
   simp only [hol, hol2] at h
   have hs : (I.sub (I.ofNat .i64 (a0O a)) (I.of .i64 1)).val = a.length - 1 := by rw [a8X (by omega)]; omega
   refine Wp.iter (fun x => x.1.1 = a ∧ x.1.2.1 = b ∧ -1 ≤ x.1.2.2.1.val ∧ x.1.2.2.1.val < (a.length : Int) ∧ bv (a.drop (x.1.2.2.1.val + 1).toNat) = bv (b.drop (x.1.2.2.1.val + 1).toNat)) (fun x => (x.1.2.2.1.val + 1).toNat) ?_ ?_ ?_
   ·
    rintro ⟨⟨a', b', i, ⟨⟩⟩, ⟨⟩⟩ ⟨e1, e2, hi0, hi1, hd⟩
    simp only at e1 e2 hi0 hi1 hd
    subst e1 e2
    refine Wp.brn (fun h2 => ?_) (fun h2 => ?_)
    ·
     have h2 := iff_leb.1 h2
     simp only [c0] at h2
     have ha1 : inB i (a0O a') = true := iff_inB.2 ⟨h2, by show i.val < ((a'.length : Nat) : Int); omega⟩
     have hb1 : inB i (a0O b') = true := iff_inB.2 ⟨h2, by show i.val < ((b'.length : Nat) : Int); omega⟩
     have en : (i.val + 1).toNat = i.val.toNat + 1 := by omega
     rw [en] at hd
     have na := (a9W ha.dig i.val.toNat).nat
     have nb := (a9W hb.dig i.val.toNat).nat
     refine Wp.brnT ha1 (Wp.brnT hb1 ?_)
     refine Wp.brn (fun h3 => ?_) (fun h3 => ?_)
     ·
      have h3 := iff_ltb.1 h3
      have h3 : (rd0 a' i.val.toNat).val < (rd0 b' i.val.toNat).val := h3
      have := e8U ha.dig hb.dig i.val.toNat hd (by omega) (by omega) (by omega)
      rw [ha.val, hb.val] at this
      refine Wp.done ?_
      show _ = _
      unfold c1F
      rw [if_pos this]
      rfl
     ·
      have h3 := niff_ltb.1 h3
      have h3 : (rd0 b' i.val.toNat).val ≤ (rd0 a' i.val.toNat).val := h3
      refine Wp.brnT ha1 (Wp.brnT hb1 ?_)
      refine Wp.brn (fun h4 => ?_) (fun h4 => ?_)
      ·
       have h4 := iff_ltb.1 h4
       have h4 : (rd0 b' i.val.toNat).val < (rd0 a' i.val.toNat).val := h4
       have := e8U hb.dig ha.dig i.val.toNat hd.symm (by omega) (by omega) (by omega)
       rw [ha.val, hb.val] at this
       refine Wp.done ?_
       show _ = _
       unfold c1F
       rw [if_neg (by omega), if_pos this]
       rfl
      ·
       have h4 := niff_ltb.1 h4
       have h4 : (rd0 a' i.val.toNat).val ≤ (rd0 b' i.val.toNat).val := h4
       have hsi : (I.sub i (I.of .i64 1)).val = i.val - 1 := by rw [a8X (by omega)]; omega
       refine Wp.again ⟨rfl, rfl, ?_, ?_, ?_⟩ ?_
       ·
        show -1 ≤ (I.sub i (I.of .i64 1)).val; omega
       ·
        show (I.sub i (I.of .i64 1)).val < _; omega
       ·
        show bv (a'.drop ((I.sub i (I.of .i64 1)).val + 1).toNat) = bv (b'.drop ((I.sub i (I.of .i64 1)).val + 1).toNat)
        have e : ((I.sub i (I.of .i64 1)).val + 1).toNat = i.val.toNat := by omega
        rw [e, b4G a', b4G b', hd]
        omega
       ·
        show ((I.sub i (I.of .i64 1)).val + 1).toNat < _
        simp only; omega
    ·
     have h2 := niff_leb.1 h2
     simp only [c0] at h2
     have e : (i.val + 1).toNat = 0 := by omega
     rw [e] at hd
     simp only [List.drop_zero] at hd
     rw [ha.val, hb.val] at hd
     refine Wp.done ?_
     show _ = _
     unfold c1F
     rw [if_neg (by omega), if_neg (by omega)]
     rfl
   ·
    refine ⟨rfl, rfl, ?_, ?_, ?_⟩
    ·
     show -1 ≤ (I.sub (I.ofNat .i64 (a0O a)) (I.of .i64 1)).val; omega
    ·
     show (I.sub (I.ofNat .i64 (a0O a)) (I.of .i64 1)).val < _; omega
    ·
     show bv (a.drop ((I.sub (I.ofNat .i64 (a0O a)) (I.of .i64 1)).val + 1).toNat) = bv (b.drop ((I.sub (I.ofNat .i64 (a0O a)) (I.of .i64 1)).val + 1).toNat)
     have e : ((I.sub (I.ofNat .i64 (a0O a)) (I.of .i64 1)).val + 1).toNat = a.length := by omega
     rw [e, List.drop_of_length_le (Nat.le_refl _), List.drop_of_length_le (by omega)]
   ·
    exact b1S _ (by show ((I.sub (I.ofNat .i64 (a0O a)) (I.of .i64 1)).val + 1).toNat < _; omega)
 exact key.out
end Sym

/- Limbs of 256 bits; products of 64 bits. -/
namespace Sym
open Go
abbrev W64 : Nat := 18446744073709551616
def limb' (a : U) (i : Nat) : Nat := (Arr.sel (I.of .u64 0) 4 a i).nat
theorem c4U (a : U) (i : Nat) : limb' a i < W64 := a1Q _
theorem c0B (a : U) (i : Nat) (h : i < 4) : a.val % W64 ^ (i + 1) = a.val % W64 ^ i + W64 ^ i * limb' a i := by
 obtain ⟨a0, a1, a2, a3, ⟨⟩⟩ := a
 have n0 := a1Q a0
 have n1 := a1Q a1
 have n2 := a1Q a2
 have n3 := a1Q a3
 have p0 : W64 ^ 0 = 1 := by decide
 have p1 : W64 ^ 1 = 18446744073709551616 := by decide
 have p2 : W64 ^ 2 = 340282366920938463463374607431768211456 := by decide
 have p3 : W64 ^ 3 = 6277101735386680763835789423207666416102355444464034512896 := by decide
 have p4 : W64 ^ 4 = 115792089237316195423570985008687907853269984665640564039457584007913129639936 := by decide
 have hc : i = 0 ∨ i = 1 ∨ i = 2 ∨ i = 3 := by omega
 rcases hc with rfl | rfl | rfl | rfl
 ·
  show U.val _ % W64 ^ 1 = U.val _ % W64 ^ 0 + W64 ^ 0 * a0.nat
  rw [p0, p1]; unfold U.val; simp only; omega
 ·
  show U.val _ % W64 ^ 2 = U.val _ % W64 ^ 1 + W64 ^ 1 * a1.nat
  rw [p1, p2]; unfold U.val; simp only; omega
 ·
  show U.val _ % W64 ^ 3 = U.val _ % W64 ^ 2 + W64 ^ 2 * a2.nat
  rw [p2, p3]; unfold U.val; simp only; omega
 ·
  show U.val _ % W64 ^ 4 = U.val _ % W64 ^ 3 + W64 ^ 3 * a3.nat
  rw [p3, p4]; unfold U.val; simp only; omega
theorem e0E (a : U) (i : Nat) (z : I .u64) (h : i < 4) : U.val (Arr.upd 4 a i z) + W64 ^ i * limb' a i = a.val + W64 ^ i * z.nat := by
 obtain ⟨a0, a1, a2, a3, ⟨⟩⟩ := a
 have p0 : W64 ^ 0 = 1 := by decide
 have p1 : W64 ^ 1 = 18446744073709551616 := by decide
 have p2 : W64 ^ 2 = 340282366920938463463374607431768211456 := by decide
 have p3 : W64 ^ 3 = 6277101735386680763835789423207666416102355444464034512896 := by decide
 have hc : i = 0 ∨ i = 1 ∨ i = 2 ∨ i = 3 := by omega
 rcases hc with rfl | rfl | rfl | rfl
 ·
  show U.val (z, a1, a2, a3, ()) + W64 ^ 0 * a0.nat = U.val (a0, a1, a2, a3, ()) + W64 ^ 0 * z.nat
  rw [p0]; unfold U.val; simp only; omega
 ·
  show U.val (a0, z, a2, a3, ()) + W64 ^ 1 * a1.nat = U.val (a0, a1, a2, a3, ()) + W64 ^ 1 * z.nat
  rw [p1]; unfold U.val; simp only; omega
 ·
  show U.val (a0, a1, z, a3, ()) + W64 ^ 2 * a2.nat = U.val (a0, a1, a2, a3, ()) + W64 ^ 2 * z.nat
  rw [p2]; unfold U.val; simp only; omega
 ·
  show U.val (a0, a1, a2, z, ()) + W64 ^ 3 * a3.nat = U.val (a0, a1, a2, a3, ()) + W64 ^ 3 * z.nat
  rw [p3]; unfold U.val; simp only; omega
theorem d4J (x : I .u64) (n : Nat) (m : I .u64) (hn : n < 64) (hm : m.val = ((2 ^ n - 1 : Nat) : Int)) : (I.and x m).nat = x.nat % 2 ^ n := by
 have hx := a2Z x
 have h1 : (BitVec.ofInt 64 x.val).toNat = x.nat := by rw [BitVec.toNat_ofInt]; unfold I.nat; omega
 have hp : 2 ^ n ≤ 2 ^ 63 := Nat.pow_le_pow_right (by decide) (by omega)
 have h2 : (BitVec.ofInt 64 m.val).toNat = 2 ^ n - 1 := by rw [BitVec.toNat_ofInt, hm]; omega
 have h3 : (BitVec.ofInt IntKind.u64.bits x.val &&& BitVec.ofInt IntKind.u64.bits m.val).toNat = x.nat % 2 ^ n := by
  show (BitVec.ofInt 64 x.val &&& BitVec.ofInt 64 m.val).toNat = _
  rw [BitVec.toNat_and, h1, h2, Nat.and_two_pow_sub_one_eq_mod]
 unfold I.and
 rw [h3]
 have h4 : x.nat % 2 ^ n < 2 ^ n := Nat.mod_lt _ (Nat.pow_pos (by decide))
 exact b4M (by omega)
theorem d4X (x s : I .u64) (hs : s.nat < 64) : (I.shr x s).nat = x.nat / 2 ^ s.nat := by
 have h0 := a2Z s
 have hx := a2Z x
 have h := e0M x s (by unfold I.nat at hs; omega)
 have e : s.val.toNat = s.nat := rfl
 rw [e] at h
 have h1 : ((x.nat / 2 ^ s.nat : Nat) : Int) = x.val / (2 : Int) ^ s.nat := by
  rw [Int.natCast_ediv, a1L]
  simp
 have := a1L (I.shr x s)
 omega
theorem f2L (a b : I .u64) : (I.mul a b).nat = a.nat * b.nat % W64 := by
 have h1 := a1L a
 have h2 := a1L b
 unfold I.mul
 have : a.val * b.val = ((a.nat * b.nat : Nat) : Int) := by rw [← h1, ← h2, Int.natCast_mul]
 rw [this]
 show (IntKind.u64.wrap _).toNat = _ % 18446744073709551616
 rw [wrap_u64]
 omega
theorem c1M (a b : I .u64) : (I.add a b).nat = (a.nat + b.nat) % W64 := by
 have h1 := a1L a
 have h2 := a1L b
 show (IntKind.u64.wrap (a.val + b.val)).toNat = _ % 18446744073709551616
 rw [wrap_u64]
 omega
theorem d6Q (a b : I .u64) : ∃ hi lo : I .u64, a6O ((a, b, ()), ()) = some ((hi, lo, ()), ()) ∧ lo.nat + W64 * hi.nat = a.nat * b.nat := by
 refine ⟨_, _, rfl, ?_⟩
 show (I.mul a b).nat + W64 * (I.add (I.add (I.mul (I.shr a (I.of .u64 32)) (I.shr b (I.of .u64 32))) (I.shr (I.add (I.mul (I.shr a (I.of .u64 32)) (I.and b (I.of .u64 4294967295))) (I.shr (I.mul (I.and a (I.of .u64 4294967295)) (I.and b (I.of .u64 4294967295))) (I.of .u64 32))) (I.of .u64 32)))
  (I.shr (I.add (I.and (I.add (I.mul (I.shr a (I.of .u64 32)) (I.and b (I.of .u64 4294967295))) (I.shr (I.mul (I.and a (I.of .u64 4294967295)) (I.and b (I.of .u64 4294967295))) (I.of .u64 32))) (I.of .u64 4294967295)) (I.mul (I.and a (I.of .u64 4294967295)) (I.shr b (I.of .u64 32)))) (I.of .u64 32))).nat = _
 have c32 : (I.of .u64 32).nat = 32 := rfl
 have p32 : 2 ^ 32 = 4294967296 := by decide
 have sh : ∀ x : I .u64, (I.shr x (I.of .u64 32)).nat = x.nat / 4294967296 := fun x => by rw [d4X _ _ (by decide), c32, p32]
 have an : ∀ x : I .u64, (I.and x (I.of .u64 4294967295)).nat = x.nat % 4294967296 := fun x => by rw [d4J x 32 _ (by decide) (by decide), p32]
 simp only [f2L, c1M, sh, an]
 have ha := a1Q a
 have hb := a1Q b
 have ea : a.nat = 4294967296 * (a.nat / 4294967296) + a.nat % 4294967296 := by omega
 have eb : b.nat = 4294967296 * (b.nat / 4294967296) + b.nat % 4294967296 := by omega
 generalize hA1 : a.nat / 4294967296 = a1 at *
 generalize hA0 : a.nat % 4294967296 = a0 at *
 generalize hB1 : b.nat / 4294967296 = b1 at *
 generalize hB0 : b.nat % 4294967296 = b0 at *
 have la1 : a1 ≤ 4294967295 := by omega
 have la0 : a0 ≤ 4294967295 := by omega
 have lb1 : b1 ≤ 4294967295 := by omega
 have lb0 : b0 ≤ 4294967295 := by omega
 have m11 : a1 * b1 ≤ 4294967295 * 4294967295 := Nat.mul_le_mul la1 lb1
 have m10 : a1 * b0 ≤ 4294967295 * 4294967295 := Nat.mul_le_mul la1 lb0
 have m01 : a0 * b1 ≤ 4294967295 * 4294967295 := Nat.mul_le_mul la0 lb1
 have m00 : a0 * b0 ≤ 4294967295 * 4294967295 := Nat.mul_le_mul la0 lb0
 have prod : a.nat * b.nat = 18446744073709551616 * (a1 * b1) + 4294967296 * (a1 * b0) + 4294967296 * (a0 * b1) + a0 * b0 := by
  rw [ea, eb, Nat.add_mul, Nat.mul_add, Nat.mul_add]
  have e1 : 4294967296 * a1 * (4294967296 * b1) = 18446744073709551616 * (a1 * b1) := by
   rw [Nat.mul_mul_mul_comm]
  have e2 : 4294967296 * a1 * b0 = 4294967296 * (a1 * b0) := Nat.mul_assoc _ _ _
  have e3 : a0 * (4294967296 * b1) = 4294967296 * (a0 * b1) := Nat.mul_left_comm _ _ _
  rw [e1, e2, e3]
  omega
 rw [prod]
 generalize a1 * b1 = p11 at *
 generalize a1 * b0 = p10 at *
 generalize a0 * b1 = p01 at *
 generalize a0 * b0 = p00 at *
 clear ea eb prod ha hb hA1 hA0 hB1 hB0
 unfold W64
 omega
end Sym

/- Products of 256 bits. -/
namespace Sym
open Go
theorem e0A (x y : I .u64) : I.neb (I.or x y) (I.of .u64 0) = false ↔ x.nat = 0 ∧ y.nat = 0 := by
 rw [niff_neb]
 have c0 : (I.of .u64 0).val = 0 := rfl
 have h1 : (BitVec.ofInt 64 x.val).toNat = x.nat := by have := a2Z x; rw [BitVec.toNat_ofInt]; unfold I.nat; omega
 have h2 : (BitVec.ofInt 64 y.val).toNat = y.nat := by have := a2Z y; rw [BitVec.toNat_ofInt]; unfold I.nat; omega
 have h3 : (BitVec.ofInt IntKind.u64.bits x.val ||| BitVec.ofInt IntKind.u64.bits y.val).toNat = x.nat ||| y.nat := by
  show (BitVec.ofInt 64 x.val ||| BitVec.ofInt 64 y.val).toNat = _
  rw [BitVec.toNat_or, h1, h2]
 have hlt : x.nat ||| y.nat < 2 ^ 64 := Nat.or_lt_two_pow (a1Q x) (a1Q y)
 have h4 : (I.or x y).val = ((x.nat ||| y.nat : Nat) : Int) := by
  unfold I.or
  rw [h3]
  exact b1K ⟨by omega, by omega⟩
 rw [h4, c0]
 constructor
 ·
  intro h
  have : x.nat ||| y.nat = 0 := by omega
  exact Nat.or_eq_zero_iff.1 this
 ·
  rintro ⟨h5, h6⟩
  rw [h5, h6]; rfl
theorem e3T (a : U) (i : Nat) (h : i < 4) : W64 ^ i * limb' a i ≤ a.val := by
 have h1 := c0B a i h
 have h2 := Nat.mod_le a.val (W64 ^ (i + 1))
 rw [h1] at h2
 exact Nat.le_trans (Nat.le_add_left _ _) h2
theorem e2E {a b : U} {i k : Nat} (hi : i < 4) (hk : k < 4) (h : 3 < i + k) (hp : limb' a i * limb' b k ≠ 0) : U.top ≤ a.val * b.val := by
 have h1 := Nat.mul_le_mul (e3T a i hi) (e3T b k hk)
 rw [Nat.mul_mul_mul_comm, ← Nat.pow_add] at h1
 have h2 : U.top = W64 ^ 4 := by decide
 have h3 : W64 ^ 4 ≤ W64 ^ (i + k) := Nat.pow_le_pow_right (by decide) (by omega)
 have h4 : W64 ^ (i + k) * 1 ≤ W64 ^ (i + k) * (limb' a i * limb' b k) := Nat.mul_le_mul_left _ (by omega)
 omega
theorem d8Q (a b : U) (n : Nat) : (a.val % n) * b.val ≤ a.val * b.val := Nat.mul_le_mul_right _ (Nat.mod_le _ _)
theorem e6J : W64 ^ 4 = U.top := by decide
theorem d0T {P c L B M i k hi lo z1 q1 z2 q2 p c' P' bk : Nat} (inv : P + c * W64 ^ (i + k) = M + L * W64 ^ i * B) (h1 : lo + W64 * hi = L * bk) (h2 : z1 + W64 * q1 = lo + c) (h3 : z2 + W64 * q2 = p + z1)
  (hc : c' = hi + q1 + q2) (hP : P' + W64 ^ (i + k) * p = P + W64 ^ (i + k) * z2) : P' + c' * W64 ^ (i + k + 1) = M + L * W64 ^ i * (B + W64 ^ k * bk) := by
 have e1 : L * W64 ^ i * (B + W64 ^ k * bk) = L * W64 ^ i * B + W64 ^ (i + k) * (L * bk) := by
  rw [Nat.mul_add, Nat.pow_add]
  congr 1
  simp only [Nat.mul_comm, Nat.mul_left_comm, Nat.mul_assoc]
 have e2 : c' * W64 ^ (i + k + 1) = W64 ^ (i + k) * (W64 * c') := by
  rw [Nat.pow_succ]
  simp only [Nat.mul_comm, Nat.mul_left_comm, Nat.mul_assoc]
 have e3 : W64 * c' = L * bk + c + p - z2 ∧ z2 ≤ L * bk + c + p := by
  subst hc
  unfold W64 at *
  omega
 have e4 : W64 * c' + z2 = L * bk + c + p := by omega
 have e5 := congrArg (fun t => W64 ^ (i + k) * t) e4
 simp only [Nat.mul_add] at e5
 have e6 : c * W64 ^ (i + k) = W64 ^ (i + k) * c := Nat.mul_comm _ _
 rw [e1, e2]
 omega
theorem e8K (a b : U) : a8O ((a, b, ()), ()) = some (((b4V (a.val * b.val)).1, (b4V (a.val * b.val)).2, ()), ()) := by
 have c0 : (I.of .i64 0).val = 0 := rfl
 have c1 : (I.of .i64 1).val = 1 := rfl
 have c3 : (I.of .i64 3).val = 3 := rfl
 have c4 : (I.of .i64 4).val = 4 := rfl
 have over : U.top ≤ a.val * b.val → some (((I.of .u64 0, I.of .u64 0, I.of .u64 0, I.of .u64 0, ()), I.of .i64 4, ()), ()) = some (((b4V (a.val * b.val)).1, (b4V (a.val * b.val)).2, ()), ()) := by
  intro h
  rw [show b4V (a.val * b.val) = (U.of 0, I.of .i64 4) from if_neg (by omega)]
  rfl
 have key : Wp (fun o => o = some (((b4V (a.val * b.val)).1, (b4V (a.val * b.val)).2, ()), ())) (a8O ((a, b, ()), ())) := by
  unfold a8O
  refine Wp.iter (fun x => 0 ≤ x.1.1.val ∧ x.1.1.val ≤ 4 ∧ x.2.1 = a ∧ x.2.2.1 = b ∧ U.val x.2.2.2.2.1 = (a.val % W64 ^ x.1.1.val.toNat) * b.val) (fun x => (4 - x.1.1.val).toNat) ?_ ?_ ?_
  ·
   rintro ⟨⟨i, ⟨⟩⟩, a', b', r0, p0, ⟨⟩⟩ ⟨hi0, hi1, e1, e2, hp⟩
   simp only at hi0 hi1 e1 e2 hp
   subst e1 e2
   refine Wp.brn (fun h => ?_) (fun h => ?_)
   ·
    have hlt := iff_ltb.1 h
    simp only [c4] at hlt
    clear h
    have si : (I.add i (I.of .i64 1)).val = i.val + 1 := by rw [a3D (by omega)]; omega
    have sin : (I.add i (I.of .i64 1)).val.toNat = i.val.toNat + 1 := by omega
    have ini : inB i 4 = true := iff_inB.2 ⟨hi0, by omega⟩
    refine Wp.iter (fun x => x.1.1 = i ∧ x.1.2.2.1 = i ∧ 0 ≤ x.1.2.2.2.1.val ∧ x.1.2.2.2.1.val ≤ 4 ∧ x.2.1 = a' ∧ x.2.2.1 = b' ∧
     U.val x.2.2.2.2.1 + I.nat (k := .u64) x.1.2.1 * W64 ^ (min (i.val.toNat + x.1.2.2.2.1.val.toNat) 4) = (U.val a' % W64 ^ i.val.toNat) * U.val b' + limb' a' i.val.toNat * W64 ^ i.val.toNat * (U.val b' % W64 ^ x.1.2.2.2.1.val.toNat)) (fun x => (4 - x.1.2.2.2.1.val).toNat) ?_ ?_ ?_
    ·
     rintro ⟨⟨i2, c, i1, k, ⟨⟩⟩, a1, b1, r1, p, ⟨⟩⟩ ⟨e1, e2, hk0, hk1, e3, e4, hinv⟩
     simp only at e1 e2 hk0 hk1 e3 e4 hinv
     subst e1 e2 e3 e4
     refine Wp.brn (fun h => ?_) (fun h => ?_)
     ·
      have hkl := iff_ltb.1 h
      simp only [c4] at hkl
      clear h
      have sk : (I.add k (I.of .i64 1)).val = k.val + 1 := by rw [a3D (by omega)]; omega
      have skn : (I.add k (I.of .i64 1)).val.toNat = k.val.toNat + 1 := by omega
      have sik : (I.add i1 k).val = i1.val + k.val := a3D (by omega)
      have hm : (4 - (I.add k (I.of .i64 1)).val).toNat < (4 - k.val).toNat := by omega
      have bmod := c0B b1 k.val.toNat (by omega)
      refine Wp.brnT ini (Wp.brnT (iff_inB.2 ⟨hk0, by show k.val < ((4 : Nat) : Int); omega⟩) ?_)
      obtain ⟨hi, lo, hmul, hprod⟩ := d6Q (Arr.sel (I.of .u64 0) 4 a1 (I.nat i1)) (Arr.sel (I.of .u64 0) 4 b1 (I.nat k))
      have hprod : lo.nat + W64 * hi.nat = limb' a1 i1.val.toNat * limb' b1 k.val.toNat := hprod
      refine Wp.optF hmul ?_
      refine Wp.brn (fun h => ?_) (fun h => ?_)
      ·
       have h := iff_ltb.1 h
       have h : (I.of .i64 3).val < (I.add i1 k).val := h
       refine Wp.brn (fun h2 => ?_) (fun h2 => ?_)
       ·
        refine Wp.done (Wp.done (over ?_))
        refine e2E (i := i1.val.toNat) (k := k.val.toNat) (by omega) (by omega) (by omega) ?_
        intro hz
        have h3 : hi.nat = 0 ∧ lo.nat = 0 := by rw [hz] at hprod; unfold W64 at hprod; omega
        have := (e0A hi lo).2 h3
        exact absurd (h2.symm.trans this) (by decide)
       ·
        have h3 := (e0A hi lo).1 h2
        have hz : limb' a1 i1.val.toNat * limb' b1 k.val.toNat = 0 := by rw [← hprod, h3.1, h3.2, Nat.mul_zero]
        refine Wp.again ⟨rfl, rfl, ?_, ?_, rfl, rfl, ?_⟩ hm
        ·
         show 0 ≤ (I.add k (I.of .i64 1)).val; omega
        ·
         show (I.add k (I.of .i64 1)).val ≤ 4; omega
        ·
         show U.val p + c.nat * W64 ^ (min (i1.val.toNat + (I.add k (I.of .i64 1)).val.toNat) 4) = _ + _ * (U.val b1 % W64 ^ (I.add k (I.of .i64 1)).val.toNat)
         rw [skn, bmod, Nat.mul_add]
         have e1 : limb' a1 i1.val.toNat * W64 ^ i1.val.toNat * (W64 ^ k.val.toNat * limb' b1 k.val.toNat) = 0 := by
          have : limb' a1 i1.val.toNat * W64 ^ i1.val.toNat * (W64 ^ k.val.toNat * limb' b1 k.val.toNat) = W64 ^ i1.val.toNat * W64 ^ k.val.toNat * (limb' a1 i1.val.toNat * limb' b1 k.val.toNat) := by simp only [Nat.mul_comm, Nat.mul_left_comm, Nat.mul_assoc]
          rw [this, hz, Nat.mul_zero]
         rw [Nat.min_eq_right (by omega)] at hinv
         rw [e1, Nat.min_eq_right (by omega)]
         exact hinv
      ·
       have h := niff_ltb.1 h
       have h : (I.add i1 k).val ≤ (I.of .i64 3).val := h
       have inik : inB (I.add i1 k) 4 = true := iff_inB.2 ⟨by omega, by omega⟩
       obtain ⟨z1, q1, ha1, hs1, hq1⟩ := b0E lo c (I.of .u64 0) (by decide)
       refine Wp.optF ha1 ?_
       refine Wp.brnT inik ?_
       obtain ⟨z2, q2, ha2, hs2, hq2⟩ := b0E (Arr.sel (I.of .u64 0) 4 p (I.nat (I.add i1 k))) z1 (I.of .u64 0) (by decide)
       refine Wp.optF ha2 ?_
       refine Wp.brnT inik ?_
       have z0 : (I.of .u64 0).nat = 0 := rfl
       have en : I.nat (I.add i1 k) = i1.val.toNat + k.val.toNat := by unfold I.nat; omega
       have hup := e0E p (i1.val.toNat + k.val.toNat) z2 (by omega)
       have hs2' : z2.nat + W64 * q2.nat = limb' p (i1.val.toNat + k.val.toNat) + z1.nat := by
        have : (Arr.sel (I.of .u64 0) 4 p (I.nat (I.add i1 k))).nat = limb' p (i1.val.toNat + k.val.toNat) := by rw [en]; rfl
        unfold W64
        omega
       have hcv : (I.add (I.add hi q1) q2).nat = hi.nat + q1.nat + q2.nat := by
        have l1 := c4U a1 i1.val.toNat
        have l2 := c4U b1 k.val.toNat
        have l3 := c4U p (i1.val.toNat + k.val.toNat)
        have l4 := a1Q c
        have l5 : limb' a1 i1.val.toNat * limb' b1 k.val.toNat ≤ (W64 - 1) * (W64 - 1) := Nat.mul_le_mul (by omega) (by omega)
        rw [c1M, c1M]
        unfold W64 at *
        omega
       refine Wp.again ⟨rfl, rfl, ?_, ?_, rfl, rfl, ?_⟩ hm
       ·
        show 0 ≤ (I.add k (I.of .i64 1)).val; omega
       ·
        show (I.add k (I.of .i64 1)).val ≤ 4; omega
       ·
        show U.val (Arr.upd 4 p (I.nat (I.add i1 k)) z2) + (I.add (I.add hi q1) q2).nat * W64 ^ (min (i1.val.toNat + (I.add k (I.of .i64 1)).val.toNat) 4) = _ + _ * (U.val b1 % W64 ^ (I.add k (I.of .i64 1)).val.toNat)
        rw [skn, bmod, en, Nat.min_eq_left (by omega)]
        rw [Nat.min_eq_left (by omega)] at hinv
        exact d0T hinv hprod (by unfold W64; omega) hs2' hcv hup
     ·
      have h := niff_ltb.1 h
      simp only [c4] at h
      have hk : k.val.toNat = 4 := by omega
      rw [hk, Nat.min_eq_right (by omega), e6J, Nat.mod_eq_of_lt (U.lt b1)] at hinv
      have amod := c0B a1 i1.val.toNat (by omega)
      have hA : U.val p + c.nat * U.top = (U.val a1 % W64 ^ (i1.val.toNat + 1)) * U.val b1 := by
       rw [hinv, amod, Nat.add_mul]
       congr 1
       simp only [Nat.mul_comm, Nat.mul_left_comm, Nat.mul_assoc]
      refine Wp.done ?_
      refine Wp.brn (fun h2 => ?_) (fun h2 => ?_)
      ·
       refine Wp.done (over ?_)
       have h2 := iff_neb.1 h2
       have h2 : c.val ≠ (I.of .u64 0).val := h2
       have z0 : (I.of .u64 0).val = 0 := rfl
       have hc1 : 1 ≤ c.nat := by have := a1L c; omega
       have h3 := d8Q a1 b1 (W64 ^ (i1.val.toNat + 1))
       have h4 : 1 * U.top ≤ c.nat * U.top := Nat.mul_le_mul_right _ hc1
       omega
      ·
       have h2 := niff_neb.1 h2
       have h2 : c.val = (I.of .u64 0).val := h2
       have z0 : (I.of .u64 0).val = 0 := rfl
       have hc1 : c.nat = 0 := by have := a1L c; omega
       rw [hc1, Nat.zero_mul, Nat.add_zero] at hA
       refine Wp.again ⟨?_, ?_, rfl, rfl, ?_⟩ ?_
       ·
        show 0 ≤ (I.add i1 (I.of .i64 1)).val; omega
       ·
        show (I.add i1 (I.of .i64 1)).val ≤ 4; omega
       ·
        show U.val p = U.val a1 % W64 ^ (I.add i1 (I.of .i64 1)).val.toNat * U.val b1
        rw [sin]; exact hA
       ·
        show (4 - (I.add i1 (I.of .i64 1)).val).toNat < (4 - i1.val).toNat
        omega
    ·
     refine ⟨rfl, rfl, by show 0 ≤ (I.of .i64 0).val; decide, by show (I.of .i64 0).val ≤ 4; decide, rfl, rfl, ?_⟩
     show U.val p0 + (I.of .u64 0).nat * _ = _ + _ * (U.val b' % W64 ^ (I.of .i64 0).val.toNat)
     have e1 : (I.of .u64 0).nat = 0 := rfl
     have e2 : (I.of .i64 0).val.toNat = 0 := rfl
     rw [e1, e2, Nat.zero_mul, Nat.pow_zero, Nat.mod_one, Nat.mul_zero, hp]
    ·
     exact b1S _ (by show (4 - (I.of .i64 0).val).toNat < _; decide)
   ·
    have h := niff_ltb.1 h
    simp only [c4] at h
    have hi : i.val.toNat = 4 := by omega
    rw [hi, e6J, Nat.mod_eq_of_lt (U.lt a')] at hp
    refine Wp.done ?_
    show some ((p0, I.of .i64 0, ()), ()) = _
    have hlt : U.val a' * U.val b' < U.top := by rw [← hp]; exact U.lt p0
    rw [show b4V (U.val a' * U.val b') = (U.of (U.val a' * U.val b'), I.of .i64 0) from if_pos hlt]
    have hU : p0 = U.of (U.val a' * U.val b') := by
     have := U.of_val p0
     rw [hp] at this
     exact this.symm
    exact congrArg (fun z : U => some ((z, I.of .i64 0, ()), ())) hU
  ·
   refine ⟨by show 0 ≤ (I.of .i64 0).val; decide, by show (I.of .i64 0).val ≤ 4; decide, rfl, rfl, ?_⟩
   show U.val (I.of .u64 0, I.of .u64 0, I.of .u64 0, I.of .u64 0, ()) = (a.val % W64 ^ (I.of .i64 0).val.toNat) * b.val
   have e2 : (I.of .i64 0).val.toNat = 0 := rfl
   rw [e2, Nat.pow_zero, Nat.mod_one, Nat.zero_mul]
   rfl
  ·
   exact b1S _ (by show (4 - (I.of .i64 0).val).toNat < _; decide)
 exact key.out
end Sym

/- Equality and order of 256 bits. -/
namespace Sym
open Go
theorem b8L (a b : U) : Ty.eqb (.arr 4 (.int .u64)) a b = decide (a.val = b.val) := by
 by_cases h : a.val = b.val
 ·
  have := U.ext h
  subst this
  simp [Ty.eqb, Arr.eqb]
 ·
  simp only [h, decide_false]
  cases hb : Ty.eqb (.arr 4 (.int .u64)) a b with
  | false => rfl
  | true =>
   exfalso
   apply h
   obtain ⟨a0, a1, a2, a3, ⟨⟩⟩ := a
   obtain ⟨b0, b1, b2, b3, ⟨⟩⟩ := b
   simp only [Ty.eqb, Arr.eqb, Bool.and_eq_true, decide_eq_true_eq, and_true] at hb
   obtain ⟨h0, h1, h2, h3⟩ := hb
   rw [I.ext' h0, I.ext' h1, I.ext' h2, I.ext' h3]
end Sym

/- Quotients of 512 by 256 bits. -/
namespace Sym
open Go
theorem a3C (x : I .u64) : a0M ((x, ()), ()) = some ((b1F x, ()), ()) := rfl
theorem b7P (a b : U) : a2E ((a, b, ()), ()) = some ((U.of (a.val - b.val), ()), ()) := by
 refine Wp.out (T := fun o => o = _) ?_
 unfold a2E
 refine Wp.optF (b9A a b) ?_
 unfold d7O
 by_cases h : b.val ≤ a.val
 ·
  rw [if_pos h]; rfl
 ·
  rw [if_neg h, show a.val - b.val = 0 by omega]; rfl
theorem d9V (x y : I .u64) (n : Nat) (hy : y.nat < 2 ^ n) (hx : x.nat % 2 ^ n = 0) : (I.or x y).nat = x.nat + y.nat := by
 have h1 : (BitVec.ofInt 64 x.val).toNat = x.nat := by have := a2Z x; rw [BitVec.toNat_ofInt]; unfold I.nat; omega
 have h2 : (BitVec.ofInt 64 y.val).toNat = y.nat := by have := a2Z y; rw [BitVec.toNat_ofInt]; unfold I.nat; omega
 have h3 : (BitVec.ofInt IntKind.u64.bits x.val ||| BitVec.ofInt IntKind.u64.bits y.val).toNat = x.nat ||| y.nat := by
  show (BitVec.ofInt 64 x.val ||| BitVec.ofInt 64 y.val).toNat = _
  rw [BitVec.toNat_or, h1, h2]
 have hlt : x.nat ||| y.nat < 2 ^ 64 := Nat.or_lt_two_pow (a1Q x) (a1Q y)
 have h4 : x.nat ||| y.nat = x.nat + y.nat := by
  have e : x.nat = (x.nat / 2 ^ n) <<< n := by
   rw [Nat.shiftLeft_eq]
   have := Nat.div_add_mod x.nat (2 ^ n)
   rw [hx, Nat.add_zero, Nat.mul_comm] at this
   exact this.symm
  rw [e]
  exact (Nat.shiftLeft_add_eq_or_of_lt hy _).symm
 unfold I.or
 rw [h3, b4M (by omega), h4]
theorem c3J (x : I .u64) : (I.shl x (I.of .u64 1)).nat = 2 * x.nat % W64 := by
 have h1 := a1L x
 have hm : min (I.of .u64 1).val.toNat IntKind.u64.bits = 1 := rfl
 unfold I.shl
 rw [hm]
 show (IntKind.u64.wrap (x.val * 2 ^ 1)).toNat = _ % 18446744073709551616
 rw [wrap_u64]
 have : (2 : Int) ^ 1 = 2 := by decide
 rw [this]
 omega
theorem c5X (x : I .u64) : (I.shr x (I.of .u64 63)).nat = x.nat / 9223372036854775808 := by
 have c : (I.of .u64 63).nat = 63 := rfl
 rw [d4X _ _ (by decide), c]
theorem K0_four' : ∃ k, K0 = k + 4 := ⟨2 ^ 64 - 4, by rw [a5J]⟩
theorem d5B (x y : I .u64) : (I.or (I.shl x (I.of .u64 1)) (I.shr y (I.of .u64 63))).nat = 2 * x.nat % W64 + y.nat / 9223372036854775808 := by
 have hy := a1Q y
 rw [d9V _ _ 1 (by rw [c5X]; omega) (by rw [c3J]; unfold W64; omega), c3J, c5X]
theorem d1N (a : U) (bit : I .u64) (hb : bit.nat ≤ 1) : ∃ (r : U) (o : I .u64), a6A ((a, bit, ()), ()) = some ((r, o, ()), ()) ∧ r.val + U.top * o.nat = 2 * a.val + bit.nat := by
 obtain ⟨k, hk⟩ := K0_four'
 obtain ⟨a0, a1, a2, a3, ⟨⟩⟩ := a
 refine ⟨(I.or (I.shl a0 (I.of .u64 1)) bit, I.or (I.shl a1 (I.of .u64 1)) (I.shr a0 (I.of .u64 63)), I.or (I.shl a2 (I.of .u64 1)) (I.shr a1 (I.of .u64 63)), I.or (I.shl a3 (I.of .u64 1)) (I.shr a2 (I.of .u64 63)), ()), I.shr a3 (I.of .u64 63), ?_, ?_⟩
 ·
  refine Wp.out (T := fun o => o = _) ?_
  unfold a6A
  rw [hk]
  refine Wp.unroll (Wp.brnT rfl (Wp.brnT rfl (Wp.brnT rfl (Wp.brnT rfl (Wp.next ?_)))))
  refine Wp.unroll (Wp.brnT rfl (Wp.brnT rfl (Wp.brnT rfl (Wp.brnT rfl (Wp.next ?_)))))
  refine Wp.unroll (Wp.brnT rfl (Wp.brnT rfl (Wp.brnT rfl (Wp.brnT rfl (Wp.next ?_)))))
  refine Wp.unroll (Wp.brnF rfl (Wp.stop rfl))
 ·
  have n0 := a1Q a0
  have n1 := a1Q a1
  have n2 := a1Q a2
  have n3 := a1Q a3
  unfold U.val U.top
  simp only
  rw [d5B, d5B, d5B, c5X, d9V _ _ 1 (by omega) (by rw [c3J]; unfold W64; omega), c3J]
  unfold W64
  omega
end Sym

/- Quotients of 512 by 256 bits: the loop. -/
namespace Sym
open Go
theorem f3Z : ∃ k, K0 = k + 5 := ⟨2 ^ 64 - 5, by rw [a5J]⟩
theorem c6Y (a b : U) : ∃ (r : U) (q : Nat), a6H ((a, b, ()), ()) = some ((r, ()), ()) ∧ r.val + b.val = a.val + U.top * q ∧ q ≤ 1 := by
 obtain ⟨k, hk⟩ := f3Z
 obtain ⟨a0, a1, a2, a3, ⟨⟩⟩ := a
 obtain ⟨b0, b1, b2, b3, ⟨⟩⟩ := b
 obtain ⟨z0, q0, h0, e0, l0⟩ := b2U a0 b0 (I.of .u64 0) (by decide)
 obtain ⟨z1, q1, h1, e1, l1⟩ := b2U a1 b1 q0 l0
 obtain ⟨z2, q2, h2, e2, l2⟩ := b2U a2 b2 q1 l1
 obtain ⟨z3, q3, h3, e3, l3⟩ := b2U a3 b3 q2 l2
 refine ⟨(z0, z1, z2, z3, ()), q3.nat, ?_, ?_, l3⟩
 ·
  refine Wp.out (T := fun o => o = _) ?_
  unfold a6H
  rw [hk]
  refine Wp.unroll (Wp.brnT rfl (Wp.brnT rfl (Wp.brnT rfl (Wp.optF h0 (Wp.brnT rfl (Wp.next ?_))))))
  refine Wp.unroll (Wp.brnT rfl (Wp.brnT rfl (Wp.brnT rfl (Wp.optF h1 (Wp.brnT rfl (Wp.next ?_))))))
  refine Wp.unroll (Wp.brnT rfl (Wp.brnT rfl (Wp.brnT rfl (Wp.optF h2 (Wp.brnT rfl (Wp.next ?_))))))
  refine Wp.unroll (Wp.brnT rfl (Wp.brnT rfl (Wp.brnT rfl (Wp.optF h3 (Wp.brnT rfl (Wp.next ?_))))))
  refine Wp.unroll (Wp.brnF rfl (Wp.stop rfl))
 ·
  have z : (I.of .u64 0).nat = 0 := rfl
  unfold U.val U.top
  simp only
  omega
theorem c4O (i : Nat) : 2 ^ i = W64 ^ (i / 64) * 2 ^ (i % 64) := by
 have : W64 = 2 ^ 64 := by decide
 rw [this, ← Nat.pow_mul, ← Nat.pow_add]
 congr 1
 omega
theorem f5X (a : U) (k : Nat) (hk : k < 4) : ∃ Y, a.val / W64 ^ k = limb' a k + W64 * Y := by
 obtain ⟨a0, a1, a2, a3, ⟨⟩⟩ := a
 have n0 := a1Q a0
 have n1 := a1Q a1
 have n2 := a1Q a2
 have n3 := a1Q a3
 have p0 : W64 ^ 0 = 1 := by decide
 have p1 : W64 ^ 1 = 18446744073709551616 := by decide
 have p2 : W64 ^ 2 = 340282366920938463463374607431768211456 := by decide
 have p3 : W64 ^ 3 = 6277101735386680763835789423207666416102355444464034512896 := by decide
 have hc : k = 0 ∨ k = 1 ∨ k = 2 ∨ k = 3 := by omega
 rcases hc with rfl | rfl | rfl | rfl
 ·
  refine ⟨a1.nat + 18446744073709551616 * (a2.nat + 18446744073709551616 * a3.nat), ?_⟩
  show U.val _ / W64 ^ 0 = a0.nat + 18446744073709551616 * _
  rw [p0]; unfold U.val; simp only; omega
 ·
  refine ⟨a2.nat + 18446744073709551616 * a3.nat, ?_⟩
  show U.val _ / W64 ^ 1 = a1.nat + 18446744073709551616 * _
  rw [p1]; unfold U.val; simp only; omega
 ·
  refine ⟨a3.nat, ?_⟩
  show U.val _ / W64 ^ 2 = a2.nat + 18446744073709551616 * _
  rw [p2]; unfold U.val; simp only; omega
 ·
  refine ⟨0, ?_⟩
  show U.val _ / W64 ^ 3 = a3.nat + 18446744073709551616 * _
  rw [p3]; unfold U.val; simp only; omega
theorem e8Z (a : U) (i : Nat) (hi : i < 256) : a.val / 2 ^ i % 2 = limb' a (i / 64) / 2 ^ (i % 64) % 2 := by
 obtain ⟨Y, hY⟩ := f5X a (i / 64) (by omega)
 rw [c4O i, ← Nat.div_div_eq_div_mul, hY]
 have e : W64 = 2 ^ (i % 64) * (2 * 2 ^ (63 - i % 64)) := by
  have : 2 * 2 ^ (63 - i % 64) = 2 ^ (64 - i % 64) := by rw [show 64 - i % 64 = (63 - i % 64) + 1 by omega, Nat.pow_succ, Nat.mul_comm]
  rw [this, ← Nat.pow_add, show i % 64 + (64 - i % 64) = 64 by omega]
 rw [e, Nat.mul_assoc, Nat.add_mul_div_left _ _ (Nat.pow_pos (by decide)), Nat.mul_assoc, Nat.add_mul_mod_self_left]
theorem f3W (x : I .u64) (s : I .i64) (h0 : 0 ≤ s.val) (hs : s.val < 64) : (I.shr x s).nat = x.nat / 2 ^ s.val.toNat := by
 have hx := a2Z x
 have hm : min s.val.toNat IntKind.u64.bits = s.val.toNat := by
  have : IntKind.u64.bits = 64 := rfl
  omega
 unfold I.shr
 rw [hm, c0X _ _ hx.1]
 have h1 : ((x.nat / 2 ^ s.val.toNat : Nat) : Int) = x.val / (2 : Int) ^ s.val.toNat := by
  rw [Int.natCast_ediv, a1L]
  simp
 rw [← h1]
 have := Nat.div_le_self x.nat (2 ^ s.val.toNat)
 have := a1Q x
 exact b4M (by omega)
theorem d3K (s : I .i64) (h0 : 0 ≤ s.val) (hs : s.val < 64) : (I.shl (I.of .u64 1) s).nat = 2 ^ s.val.toNat := by
 have hm : min s.val.toNat IntKind.u64.bits = s.val.toNat := by
  have : IntKind.u64.bits = 64 := rfl
  omega
 have h1 : (I.of .u64 1).val = 1 := rfl
 have h3 : 2 ^ s.val.toNat ≤ 2 ^ 63 := Nat.pow_le_pow_right (by decide) (by omega)
 have h4 : ((2 ^ s.val.toNat : Nat) : Int) = 2 ^ s.val.toNat := by simp
 unfold I.shl
 rw [hm, h1, Int.one_mul, ← h4]
 exact b4M (by omega)
theorem f1L (q : U) (i : Nat) (hi : i < 256) (b : I .u64) (hb : b.nat = 2 ^ (i % 64)) (hq : q.val % 2 ^ (i + 1) = 0) :
  U.val (Arr.upd 4 q (i / 64) (I.or (Arr.sel (I.of .u64 0) 4 q (i / 64)) b)) = q.val + 2 ^ i := by
 obtain ⟨Y, hY⟩ := f5X q (i / 64) (by omega)
 have hl : limb' q (i / 64) % 2 ^ (i % 64 + 1) = 0 := by
  obtain ⟨Q, hQ⟩ : ∃ Q, q.val = 2 ^ (i + 1) * Q := ⟨q.val / 2 ^ (i + 1), by have := Nat.div_add_mod q.val (2 ^ (i + 1)); omega⟩
  have e1 : q.val / W64 ^ (i / 64) = 2 ^ (i % 64 + 1) * Q := by
   rw [hQ, Nat.pow_succ, c4O i, Nat.mul_assoc, Nat.mul_assoc, Nat.mul_div_cancel_left _ (Nat.pow_pos (by decide)), Nat.pow_succ, Nat.mul_assoc]
  have e2 : W64 = 2 ^ (i % 64 + 1) * 2 ^ (63 - i % 64) := by
   rw [← Nat.pow_add, show i % 64 + 1 + (63 - i % 64) = 64 by omega]
  rw [e1, e2, Nat.mul_assoc] at hY
  have e3 : limb' q (i / 64) = 2 ^ (i % 64 + 1) * Q - 2 ^ (i % 64 + 1) * (2 ^ (63 - i % 64) * Y) := by omega
  rw [e3, ← Nat.mul_sub]
  exact Nat.mul_mod_right _ _
 have hor : (I.or (Arr.sel (I.of .u64 0) 4 q (i / 64)) b).nat = limb' q (i / 64) + 2 ^ (i % 64) := by
  rw [d9V _ b (i % 64 + 1) (by rw [hb, Nat.pow_succ]; have := Nat.pow_pos (a := 2) (n := i % 64) (by decide); omega) hl, hb]
  rfl
 have hup := e0E q (i / 64) (I.or (Arr.sel (I.of .u64 0) 4 q (i / 64)) b) (by omega)
 rw [hor, Nat.mul_add, ← c4O] at hup
 omega
end Sym

/- Quotients of 512 by 256 bits: what they are. -/
namespace Sym
open Go
theorem d3J : U.top = 2 ^ 256 := by decide
theorem half (N i : Nat) : N / 2 ^ i = 2 * (N / 2 ^ (i + 1)) + N / 2 ^ i % 2 := by
 rw [Nat.pow_succ, ← Nat.div_div_eq_div_mul]
 omega
theorem f4C (a b : Nat) (i : Nat) (hi : i < 256) : (U.top * b + a) / 2 ^ i % 2 = a / 2 ^ i % 2 := by
 have e : U.top * b = 2 ^ i * (2 * (2 ^ (255 - i) * b)) := by
  have : U.top = 2 ^ i * (2 * 2 ^ (255 - i)) := by
   rw [d3J, ← Nat.pow_succ', ← Nat.pow_add, show i + (255 - i + 1) = 256 by omega]
  rw [this]
  simp only [Nat.mul_assoc]
 rw [e, Nat.mul_add_div (Nat.pow_pos (by decide)), Nat.mul_add_mod]
structure DivInv (N c t : Nat) (q r : U) : Prop where
 eq : N / 2 ^ t = q.val / 2 ^ t * c + r.val
 lt : r.val < c
 low : q.val % 2 ^ t = 0
theorem c4I {N c i : Nat} {q r q' r' : U} (h : DivInv N c (i + 1) q r) (bit d : Nat) (hb : N / 2 ^ i % 2 = bit) (hd : d ≤ 1) (hq : q'.val = q.val + d * 2 ^ i) (hr : 2 * r.val + bit = d * c + r'.val) (hlt : r'.val < c) : DivInv N c i q' r' := by
 have h1 := half N i
 have e1 : q.val / 2 ^ i = 2 * (q.val / 2 ^ (i + 1)) := by
  have := half q.val i
  have h2 : q.val / 2 ^ i % 2 = 0 := by
   have h3 := h.low
   rw [Nat.pow_succ] at h3
   have h4 := Nat.mod_mul (x := q.val) (a := 2 ^ i) (b := 2)
   rw [h3] at h4
   have h5 : 0 < 2 ^ i := Nat.pow_pos (by decide)
   rcases Nat.eq_zero_or_pos (q.val / 2 ^ i % 2) with h6 | h6
   ·
    exact h6
   ·
    have : 2 ^ i * 1 ≤ 2 ^ i * (q.val / 2 ^ i % 2) := Nat.mul_le_mul_left _ h6
    omega
  omega
 have e2 : q.val % 2 ^ i = 0 := by
  have h3 := h.low
  rw [Nat.pow_succ] at h3
  have h4 := Nat.mod_mul (x := q.val) (a := 2 ^ i) (b := 2)
  omega
 have e3 : q'.val / 2 ^ i = q.val / 2 ^ i + d := by rw [hq, Nat.add_mul_div_right _ _ (Nat.pow_pos (by decide))]
 refine ⟨?_, hlt, ?_⟩
 ·
  rw [h1, h.eq, hb, e3, e1, Nat.add_mul, Nat.mul_add, Nat.mul_assoc]
  omega
 ·
  rw [hq, Nat.add_mul_mod_self_right]; exact e2
theorem c3T (a b c : U) (hbc : b.val < c.val) : a5N ((a, b, c, ()), ()) = some ((U.of ((U.top * b.val + a.val) / c.val), U.of ((U.top * b.val + a.val) % c.val), I.of .i64 0, ()), ()) := by
 have c0 : (I.of .i64 0).val = 0 := rfl
 have c1 : (I.of .i64 1).val = 1 := rfl
 have c64 : (I.of .i64 64).val = 64 := rfl
 have hct := U.lt c
 have key : Wp (fun o => o = some ((U.of ((U.top * b.val + a.val) / c.val), U.of ((U.top * b.val + a.val) % c.val), I.of .i64 0, ()), ())) (a5N ((a, b, c, ()), ())) := by
  unfold a5N
  refine Wp.brnF ?_ ?_
  ·
   refine (b8L c _).trans (decide_eq_false ?_)
   intro hh
   have hh : c.val = 0 := hh
   omega
  refine Wp.optF (a8V b c) ?_
  refine Wp.brnF ?_ ?_
  ·
   show I.leb (I.of .i64 0) (d2X b c) = false
   unfold d2X
   rw [if_pos hbc]; rfl
  refine Wp.iter (fun x => -1 ≤ x.1.1.val ∧ x.1.1.val ≤ 255 ∧ x.2.1 = a ∧ x.2.2.1 = c ∧ DivInv (U.top * b.val + a.val) c.val (x.1.1.val + 1).toNat x.2.2.2.1 x.2.2.2.2.1) (fun x => (x.1.1.val + 1).toNat) ?_ ?_ ?_
  ·
   rintro ⟨⟨i, ⟨⟩⟩, a', c', q, r, ⟨⟩⟩ ⟨hi0, hi1, e1, e2, hinv⟩
   simp only at hi0 hi1 e1 e2 hinv
   subst e1 e2
   refine Wp.brn (fun h => ?_) (fun h => ?_)
   ·
    have hge := iff_leb.1 h
    simp only [c0] at hge
    clear h
    have ht : (i.val + 1).toNat = i.val.toNat + 1 := by omega
    rw [ht] at hinv
    have hq4 : (I.quo i (I.of .i64 64)).val = i.val / 64 := c1C hge (by decide)
    have hr4 : (I.rem i (I.of .i64 64)).val = i.val % 64 := c5L hge (by decide)
    have hin : inB (I.quo i (I.of .i64 64)) 4 = true := iff_inB.2 ⟨by omega, by omega⟩
    have hnn : I.nn (I.rem i (I.of .i64 64)) = true := iff_nn.2 (by omega)
    have hs : (I.sub i (I.of .i64 1)).val = i.val - 1 := by rw [a8X (by omega)]; omega
    have hs1 : ((I.sub i (I.of .i64 1)).val + 1).toNat = i.val.toNat := by omega
    have hm : ((I.sub i (I.of .i64 1)).val + 1).toNat < (i.val + 1).toNat := by omega
    have en : I.nat (I.quo i (I.of .i64 64)) = i.val.toNat / 64 := by unfold I.nat; omega
    have er : (I.rem i (I.of .i64 64)).val.toNat = i.val.toNat % 64 := by omega
    refine Wp.brnT hin (Wp.brnT hnn ?_)
    have hbit : (I.and (I.shr (Arr.sel (I.of .u64 0) 4 a' (I.nat (I.quo i (I.of .i64 64)))) (I.rem i (I.of .i64 64))) (I.of .u64 1)).nat = (U.top * b.val + U.val a') / 2 ^ i.val.toNat % 2 := by
     rw [d4J _ 1 _ (by decide) (by decide), f3W _ _ (by omega) (by omega), er, en, f4C _ _ _ (by omega), e8Z a' i.val.toNat (by omega)]
     rfl
    obtain ⟨r1, o, hsh, hsum⟩ := d1N r (I.and (I.shr (Arr.sel (I.of .u64 0) 4 a' (I.nat (I.quo i (I.of .i64 64)))) (I.rem i (I.of .i64 64))) (I.of .u64 1)) (by rw [hbit]; omega)
    rw [hbit] at hsum
    refine Wp.optF hsh ?_
    have hlt := hinv.lt
    have hr1 := U.lt r1
    have hc1 : U.val c' < U.top := U.lt c'
    have setb : U.val (Arr.upd 4 q (I.nat (I.quo i (I.of .i64 64))) (I.or (Arr.sel (I.of .u64 0) 4 q (I.nat (I.quo i (I.of .i64 64)))) (I.shl (I.of .u64 1) (I.rem i (I.of .i64 64))))) = U.val q + 1 * 2 ^ i.val.toNat := by
     rw [en, Nat.one_mul]
     exact f1L q i.val.toNat (by omega) _ (by rw [d3K _ (by omega) (by omega), er]) hinv.low
    generalize hB : (U.top * b.val + U.val a') / 2 ^ i.val.toNat % 2 = bit at hsum
    have hB1 : bit ≤ 1 := by omega
    have ho : o.nat = 0 ∨ o.nat = 1 := by
     rcases Nat.lt_or_ge o.nat 2 with h1 | h1
     ·
      omega
     ·
      exfalso
      have : U.top * 2 ≤ U.top * o.nat := Nat.mul_le_mul_left _ h1
      omega
    refine Wp.brn (fun h => ?_) (fun h => ?_)
    ·
     have h := iff_eqb.1 h
     have h : o.val = (I.of .u64 1).val := h
     have z1 : (I.of .u64 1).val = 1 := rfl
     have ho1 : o.nat = 1 := by have := a1L o; omega
     rw [ho1, Nat.mul_one] at hsum
     obtain ⟨r2, qq, hsub, hsv, hqq⟩ := c6Y r1 c'
     refine Wp.optF hsub ?_
     refine Wp.brnT hin (Wp.brnT hnn (Wp.brnT hin ?_))
     have hr2 := U.lt r2
     have hqq1 : qq = 1 := by
      rcases Nat.lt_or_ge qq 1 with h1 | h1
      ·
       exfalso
       have : qq = 0 := by omega
       rw [this, Nat.mul_zero] at hsv
       omega
      ·
       omega
     rw [hqq1, Nat.mul_one] at hsv
     refine Wp.again ⟨?_, ?_, rfl, rfl, ?_⟩ hm
     ·
      show -1 ≤ (I.sub i (I.of .i64 1)).val; omega
     ·
      show (I.sub i (I.of .i64 1)).val ≤ 255; omega
     ·
      show DivInv _ _ ((I.sub i (I.of .i64 1)).val + 1).toNat _ r2
      rw [hs1]
      exact c4I (r' := r2) hinv bit 1 hB (Nat.le_refl _) setb (by omega) (by omega)
    ·
     have h := niff_eqb.1 h
     have h : o.val ≠ (I.of .u64 1).val := h
     have z1 : (I.of .u64 1).val = 1 := rfl
     have ho0 : o.nat = 0 := by have := a1L o; omega
     rw [ho0, Nat.mul_zero, Nat.add_zero] at hsum
     refine Wp.optF (a8V r1 c') ?_
     by_cases hcmp : U.val r1 < U.val c'
     ·
      refine Wp.brnF ?_ ?_
      ·
       show I.leb (I.of .i64 0) (d2X r1 c') = false
       unfold d2X
       rw [if_pos hcmp]; rfl
      refine Wp.again ⟨?_, ?_, rfl, rfl, ?_⟩ hm
      ·
       show -1 ≤ (I.sub i (I.of .i64 1)).val; omega
      ·
       show (I.sub i (I.of .i64 1)).val ≤ 255; omega
      ·
       show DivInv _ _ ((I.sub i (I.of .i64 1)).val + 1).toNat q r1
       rw [hs1]
       exact c4I hinv bit 0 hB (by omega) (by omega) (by omega) hcmp
     ·
      refine Wp.brnT ?_ ?_
      ·
       show I.leb (I.of .i64 0) (d2X r1 c') = true
       unfold d2X
       rw [if_neg hcmp]
       split <;> rfl
      obtain ⟨r2, qq, hsub, hsv, hqq⟩ := c6Y r1 c'
      refine Wp.optF hsub ?_
      refine Wp.brnT hin (Wp.brnT hnn (Wp.brnT hin ?_))
      have hr2 := U.lt r2
      have hqq0 : qq = 0 := by
       rcases Nat.lt_or_ge qq 1 with h1 | h1
       ·
        omega
       ·
        exfalso
        have : qq = 1 := by omega
        rw [this, Nat.mul_one] at hsv
        omega
      rw [hqq0, Nat.mul_zero, Nat.add_zero] at hsv
      refine Wp.again ⟨?_, ?_, rfl, rfl, ?_⟩ hm
      ·
       show -1 ≤ (I.sub i (I.of .i64 1)).val; omega
      ·
       show (I.sub i (I.of .i64 1)).val ≤ 255; omega
      ·
       show DivInv _ _ ((I.sub i (I.of .i64 1)).val + 1).toNat _ r2
       rw [hs1]
       exact c4I (r' := r2) hinv bit 1 hB (Nat.le_refl _) setb (by omega) (by omega)
   ·
    have h := niff_leb.1 h
    simp only [c0] at h
    have ht : (i.val + 1).toNat = 0 := by omega
    rw [ht] at hinv
    have heq := hinv.eq
    simp only [Nat.pow_zero, Nat.div_one] at heq
    have hlt := hinv.lt
    refine Wp.done ?_
    show some ((q, r, I.of .i64 0, ()), ()) = _
    have eq : (U.top * b.val + U.val a') / U.val c' = U.val q := by
     rw [heq, Nat.mul_comm, Nat.mul_add_div (by omega), Nat.div_eq_of_lt hlt, Nat.add_zero]
    have er : (U.top * b.val + U.val a') % U.val c' = U.val r := by
     rw [heq, Nat.mul_comm, Nat.mul_add_mod, Nat.mod_eq_of_lt hlt]
    have hq : q = U.of ((U.top * b.val + U.val a') / U.val c') := by rw [eq]; exact (U.of_val q).symm
    have hr : r = U.of ((U.top * b.val + U.val a') % U.val c') := by rw [er]; exact (U.of_val r).symm
    exact (congrArg (fun z : U => some ((z, r, I.of .i64 0, ()), ())) hq).trans (congrArg (fun z : U => some ((U.of ((U.top * b.val + U.val a') / U.val c'), z, I.of .i64 0, ()), ())) hr)
  ·
   refine ⟨by show -1 ≤ (I.of .i64 255).val; decide, by show (I.of .i64 255).val ≤ 255; decide, rfl, rfl, ?_⟩
   show DivInv _ _ ((I.of .i64 255).val + 1).toNat (I.of .u64 0, I.of .u64 0, I.of .u64 0, I.of .u64 0, ()) b
   have e : ((I.of .i64 255).val + 1).toNat = 256 := rfl
   have ha := U.lt a
   rw [e]
   refine ⟨?_, hbc, rfl⟩
   have z : U.val (I.of .u64 0, I.of .u64 0, I.of .u64 0, I.of .u64 0, ()) = 0 := rfl
   rw [z, ← d3J, Nat.zero_div, Nat.zero_mul, Nat.zero_add, Nat.mul_add_div (by decide), Nat.div_eq_of_lt ha, Nat.add_zero]
  ·
   exact b1S _ (by show ((I.of .i64 255).val + 1).toNat < _; decide)
 exact key.out
def c5M (a c : U) : U × U × I .i64 := if c.val = 0 then (U.of 0, U.of 0, I.of .i64 5) else (U.of (a.val / c.val), U.of (a.val % c.val), I.of .i64 0)
theorem e2K (a c : U) : a8H ((a, c, ()), ()) = some (((c5M a c).1, (c5M a c).2.1, (c5M a c).2.2, ()), ()) := by
 refine Wp.out (T := fun o => o = _) ?_
 unfold a8H c5M
 by_cases h : c.val = 0
 ·
  rw [if_pos h]
  refine Wp.optF (y := ((U.of 0, U.of 0, I.of .i64 5, ()), ())) ?_ rfl
  refine Wp.out (T := fun o => o = _) ?_
  unfold a5N
  refine Wp.brnT ?_ rfl
  exact (b8L c _).trans (decide_eq_true h)
 ·
  rw [if_neg h]
  have hz : U.val (U.of 0) = 0 := rfl
  have := c3T a (U.of 0) c (by omega)
  rw [hz, Nat.mul_zero, Nat.zero_add] at this
  exact Wp.optF this rfl
end Sym

/- Signed numbers of 256 bits: what the program's functions compute, told of whole numbers. -/
namespace Sym
open Go
abbrev S : Type := Bool × U × Unit
def S.int (x : S) : Int := if x.1 then -(x.2.1.val : Int) else x.2.1.val
def S.of (z : Int) : S := (decide (z < 0), U.of z.natAbs, ())
def a1P (x : S) : Bool := !(x.1 && decide (x.2.1.val = 0))
theorem S.abs (x : S) : x.int.natAbs = x.2.1.val := by
 unfold S.int
 split <;> omega
theorem S.of_int {x : S} (h : a1P x = true) : S.of x.int = x := by
 obtain ⟨n, a, ⟨⟩⟩ := x
 unfold S.of
 have e := S.abs (n, a, ())
 rw [e]
 have e2 : decide (S.int (n, a, ()) < 0) = n := by
  unfold S.int
  unfold a1P at h
  cases n with
  | false => simp
  | true =>
   simp at h
   simp
   omega
 rw [e2]
 show (n, U.of a.val, ()) = _
 rw [U.of_val]
theorem S.int_of {z : Int} (h : z.natAbs < U.top) : (S.of z).int = z := by
 unfold S.of S.int
 simp only [U.val_of h]
 by_cases hz : z < 0
 ·
  simp [hz]; omega
 ·
  simp [hz]; omega
theorem S.of_valid {z : Int} (h : z.natAbs < U.top) : a1P (S.of z) = true := by
 unfold S.of a1P
 simp only [U.val_of h]
 by_cases hz : z < 0
 ·
  simp [hz]; omega
 ·
  simp [hz]
theorem S.lt (x : S) : x.int.natAbs < U.top := by rw [S.abs]; exact U.lt _
def d0P (z : Int) : S × I .i64 := if z.natAbs < U.top then (S.of z, I.of .i64 0) else (S.of 0, I.of .i64 4)
theorem e3B (a : U) : Ty.eqb (.arr 4 (.int .u64)) a a = true := by rw [b8L]; simp
theorem e0K (x : S) : Ty.eqb tY6 x x = true := by
 obtain ⟨n, a, ⟨⟩⟩ := x
 have h := e3B a
 show ((n == n) && (Ty.eqb (.arr 4 (.int .u64)) a a && true)) = true
 rw [h]; simp
theorem eqz (a : U) : Ty.eqb (.arr 4 (.int .u64)) a (I.of .u64 0, I.of .u64 0, I.of .u64 0, I.of .u64 0, ()) = decide (a.val = 0) := b8L a (U.of 0)
theorem a9O (x : S) : a1Y ((x, ()), ()) = some ((a1P x, ()), ()) := by
 obtain ⟨n, a, ⟨⟩⟩ := x
 refine Wp.out (T := fun o => o = some ((a1P (n, a, ()), ()), ())) ?_
 unfold a1Y
 cases n with
 | false => exact Wp.brnT rfl rfl
 | true =>
  refine Wp.brnF rfl ?_
  show some ((!(Ty.eqb (.arr 4 (.int .u64)) a (I.of .u64 0, I.of .u64 0, I.of .u64 0, I.of .u64 0, ())), ()), ()) = some ((!(true && decide (a.val = 0)), ()), ())
  rw [eqz, Bool.true_and]
def sgn (n : Bool) (m : Nat) : Int := if n then -(m : Int) else m
theorem c2X (n : Bool) (a : U) : a5I ((n, a, ()), ()) = some ((S.of (sgn n a.val), ()), ()) := by
 refine Wp.out (T := fun o => o = some ((S.of (sgn n a.val), ()), ())) ?_
 unfold a5I sgn S.of
 cases n with
 | false =>
  refine Wp.brnF rfl ?_
  show some (((false, a, ()), ()), ()) = some (((decide (((a.val : Nat) : Int) < 0), U.of ((a.val : Nat) : Int).natAbs, ()), ()), ())
  rw [Int.natAbs_natCast, U.of_val, decide_eq_false (by omega)]
 | true =>
  refine Wp.brnT rfl ?_
  show some (((!(Ty.eqb (.arr 4 (.int .u64)) a (I.of .u64 0, I.of .u64 0, I.of .u64 0, I.of .u64 0, ())), a, ()), ()), ()) = some (((decide (-((a.val : Nat) : Int) < 0), U.of (-((a.val : Nat) : Int)).natAbs, ()), ()), ())
  rw [eqz, Int.natAbs_neg, Int.natAbs_natCast, U.of_val]
  by_cases h : a.val = 0
  ·
   rw [h]; rfl
  ·
   rw [decide_eq_false h, decide_eq_true (show -((a.val : Nat) : Int) < 0 by omega)]; rfl
def f1C (x : S) : S × I .i64 := if a1P x then (S.of (-x.int), I.of .i64 0) else (S.of 0, I.of .i64 2)
theorem e9U (x : S) : b0X ((x, ()), ()) = some (((f1C x).1, (f1C x).2, ()), ()) := by
 refine Wp.out (T := fun o => o = some (((f1C x).1, (f1C x).2, ()), ())) ?_
 unfold b0X f1C
 refine Wp.optF (a9O x) ?_
 by_cases h : a1P x = true
 ·
  rw [if_pos h]
  refine Wp.brnF (by show (!a1P x) = false; rw [h]; rfl) ?_
  refine Wp.optF (c2X (!x.1) x.2.1) ?_
  have : sgn (!x.1) x.2.1.val = -x.int := by
   unfold sgn S.int
   cases x.1 <;> simp
  rw [this]; rfl
 ·
  rw [if_neg h]
  refine Wp.brnT (by show (!a1P x) = true; simp [h]) rfl
theorem d4W (a b : U) : b0V ((a, b, ()), ()) = some ((S.of ((a.val : Int) - b.val), ()), ()) := by
 refine Wp.out (T := fun o => o = some ((S.of ((a.val : Int) - b.val), ()), ())) ?_
 have ha := a.lt
 have hb := b.lt
 unfold b0V
 refine Wp.optF (a8V a b) ?_
 by_cases h : a.val < b.val
 ·
  refine Wp.brnF (by show I.leb (I.of .i64 0) (d2X a b) = false; unfold d2X; rw [if_pos h]; rfl) ?_
  refine Wp.optF (b7P b a) ?_
  refine Wp.optF (c2X true (U.of (b.val - a.val))) ?_
  rw [U.val_of (by omega), show sgn true (b.val - a.val) = (a.val : Int) - b.val by unfold sgn; simp; omega]; rfl
 ·
  refine Wp.brnT (by show I.leb (I.of .i64 0) (d2X a b) = true; unfold d2X; rw [if_neg h]; split <;> rfl) ?_
  refine Wp.optF (b7P a b) ?_
  refine Wp.optF (c2X false (U.of (a.val - b.val))) ?_
  rw [U.val_of (by omega), show sgn false (a.val - b.val) = (a.val : Int) - b.val by unfold sgn; simp; omega]; rfl
def d0O (x y : S) (z : Int) : S × I .i64 := if a1P x && a1P y then d0P z else (S.of 0, I.of .i64 2)
theorem c7S {x y : S} {z : Int} (h1 : a1P x = true) (h2 : a1P y = true) : d0O x y z = d0P z := by unfold d0O; rw [h1, h2]; rfl
theorem d3L {x y : S} {z : Int} (h1 : a1P x = false) : d0O x y z = (S.of 0, I.of .i64 2) := by unfold d0O; rw [h1]; rfl
theorem d4S {x y : S} {z : Int} (h2 : a1P y = false) : d0O x y z = (S.of 0, I.of .i64 2) := by unfold d0O; rw [h2]; simp
theorem b5F {z : Int} (h : z.natAbs < U.top) : d0P z = (S.of z, I.of .i64 0) := if_pos h
theorem c1T {z : Int} (h : U.top ≤ z.natAbs) : d0P z = (S.of 0, I.of .i64 4) := if_neg (by omega)
theorem f3I (x y : S) : b5J ((x, y, ()), ()) = some (((d0O x y (x.int + y.int)).1, (d0O x y (x.int + y.int)).2, ()), ()) := by
 refine Wp.out (T := fun o => o = some (((d0O x y (x.int + y.int)).1, (d0O x y (x.int + y.int)).2, ()), ())) ?_
 unfold b5J
 refine Wp.jn (fun s => a1P x = true ∧ a1P y = true ∧ s.2.1 = x ∧ s.2.2.1 = y) ?_ ?_
 ·
  rintro ⟨⟨⟩, x', y', r, ⟨⟩⟩ ⟨h1, h2, e1, e2⟩
  simp only at e1 e2
  subst e1 e2
  rw [c7S h1 h2]
  obtain ⟨n, a, ⟨⟩⟩ := x'
  obtain ⟨m, b, ⟨⟩⟩ := y'
  have ha := U.lt a
  have hb := U.lt b
  have hab : ∀ (p q : U), ((p.val : Int) - q.val).natAbs < U.top := fun p q => by have := p.lt; have := q.lt; omega
  have same : ∀ (n : Bool), S.int (n, a, ()) + S.int (n, b, ()) = sgn n (U.val a + U.val b) := fun n => by unfold S.int sgn; cases n <;> simp <;> omega
  have add : ∀ (n : Bool), Wp (fun o => o = some (((d0P (S.int (n, a, ()) + S.int (n, b, ()))).1, (d0P (S.int (n, a, ()) + S.int (n, b, ()))).2, ()), ()))
    (optF none (a1Z ((a, b, ()), ())) fun y1 => brn (I.neb y1.1.2.1 (I.of .i64 0)) (some (((false, (I.of .u64 0, I.of .u64 0, I.of .u64 0, I.of .u64 0, ()), ()), y1.1.2.1, ()), ())) (optF none (a5I ((n, y1.1.1, ()), ())) fun y2 => some ((y2.1.1, I.of .i64 0, ()), ()))) := by
   intro n
   rw [same]
   refine Wp.optF (b0M a b) ?_
   have e : (sgn n (U.val a + U.val b)).natAbs = U.val a + U.val b := by unfold sgn; cases n <;> simp <;> omega
   unfold f4E
   by_cases h : U.val a + U.val b < U.top
   ·
    rw [if_pos h, b5F (by rw [e]; exact h)]
    refine Wp.brnF rfl ?_
    refine Wp.optF (c2X n (U.of (U.val a + U.val b))) ?_
    rw [U.val_of h]; rfl
   ·
    rw [if_neg h, c1T (by rw [e]; omega)]
    exact Wp.brnT rfl rfl
  cases n <;> cases m
  ·
   exact Wp.brnT rfl (add false)
  ·
   refine Wp.brnF rfl (Wp.brnF rfl ?_)
   refine Wp.optF (d4W a b) ?_
   have : S.int (false, a, ()) + S.int (true, b, ()) = (U.val a : Int) - U.val b := by unfold S.int; simp; omega
   rw [this, b5F (hab a b)]; rfl
  ·
   refine Wp.brnF rfl (Wp.brnT rfl ?_)
   refine Wp.optF (d4W b a) ?_
   have : S.int (true, a, ()) + S.int (false, b, ()) = (U.val b : Int) - U.val a := by unfold S.int; simp; omega
   rw [this, b5F (hab b a)]; rfl
  ·
   exact Wp.brnT rfl (add true)
 ·
  intro j hj
  refine Wp.optF (a9O x) ?_
  cases h1 : a1P x with
  | false =>
   rw [d3L h1]
   exact Wp.brnT rfl rfl
  | true =>
   refine Wp.brnF rfl ?_
   refine Wp.optF (a9O y) ?_
   cases h2 : a1P y with
   | false =>
    rw [d4S h2]
    exact Wp.brnT rfl rfl
   | true =>
    exact Wp.brnF rfl (hj _ ⟨h1, h2, rfl, rfl⟩)
end Sym

/- Signed numbers of 256 bits: differences, products, quotients, order. -/
namespace Sym
open Go
theorem f2W (x y : S) : a8W ((x, y, ()), ()) = some (((d0O x y (x.int - y.int)).1, (d0O x y (x.int - y.int)).2, ()), ()) := by
 refine Wp.out (T := fun o => o = some (((d0O x y (x.int - y.int)).1, (d0O x y (x.int - y.int)).2, ()), ())) ?_
 unfold a8W
 refine Wp.optF (e9U y) ?_
 refine Wp.jn (fun s => a1P x = true ∧ a1P y = true ∧ s.2.1 = x ∧ s.2.2.2.1 = S.of (-y.int)) ?_ ?_
 ·
  rintro ⟨⟨⟩, x', r, y', ⟨⟩⟩ ⟨h1, h2, e1, e2⟩
  simp only at e1 e2
  subst e1 e2
  refine Wp.optF (f3I x' (S.of (-y.int))) ?_
  have hy := y.lt
  rw [c7S h1 h2, c7S h1 (S.of_valid (by omega)), S.int_of (by omega), show S.int x' + -y.int = S.int x' - y.int by omega]
  rfl
 ·
  intro j hj
  unfold f1C
  cases h2 : a1P y with
  | false =>
   rw [d4S h2]
   exact Wp.brnT rfl rfl
  | true =>
   refine Wp.brnF rfl ?_
   refine Wp.optF (a9O x) ?_
   cases h1 : a1P x with
   | false =>
    rw [d3L h1]
    exact Wp.brnT rfl rfl
   | true => exact Wp.brnF rfl (hj _ ⟨h1, h2, rfl, rfl⟩)
theorem e1Y (n m : Bool) (a b : Nat) : sgn n a * sgn m b = sgn (!(n == m)) (a * b) := by
 unfold sgn
 cases n <;> cases m <;> simp [Int.neg_mul, Int.mul_neg]
theorem d0G (n : Bool) (a : Nat) : (sgn n a).natAbs = a := by unfold sgn; cases n <;> simp
theorem f3V (x y : S) : a9S ((x, y, ()), ()) = some (((d0O x y (x.int * y.int)).1, (d0O x y (x.int * y.int)).2, ()), ()) := by
 refine Wp.out (T := fun o => o = some (((d0O x y (x.int * y.int)).1, (d0O x y (x.int * y.int)).2, ()), ())) ?_
 unfold a9S
 refine Wp.jn (fun s => a1P x = true ∧ a1P y = true ∧ s.2.1 = x ∧ s.2.2.1 = y) ?_ ?_
 ·
  rintro ⟨⟨⟩, x', y', r, ⟨⟩⟩ ⟨h1, h2, e1, e2⟩
  simp only at e1 e2
  subst e1 e2
  rw [c7S h1 h2]
  obtain ⟨n, a, ⟨⟩⟩ := x'
  obtain ⟨m, b, ⟨⟩⟩ := y'
  have e : S.int (n, a, ()) * S.int (m, b, ()) = sgn (!(n == m)) (U.val a * U.val b) := e1Y n m _ _
  rw [e]
  refine Wp.optF (e8K a b) ?_
  unfold b4V
  by_cases h : U.val a * U.val b < U.top
  ·
   rw [if_pos h, b5F (by rw [d0G]; exact h)]
   refine Wp.brnF rfl ?_
   refine Wp.optF (c2X (!(n == m)) (U.of (U.val a * U.val b))) ?_
   rw [U.val_of h]; rfl
  ·
   rw [if_neg h, c1T (by rw [d0G]; omega)]
   exact Wp.brnT rfl rfl
 ·
  intro j hj
  refine Wp.optF (a9O x) ?_
  cases h1 : a1P x with
  | false =>
   rw [d3L h1]
   exact Wp.brnT rfl rfl
  | true =>
   refine Wp.brnF rfl ?_
   refine Wp.optF (a9O y) ?_
   cases h2 : a1P y with
   | false =>
    rw [d4S h2]
    exact Wp.brnT rfl rfl
   | true =>
    exact Wp.brnF rfl (hj _ ⟨h1, h2, rfl, rfl⟩)
def d8I (x : S) (d : U) : S × I .i64 := if a1P x then (if d.val = 0 then (S.of 0, I.of .i64 5) else (S.of (x.int / (d.val : Int)), I.of .i64 0)) else (S.of 0, I.of .i64 2)
theorem e1B (a d : Nat) (hd : 0 < d) : -(a : Int) / (d : Int) = if a % d = 0 then -((a / d : Nat) : Int) else -((a / d + 1 : Nat) : Int) := by
 have h1 := Nat.div_add_mod a d
 have h2 := Nat.mod_lt a hd
 have h1' : (d : Int) * ((a / d : Nat) : Int) + ((a % d : Nat) : Int) = (a : Int) := by rw [← Int.natCast_mul]; omega
 by_cases h : a % d = 0
 ·
  rw [if_pos h]
  refine ((Int.ediv_emod_unique (r := 0) (by omega)).2 ⟨?_, by omega, by omega⟩).1
  rw [h] at h1'
  rw [Int.mul_neg]
  simp only [Int.ofNat_zero] at h1'
  omega
 ·
  rw [if_neg h]
  refine ((Int.ediv_emod_unique (r := (d : Int) - ((a % d : Nat) : Int)) (by omega)).2 ⟨?_, by omega, by omega⟩).1
  rw [Int.natCast_add, Int.mul_neg, Int.mul_add, show ((1 : Nat) : Int) = 1 from rfl, Int.mul_one]
  omega
theorem d3O (x : S) (d : U) : a3P ((x, d, ()), ()) = some (((d8I x d).1, (d8I x d).2, ()), ()) := by
 refine Wp.out (T := fun o => o = some (((d8I x d).1, (d8I x d).2, ()), ())) ?_
 unfold a3P d8I
 refine Wp.optF (a9O x) ?_
 cases h1 : a1P x with
 | false => exact Wp.brnT rfl rfl
 | true =>
  refine Wp.brnF rfl ?_
  refine Wp.optF (e2K x.2.1 d) ?_
  unfold c5M
  by_cases hd : d.val = 0
  ·
   rw [if_pos hd, if_pos rfl, if_pos hd]
   exact Wp.brnT rfl rfl
  ·
   rw [if_neg hd, if_pos rfl, if_neg hd]
   refine Wp.brnF rfl ?_
   obtain ⟨n, a, ⟨⟩⟩ := x
   have ha := U.lt a
   have hq : U.val a / d.val < U.top := Nat.lt_of_le_of_lt (Nat.div_le_self _ _) ha
   have hr : U.val a % d.val < U.top := Nat.lt_of_le_of_lt (Nat.mod_le _ _) ha
   refine Wp.jn (fun s => s.2.1.1 = n ∧ s.2.2.2.1 = U.of (U.val a / d.val) ∧ s.1.1 = (n && !decide (U.val a % d.val = 0))) ?_ ?_
   ·
    rintro ⟨⟨b, ⟨⟩⟩, ⟨n', a', ⟨⟩⟩, r, q, ⟨⟩⟩ ⟨e1, e2, e3⟩
    simp only at e1 e2 e3
    subst e1 e2 e3
    cases n' with
    | false =>
     refine Wp.brnF rfl ?_
     refine Wp.optF (c2X false (U.of (U.val a / d.val))) ?_
     rw [U.val_of hq]
     rfl
    | true =>
     have hz : S.int (true, a, ()) / (d.val : Int) = if U.val a % d.val = 0 then -((U.val a / d.val : Nat) : Int) else -((U.val a / d.val + 1 : Nat) : Int) := e1B _ _ (by omega)
     rw [hz]
     by_cases hm : U.val a % d.val = 0
     ·
      rw [if_pos hm]
      refine Wp.brnF (by show (true && !decide (U.val a % d.val = 0)) = false; rw [hm]; rfl) ?_
      refine Wp.optF (c2X true (U.of (U.val a / d.val))) ?_
      rw [U.val_of hq]
      rfl
     ·
      rw [if_neg hm]
      refine Wp.brnT (by show (true && !decide (U.val a % d.val = 0)) = true; simp [hm]) ?_
      refine Wp.optF (a3C _) ?_
      refine Wp.optF (b0M (U.of (U.val a / d.val)) (b1F (I.of .u64 1))) ?_
      have hlt : U.val a / d.val + 1 < U.top := by
       have h2 : d.val ≠ 1 := by intro e; rw [e, Nat.mod_one] at hm; exact hm rfl
       have h3 : U.val a / d.val ≤ U.val a / 2 := Nat.div_le_div_left (by omega) (by decide)
       have : U.top = 115792089237316195423570985008687907853269984665640564039457584007913129639936 := rfl
       omega
      have h1v : (b1F (I.of .u64 1)).val = 1 := rfl
      unfold f4E
      rw [U.val_of hq, h1v, if_pos hlt]
      refine Wp.optF (c2X true (U.of (U.val a / d.val + 1))) ?_
      rw [U.val_of hlt]
      rfl
   ·
    intro j hj
    have hbit : (!(Ty.eqb (.arr 4 (.int .u64)) (U.of (U.val a % d.val)) (I.of .u64 0, I.of .u64 0, I.of .u64 0, I.of .u64 0, ()))) = !decide (U.val a % d.val = 0) := by rw [eqz, U.val_of hr]
    cases n with
    | false => exact Wp.brnF rfl (hj _ ⟨rfl, rfl, rfl⟩)
    | true => exact Wp.brnT rfl (hj _ ⟨rfl, rfl, hbit⟩)
def b6U (a : U) (y : S) : U × I .i64 := if a1P y then (if (a.val : Int) + y.int < 0 then (U.of 0, I.of .i64 0) else b4V ((a.val : Int) + y.int).toNat) else (U.of 0, I.of .i64 2)
theorem d0F (a : U) (y : S) : a6N ((a, y, ()), ()) = some (((b6U a y).1, (b6U a y).2, ()), ()) := by
 refine Wp.out (T := fun o => o = some (((b6U a y).1, (b6U a y).2, ()), ())) ?_
 unfold a6N b6U
 refine Wp.optF (a9O y) ?_
 cases h1 : a1P y with
 | false => exact Wp.brnT rfl rfl
 | true =>
  refine Wp.brnF rfl ?_
  rw [if_pos rfl]
  obtain ⟨n, b, ⟨⟩⟩ := y
  have ha := U.lt a
  have hb := U.lt b
  cases n with
  | false =>
   refine Wp.brnF rfl ?_
   refine Wp.optF (b0M a b) ?_
   have e : S.int (false, b, ()) = (U.val b : Int) := rfl
   rw [e, if_neg (by omega), show ((U.val a : Int) + U.val b).toNat = U.val a + U.val b by omega]
   rfl
  | true =>
   refine Wp.brnT rfl ?_
   refine Wp.optF (b7P a b) ?_
   have e : S.int (true, b, ()) = -(U.val b : Int) := rfl
   rw [e]
   by_cases h : U.val a < U.val b
   ·
    rw [if_pos (by omega), show U.val a - U.val b = 0 by omega]
    rfl
   ·
    rw [if_neg (by omega), show ((U.val a : Int) + -(U.val b : Int)).toNat = U.val a - U.val b by omega]
    rw [show b4V (U.val a - U.val b) = (U.of (U.val a - U.val b), I.of .i64 0) from if_pos (by omega)]
    rfl
end Sym
