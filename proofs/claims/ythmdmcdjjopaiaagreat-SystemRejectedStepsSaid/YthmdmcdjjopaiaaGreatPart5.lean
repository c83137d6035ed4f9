/- The contracts of the given functions. -/
import Derived.Test.YthmdmcdjjopaiaaGreatProg
import Derived.Test.YthmdmcdjjopaiaaGreatPart4
import Derived.Test.YthmdmcdjjopaiaaGreatPart3
namespace Sym
open Go Go.Proofs
set_option maxRecDepth 100000
noncomputable abbrev tp:Program:=Tryz.prog
def tys:List (Nat × Ty):=[(1,.fnc),(2,(.int .i64)),(3,(.int .i64)),(4,.bool),(5,(.int .u8)),(6,(.int .u8)),(7,Y_runtime_boundsError),(8,Y_runtime_boundsError),(9,.str),(10,.str),(11,.str),(22,(.sl (.sl (.int .u8)))),(24,.opq),(26,(.sl (.int .u8))),(27,(.int .i64)),(28,(.int .u64)),(30,a1A),(32,a2E),(33,(.sl a0J)),(35,a1V),(38,a0I),(40,a1M),(42,a0O),(43,(.sl a0L)),(45,a0N),(46,(.sl a0M)),(47,(.arr 4 a1A)),(48,(.sl .bool)),(49,(.sl a0P)),(51,Y_api_State),(55,(.int .u64)),(57,a1P),(59,a0J),(60,(.sl (.arr 32 (.int .u8)))),(62,Y_api_Claim),(64,Y_api_Step),(70,(.arr 32 (.int .u8))),(77,.opq),(79,.opq),(81,.opq),(84,a1W),(94,a0L),(103,a0J),(108,(.sl .fnc)),(112,.fnc),(116,a0M),(121,a1G),(122,.opq),(125,a1X),(127,a1F),(128,.opq),(132,.opq),(137,a0P),(147,tY0),(149,a0C),(167,a1N),(187,(.sl a1A)),(190,(.int .u32)),(191,(.arr 8 (.int .u32))),(192,(.arr 64 (.int .u32))),(241,.opq),(243,.opq),(244,.opq),(253,(.sl (.int .u64))),(259,(.int .u64)),(279,.opq),(293,.fnc),(295,(.arr 5 (.int .u64))),(313,.fnc),(316,.fnc),(318,(.sl a1Q)),(320,Y_debtqueue_Queue),(322,.opq),(324,a1Q),(333,(.arr 8 (.int .u64)))]
def eqs:List (Nat × Ty):=[(2,(.int .i64)),(3,(.int .i64)),(4,.bool),(5,(.int .u8)),(6,(.int .u8)),(7,Y_runtime_boundsError),(8,Y_runtime_boundsError),(24,.opq),(27,(.int .i64)),(28,(.int .u64)),(30,a1A),(32,a2E),(38,a0I),(40,a1M),(42,a0O),(47,(.arr 4 a1A)),(55,(.int .u64)),(59,a0J),(70,(.arr 32 (.int .u8))),(77,.opq),(79,.opq),(81,.opq),(94,a0L),(103,a0J),(116,a0M),(122,.opq),(128,.opq),(132,.opq),(137,a0P),(190,(.int .u32)),(191,(.arr 8 (.int .u32))),(192,(.arr 64 (.int .u32))),(241,.opq),(243,.opq),(244,.opq),(259,(.int .u64)),(279,.opq),(295,(.arr 5 (.int .u64))),(322,.opq),(324,a1Q),(333,(.arr 8 (.int .u64)))]
theorem tysOk:tys.all (fun x=>tiB tp x.1 x.2) = true:=by kernel_rfl
theorem eqsOk:eqs.all (fun x=>eqiB tp x.1 x.2) = true:=by kernel_rfl
theorem follows:tp.follows .mixedOrders = true:=by kernel_rfl
theorem noOddP:noOdd tp:=noOdd_of (by kernel_rfl)
def owns:List Nat:=[35,51,84,121,125,127,147,318,320]
def meths : List (Nat × String × FuncId × Option Nat) := [(322, "Len", 269, some 318), (322, "Less", 270, some 318), (322, "Pop", 272, none), (322, "Push", 273, none), (322, "Swap", 271, some 318)]
theorem methsOk:meths.all (fun x=>methB tp x.1 x.2.1 x.2.2.1 x.2.2.2) = true:=by kernel_rfl
theorem mkOk {C:Con} {n k:Nat} {hs:List (Nat × How)} {A:Anns} (h:HowsOk tp hs) (e:∀ x,evalFn (mkEnv tp tys eqs hs owns meths) A n C.In C.Out k K0 x = C.F x) (hko:keepOut C.In.heap C.Out.heap = true:=by rfl):a0X tp n C:=con_of_ev (E:=mkEnv tp tys eqs hs owns meths) (envOk tysOk eqsOk h follows methsOk) noOddP (fun x _ h=>⟨A,k,K0,(e x).trans h⟩) hko
theorem mkOkO {C:Con} {n k:Nat} {hs:List (Nat × How)} {A:Anns} (ow:List Nat) (h:HowsOk tp hs) (e:∀ x,evalFn (mkEnv tp tys eqs hs ow meths) A n C.In C.Out k K0 x = C.F x) (hko:keepOut C.In.heap C.Out.heap = true:=by rfl):a0X tp n C:=con_of_ev (E:=mkEnv tp tys eqs hs ow meths) (envOk tysOk eqsOk h follows methsOk) noOddP (fun x _ h=>⟨A,k,K0,(e x).trans h⟩) hko
noncomputable section
def pontagelaw0_EqualPostersC:Con:=⟨⟨[.pl (.sl a0L),.pl (.sl a0L)],[]⟩,⟨[.pl .bool],[]⟩,pontagelaw0_EqualPosters K0⟩
theorem ok51:a0X tp 51 pontagelaw0_EqualPostersC:=mkOk (n:=51) (k:=160) (hs:=[]) (A:=annL [([51],0,.tmpl ⟨(.pl (.sl a0L)::.pl (.sl a0L)::dd 3 (.pl (.int .i64)::dd 20 [])),[]⟩)]) trivial (by intro x; kernel_rfl)
def pontagelaw0_EqualPricerC:Con:=⟨⟨[.pl a0N,.pl a0N],[]⟩,⟨[.pl .bool],[]⟩,pontagelaw0_EqualPricer K0⟩
theorem ok30:a0X tp 30 pontagelaw0_EqualPricerC:=mkOk (n:=30) (k:=160) (hs:=[(51,.con pontagelaw0_EqualPostersC)]) (A:=fun _ _=>none) ⟨ok51,trivial⟩ (by intro x; kernel_rfl)
def pontagelaw0_EqualAccountsC:Con:=⟨⟨[.pl (.sl a0M),.pl (.sl a0M)],[]⟩,⟨[.pl .bool],[]⟩,pontagelaw0_EqualAccounts K0⟩
theorem ok31:a0X tp 31 pontagelaw0_EqualAccountsC:=mkOk (n:=31) (k:=160) (hs:=[]) (A:=annL [([31],0,.tmpl ⟨(.pl (.sl a0M)::.pl (.sl a0M)::dd 3 (.pl (.int .i64)::dd 20 [])),[]⟩)]) trivial (by intro x; kernel_rfl)
def pontagelaw0_EqualMessagesC:Con:=⟨⟨[.pl (.sl a0J),.pl (.sl a0J)],[]⟩,⟨[.pl .bool],[]⟩,pontagelaw0_EqualMessages K0⟩
theorem ok32:a0X tp 32 pontagelaw0_EqualMessagesC:=mkOk (n:=32) (k:=160) (hs:=[]) (A:=annL [([32],0,.tmpl ⟨(.pl (.sl a0J)::.pl (.sl a0J)::dd 3 (.pl (.int .i64)::dd 20 [])),[]⟩)]) trivial (by intro x; kernel_rfl)
def pontagelaw0_EqualBoolsC:Con:=⟨⟨[.pl (.sl .bool),.pl (.sl .bool)],[]⟩,⟨[.pl .bool],[]⟩,pontagelaw0_EqualBools K0⟩
theorem ok33:a0X tp 33 pontagelaw0_EqualBoolsC:=mkOk (n:=33) (k:=160) (hs:=[]) (A:=annL [([33],0,.tmpl ⟨(.pl (.sl .bool)::.pl (.sl .bool)::dd 3 (.pl (.int .i64)::dd 20 [])),[]⟩)]) trivial (by intro x; kernel_rfl)
def pontagelaw0_EqualPaymentsC:Con:=⟨⟨[.pl (.sl a0P),.pl (.sl a0P)],[]⟩,⟨[.pl .bool],[]⟩,pontagelaw0_EqualPayments K0⟩
theorem ok34:a0X tp 34 pontagelaw0_EqualPaymentsC:=mkOk (n:=34) (k:=160) (hs:=[]) (A:=annL [([34],0,.tmpl ⟨(.pl (.sl a0P)::.pl (.sl a0P)::dd 3 (.pl (.int .i64)::dd 20 [])),[]⟩)]) trivial (by intro x; kernel_rfl)
def pontagelaw0_EqualStateC:Con:=⟨⟨[.pl Y_api_State,.pl Y_api_State],[]⟩,⟨[.pl .bool],[]⟩,pontagelaw0_EqualState K0⟩
theorem ok9:a0X tp 9 pontagelaw0_EqualStateC:=mkOk (n:=9) (k:=160) (hs:=[(30,.con pontagelaw0_EqualPricerC),(31,.con pontagelaw0_EqualAccountsC),(32,.con pontagelaw0_EqualMessagesC),(33,.con pontagelaw0_EqualBoolsC),(34,.con pontagelaw0_EqualPaymentsC)]) (A:=fun _ _=>none) ⟨ok30,ok31,ok32,ok33,ok34,trivial⟩ (by intro x; kernel_rfl)
def a2D:Con:=⟨⟨[.pl (.int .u64)],[]⟩,⟨[.pl a1A],[]⟩,a0Q K0⟩
theorem ok40:a0X tp 40 a2D:=mkOk (n:=40) (k:=60) (hs:=[]) (A:=fun _ _=>none) trivial (by intro x; kernel_rfl)
def params_GenesisC:Con:=⟨⟨[],[]⟩,⟨[.pl a0I],[]⟩,params_Genesis K0⟩
theorem ok15:a0X tp 15 params_GenesisC:=mkOk (n:=15) (k:=60) (hs:=[(40,.con a2D)]) (A:=fun _ _=>none) ⟨ok40,trivial⟩ (by intro x; kernel_rfl)
def uint256_CmpC:Con:=⟨⟨[.pl a1A,.pl a1A],[]⟩,⟨[.pl (.int .i64)],[]⟩,uint256_Cmp⟩
theorem ok166:a0X tp 166 uint256_CmpC:=mkOk (n:=166) (k:=60) (hs:=[]) (A:=fun p _=>match p with | 1000000::_=>none | _=>some (.unroll 6)) trivial (by intro x; kernel_rfl)
def params_GetC:Con:=⟨⟨[.pl a0I,.pl (.int .i64)],[]⟩,⟨[.pl a1A,.pl (.int .i64)],[]⟩,params_Get K0⟩
theorem ok201:a0X tp 201 params_GetC:=mkOk (n:=201) (k:=90) (hs:=[(40,.con a2D),(141,.inl),(142,.inl)]) (A:=fun _ _=>none) ⟨ok40,trivial⟩ (by intro x; kernel_rfl)
def params_boundsC:Con:=⟨⟨[.pl a0I,.pl (.int .i64)],[]⟩,⟨[.pl (.int .u64),.pl (.int .u64)],[]⟩,params_bounds K0⟩
theorem ok202:a0X tp 202 params_boundsC:=mkOk (n:=202) (k:=60) (hs:=[]) (A:=annL [([1000000,202],12,.join ⟨(dd 2 (.ptr 0 []::dd 3 (.pl (.int .i64)::dd 7 (.pl .bool::dd 10 [])))),[.box a0I (.pl a0I)]⟩),([1000000,202],6,.join ⟨(dd 2 (.ptr 0 []::dd 3 (.pl (.int .i64)::.pl .bool::dd 17 []))),[.box a0I (.pl a0I)]⟩),([1000000,202],9,.join ⟨(dd 2 (.ptr 0 []::dd 3 (.pl (.int .i64)::dd 4 (.pl .bool::dd 13 [])))),[.box a0I (.pl a0I)]⟩)]) trivial (by intro x; kernel_rfl)
def params_FirstInvalidC:Con:=⟨⟨[.pl a0I],[]⟩,⟨[.pl (.int .i64)],[]⟩,params_FirstInvalid K0⟩
theorem ok158:a0X tp 158 params_FirstInvalidC:=mkOk (n:=158) (k:=60) (hs:=[(40,.con a2D),(166,.con uint256_CmpC),(201,.con params_GetC),(202,.con params_boundsC)]) (A:=annL [([158],0,.tmpl ⟨(dd 1 (.ptr 0 []::dd 1 (.pl (.int .i64)::dd 33 []))),[.box a0I (.pl a0I)]⟩)]) ⟨ok40,ok166,ok201,ok202,trivial⟩ (by intro x; kernel_rfl)
def params_ValidC:Con:=⟨⟨[.pl a0I],[]⟩,⟨[.pl .bool],[]⟩,params_Valid K0⟩
theorem ok101:a0X tp 101 params_ValidC:=mkOk (n:=101) (k:=60) (hs:=[(158,.con params_FirstInvalidC)]) (A:=fun _ _=>none) ⟨ok158,trivial⟩ (by intro x; kernel_rfl)
def math_bits_Mul64C:Con:=⟨⟨[.pl (.int .u64),.pl (.int .u64)],[]⟩,⟨[.pl (.int .u64),.pl (.int .u64)],[]⟩,math_bits_Mul64 K0⟩
theorem ok102:a0X tp 102 math_bits_Mul64C:=mkOk (n:=102) (k:=60) (hs:=[]) (A:=fun _ _=>none) trivial (by intro x; kernel_rfl)
def backlog_DrainC:Con:=⟨⟨[.pl (.int .u64),.pl (.int .u64),.pl (.int .u64)],[]⟩,⟨[.pl (.int .u64)],[]⟩,backlog_Drain K0⟩
theorem ok83:a0X tp 83 backlog_DrainC:=mkOk (n:=83) (k:=60) (hs:=[(102,.con math_bits_Mul64C)]) (A:=fun _ _=>none) ⟨ok102,trivial⟩ (by intro x; kernel_rfl)
def backlog_ExcessC:Con:=⟨⟨[.pl (.int .u64),.pl (.int .u64),.pl (.int .u64)],[]⟩,⟨[.pl (.int .u64)],[]⟩,backlog_Excess K0⟩
theorem ok103:a0X tp 103 backlog_ExcessC:=mkOk (n:=103) (k:=60) (hs:=[(83,.con backlog_DrainC)]) (A:=fun _ _=>none) ⟨ok83,trivial⟩ (by intro x; kernel_rfl)
def math_bits_Len64C:Con:=⟨⟨[.pl (.int .u64)],[]⟩,⟨[.pl (.int .i64)],[]⟩,math_bits_Len64 K0⟩
theorem ok203:a0X tp 203 math_bits_Len64C:=mkOk (n:=203) (k:=60) (hs:=[]) (A:=annL [([1000000,203],5,.join ⟨(.pl (.int .u64)::dd 1 (.pl (.int .i64)::dd 22 [])),[]⟩),([1000000,203],8,.join ⟨(.pl (.int .u64)::dd 1 (.pl (.int .i64)::dd 22 [])),[]⟩)]) trivial (by intro x; kernel_rfl)
def math_bits_LeadingZeros64C:Con:=⟨⟨[.pl (.int .u64)],[]⟩,⟨[.pl (.int .i64)],[]⟩,math_bits_LeadingZeros64 K0⟩
theorem ok159:a0X tp 159 math_bits_LeadingZeros64C:=mkOk (n:=159) (k:=60) (hs:=[(203,.con math_bits_Len64C)]) (A:=fun _ _=>none) ⟨ok203,trivial⟩ (by intro x; kernel_rfl)
def math_bits_Div64C:Con:=⟨⟨[.pl (.int .u64),.pl (.int .u64),.pl (.int .u64)],[]⟩,⟨[.pl (.int .u64),.pl (.int .u64)],[]⟩,math_bits_Div64 K0⟩
theorem ok104:a0X tp 104 math_bits_Div64C:=mkOk (n:=104) (k:=60) (hs:=[(159,.con math_bits_LeadingZeros64C)]) (A:=annL [([1000000,104],19,.join ⟨(dd 2 (.pl (.int .u64)::dd 5 (.pl (.int .u64)::.pl (.int .u64)::.pl (.int .u64)::.pl (.int .u64)::dd 1 (.pl (.int .u64)::.pl (.int .u64)::.pl (.int .u64)::.pl (.int .u64)::dd 118 [])))),[]⟩),([1000000,104],22,.join ⟨(dd 2 (.pl (.int .u64)::dd 5 (.pl (.int .u64)::.pl (.int .u64)::.pl (.int .u64)::.pl (.int .u64)::dd 1 (.pl (.int .u64)::.pl (.int .u64)::.pl (.int .u64)::dd 119 [])))),[]⟩),([1000000,104],26,.join ⟨(dd 2 (.pl (.int .u64)::dd 5 (.pl (.int .u64)::.pl (.int .u64)::.pl (.int .u64)::dd 3 (.pl (.int .u64)::.pl (.int .u64)::.pl (.int .u64)::.pl (.int .u64)::.pl (.int .u64)::dd 116 [])))),[]⟩),([1000000,104],29,.join ⟨(dd 2 (.pl (.int .u64)::dd 5 (.pl (.int .u64)::dd 5 (.pl (.int .u64)::.pl (.int .u64)::dd 1 (.pl (.int .u64)::.pl (.int .u64)::dd 116 []))))),[]⟩),([1000000,104],4,.join ⟨(.pl (.int .u64)::.pl (.int .u64)::.pl (.int .u64)::dd 132 []),[]⟩),([1000000,104],6,.join ⟨(.pl (.int .u64)::.pl (.int .u64)::.pl (.int .u64)::dd 132 []),[]⟩),([104],0,.tmpl ⟨(dd 2 (.pl (.int .u64)::dd 5 (.pl (.int .u64)::.pl (.int .u64)::.pl (.int .u64)::.pl (.int .u64)::dd 1 (.pl (.int .u64)::.pl (.int .u64)::.pl (.int .u64)::.pl (.int .u64)::dd 118 [])))),[]⟩),([104],2,.tmpl ⟨(dd 2 (.pl (.int .u64)::dd 5 (.pl (.int .u64)::.pl (.int .u64)::.pl (.int .u64)::dd 3 (.pl (.int .u64)::.pl (.int .u64)::.pl (.int .u64)::.pl (.int .u64)::.pl (.int .u64)::dd 116 [])))),[]⟩)]) ⟨ok159,trivial⟩ (by intro x; kernel_rfl)
def basefee_ExponentC:Con:=⟨⟨[.pl (.int .u64),.pl a0I],[]⟩,⟨[.pl (.int .u64),.pl (.int .i64)],[]⟩,basefee_Exponent K0⟩
theorem ok62:a0X tp 62 basefee_ExponentC:=mkOk (n:=62) (k:=60) (hs:=[(101,.con params_ValidC),(102,.con math_bits_Mul64C),(103,.con backlog_ExcessC),(104,.con math_bits_Div64C)]) (A:=fun _ _=>none) ⟨ok101,ok102,ok103,ok104,trivial⟩ (by intro x; kernel_rfl)
def bips_ExpC:Con:=⟨⟨[.pl (.int .u64),.pl (.int .i64)],[]⟩,⟨[.pl (.int .u64),.pl (.int .i64)],[]⟩,bips_Exp K0⟩
theorem ok105:a0X tp 105 bips_ExpC:=mkOk (n:=105) (k:=60) (hs:=[]) (A:=annL [([1000000,105],4,.join ⟨(.pl (.int .u64)::.pl (.int .i64)::dd 30 []),[]⟩),([105],0,.tmpl ⟨(.pl (.int .u64)::dd 5 (.pl (.int .u64)::.pl (.int .i64)::dd 24 [])),[]⟩)]) trivial (by intro x; kernel_rfl)
theorem ok121:a0X tp 121 add64C:=add64_ok (fn:=Tryz.f121) (by kernel_rfl) (by kernel_rfl) (by kernel_rfl) (by kernel_rfl) (by kernel_rfl)
def muldiv_MulC:Con:=⟨⟨[.pl a1A,.pl a1A],[]⟩,⟨[.pl a1A,.pl a1A],[]⟩,muldiv_Mul K0⟩
theorem ok204:a0X tp 204 muldiv_MulC:=mkOk (n:=204) (k:=60) (hs:=[(102,.con math_bits_Mul64C),(121,.con add64C)]) (A:=annL [([204],0,.tmpl ⟨(dd 2 (.ptr 0 []::.ptr 1 []::.ptr 2 []::.ptr 3 []::.ptr 4 []::dd 6 (.pl (.int .i64)::dd 55 []))),[.box a1A (.pl a1A),.box a1A (.pl a1A),.box a1A (.pl a1A),.box a1A (.pl a1A),.box (.arr 8 (.int .u64)) (.pl (.arr 8 (.int .u64)))]⟩),([204],2,.tmpl ⟨(dd 2 (.ptr 0 []::.ptr 1 []::.ptr 2 []::.ptr 3 []::.ptr 4 []::.pl (.int .i64)::.pl (.int .u64)::dd 4 (.pl (.int .i64)::dd 2 (.pl (.int .i64)::dd 52 [])))),[.box a1A (.pl a1A),.box a1A (.pl a1A),.box a1A (.pl a1A),.box a1A (.pl a1A),.box (.arr 8 (.int .u64)) (.pl (.arr 8 (.int .u64)))]⟩)]) ⟨ok102,ok121,trivial⟩ (by intro x; kernel_rfl)
def muldiv_shiftLeftC:Con:=⟨⟨[.pl a1A,.pl (.int .u64)],[]⟩,⟨[.pl a1A,.pl (.int .u64)],[]⟩,muldiv_shiftLeft K0⟩
theorem ok231:a0X tp 231 muldiv_shiftLeftC:=mkOk (n:=231) (k:=60) (hs:=[]) (A:=annL [([231],0,.tmpl ⟨(dd 1 (.pl (.int .u64)::.ptr 0 []::dd 1 (.ptr 1 []::dd 1 (.pl (.int .u64)::.pl (.int .i64)::dd 27 [])))),[.box a1A (.pl a1A),.box a1A (.pl a1A)]⟩)]) trivial (by intro x; kernel_rfl)
theorem ok187:a0X tp 187 sub64C:=sub64_ok (fn:=Tryz.f187) (by kernel_rfl) (by kernel_rfl) (by kernel_rfl) (by kernel_rfl) (by kernel_rfl)
def muldiv_subWrapC:Con:=⟨⟨[.pl a1A,.pl a1A],[]⟩,⟨[.pl a1A],[]⟩,muldiv_subWrap K0⟩
theorem ok232:a0X tp 232 muldiv_subWrapC:=mkOk (n:=232) (k:=60) (hs:=[(187,.con sub64C)]) (A:=annL [([232],0,.tmpl ⟨(dd 2 (.ptr 0 []::.ptr 1 []::.ptr 2 []::.pl (.int .u64)::dd 1 (.pl (.int .i64)::dd 17 []))),[.box a1A (.pl a1A),.box a1A (.pl a1A),.box a1A (.pl a1A)]⟩)]) ⟨ok187,trivial⟩ (by intro x; kernel_rfl)
def muldiv_Div512C:Con:=⟨⟨[.pl a1A,.pl a1A,.pl a1A],[]⟩,⟨[.pl a1A,.pl a1A,.pl (.int .i64)],[]⟩,muldiv_Div512 K0⟩
theorem ok205:a0X tp 205 muldiv_Div512C:=mkOk (n:=205) (k:=60) (hs:=[(166,.con uint256_CmpC),(231,.con muldiv_shiftLeftC),(232,.con muldiv_subWrapC)]) (A:=annL [([1000000,205],13,.join ⟨(dd 3 (.ptr 0 []::dd 1 (.ptr 1 []::.ptr 2 []::.ptr 3 []::dd 1 (.pl (.int .i64)::dd 37 (.pl .bool::dd 14 []))))),[.box a1A (.pl a1A),.box a1A (.pl a1A),.box a1A (.pl a1A),.box a1A (.pl a1A)]⟩),([205],0,.tmpl ⟨(dd 3 (.ptr 0 []::dd 1 (.ptr 1 []::.ptr 2 []::.ptr 3 []::dd 1 (.pl (.int .i64)::dd 52 [])))),[.box a1A (.pl a1A),.box a1A (.pl a1A),.box a1A (.pl a1A),.box a1A (.pl a1A)]⟩)]) ⟨ok166,ok231,ok232,trivial⟩ (by intro x; kernel_rfl)
def muldiv_MulDivFloorC:Con:=⟨⟨[.pl a1A,.pl a1A,.pl a1A],[]⟩,⟨[.pl a1A,.pl (.int .i64)],[]⟩,muldiv_MulDivFloor K0⟩
theorem ok160:a0X tp 160 muldiv_MulDivFloorC:=mkOk (n:=160) (k:=60) (hs:=[(204,.con muldiv_MulC),(205,.con muldiv_Div512C)]) (A:=fun _ _=>none) ⟨ok204,ok205,trivial⟩ (by intro x; kernel_rfl)
def bips_ScaleC:Con:=⟨⟨[.pl a1A,.pl (.int .u64)],[]⟩,⟨[.pl a1A,.pl (.int .i64)],[]⟩,bips_Scale K0⟩
theorem ok106:a0X tp 106 bips_ScaleC:=mkOk (n:=106) (k:=60) (hs:=[(40,.con a2D),(160,.con muldiv_MulDivFloorC)]) (A:=fun _ _=>none) ⟨ok40,ok160,trivial⟩ (by intro x; kernel_rfl)
def bips_ScaleExpC:Con:=⟨⟨[.pl a1A,.pl (.int .u64),.pl (.int .i64)],[]⟩,⟨[.pl a1A,.pl (.int .i64)],[]⟩,bips_ScaleExp K0⟩
theorem ok63:a0X tp 63 bips_ScaleExpC:=mkOk (n:=63) (k:=60) (hs:=[(105,.con bips_ExpC),(106,.con bips_ScaleC)]) (A:=fun _ _=>none) ⟨ok105,ok106,trivial⟩ (by intro x; kernel_rfl)
def basefee_FeeC:Con:=⟨⟨[.pl (.int .u64),.pl a0I],[]⟩,⟨[.pl a1A,.pl (.int .i64)],[]⟩,basefee_Fee K0⟩
theorem ok41:a0X tp 41 basefee_FeeC:=mkOk (n:=41) (k:=60) (hs:=[(62,.con basefee_ExponentC),(63,.con bips_ScaleExpC)]) (A:=fun _ _=>none) ⟨ok62,ok63,trivial⟩ (by intro x; kernel_rfl)
def block_GenesisC:Con:=⟨⟨[.pl a0I],[]⟩,⟨[.pl a1M,.pl (.int .i64)],[]⟩,block_Genesis K0⟩
theorem ok16:a0X tp 16 block_GenesisC:=mkOk (n:=16) (k:=60) (hs:=[(41,.con basefee_FeeC)]) (A:=fun _ _=>none) ⟨ok41,trivial⟩ (by intro x; kernel_rfl)
def pricer_GenesisC:Con:=⟨⟨[],[]⟩,⟨[.pl a0N],[]⟩,pricer_Genesis K0⟩
theorem ok17:a0X tp 17 pricer_GenesisC:=mkOk (n:=17) (k:=60) (hs:=[(40,.con a2D)]) (A:=fun _ _=>none) ⟨ok40,trivial⟩ (by intro x; kernel_rfl)
def ledger_NewC:Con:=⟨⟨[],[]⟩,⟨[.ptr 0 []],a0V⟩,ledger_New K0⟩
theorem ok18:a0X tp 18 ledger_NewC:=mkOk (n:=18) (k:=140) (hs:=[]) (A:=fun _ _=>none) trivial (by intro x; kernel_rfl)
def merkle_NewC:Con:=⟨⟨[],[]⟩,⟨[.ptr 0 []],H_merkle_Tree⟩,merkle_New K0⟩
theorem ok42:a0X tp 42 merkle_NewC:=mkOk (n:=42) (k:=140) (hs:=[]) (A:=fun _ _=>none) trivial (by intro x; kernel_rfl)
def outbox_NewC:Con:=⟨⟨[],[]⟩,⟨[.ptr 0 []],a1K⟩,outbox_New K0⟩
theorem ok19:a0X tp 19 outbox_NewC:=mkOk (n:=19) (k:=140) (hs:=[(42,.con merkle_NewC)]) (A:=fun _ _=>none) ⟨ok42,trivial⟩ (by intro x; kernel_rfl)
def escrow_NewC:Con:=⟨⟨[],[]⟩,⟨[.ptr 0 []],H_escrow_Escrow⟩,escrow_New K0⟩
theorem ok20:a0X tp 20 escrow_NewC:=mkOk (n:=20) (k:=140) (hs:=[]) (A:=fun _ _=>none) trivial (by intro x; kernel_rfl)
def executor_NewC:Con:=⟨⟨[],[]⟩,⟨[.ptr 0 []],a0F⟩,executor_New K0⟩
theorem ok6:a0X tp 6 executor_NewC:=mkOk (n:=6) (k:=140) (hs:=[(15,.con params_GenesisC),(16,.con block_GenesisC),(17,.con pricer_GenesisC),(18,.con ledger_NewC),(19,.con outbox_NewC),(20,.con escrow_NewC)]) (A:=fun _ _=>none) ⟨ok15,ok16,ok17,ok18,ok19,ok20,trivial⟩ (by intro x; kernel_rfl)
def executor_Machine_countC:Con:=⟨⟨[.ptr 0 []],a0F⟩,⟨[],a0F⟩,executor_Machine_count K0⟩
theorem ok22:a0X tp 22 executor_Machine_countC:=mkOk (n:=22) (k:=140) (hs:=[]) (A:=fun _ _=>none) trivial (by intro x; kernel_rfl)
def ledger_Ledger_findC:Con:=⟨⟨[.bp a1G,.pl (.int .u64)],[]⟩,⟨[.pl (.int .i64),.pl .bool],[]⟩,ledger_Ledger_find K0⟩
theorem ok173:a0X tp 173 ledger_Ledger_findC:=mkOk (n:=173) (k:=200) (hs:=[(195,.inl),(211,.inl),(212,.inl),(229,.inl)]) (A:=annL [([211,1,5,173],0,.tmpl ⟨(.pl (.sl a0M)::.pl (.int .u64)::.fn 212::dd 5 (.pl (.int .i64)::.pl (.int .i64)::.pl (.int .i64)::dd 52 [])),[]⟩)]) trivial (by intro x; kernel_rfl)
def ledger_Ledger_getC:Con:=⟨⟨[.bp a1G,.pl (.int .u64)],[]⟩,⟨[.pl a0M],[]⟩,ledger_Ledger_get K0⟩
theorem ok126:a0X tp 126 ledger_Ledger_getC:=mkOk (n:=126) (k:=140) (hs:=[(173,.con ledger_Ledger_findC)]) (A:=fun _ _=>none) ⟨ok173,trivial⟩ (by intro x; kernel_rfl)
def ledger_Ledger_NonceC:Con:=⟨⟨[.bp a1G,.pl (.int .u64)],[]⟩,⟨[.pl (.int .u64)],[]⟩,ledger_Ledger_Nonce K0⟩
theorem ok114:a0X tp 114 ledger_Ledger_NonceC:=mkOk (n:=114) (k:=140) (hs:=[(126,.con ledger_Ledger_getC)]) (A:=fun _ _=>none) ⟨ok126,trivial⟩ (by intro x; kernel_rfl)
def uint256_AddC:Con:=⟨⟨[.pl a1A,.pl a1A],[]⟩,⟨[.pl a1A,.pl (.int .i64)],[]⟩,uint256_Add⟩
theorem ok87:a0X tp 87 uint256_AddC:=mkOk (n:=87) (k:=60) (hs:=[(121,.con add64C)]) (A:=fun p _=>match p with | 1000000::_=>none | _=>some (.unroll 6)) ⟨ok121,trivial⟩ (by intro x; kernel_rfl)
def uint256_SubC:Con:=⟨⟨[.pl a1A,.pl a1A],[]⟩,⟨[.pl a1A,.pl (.int .i64)],[]⟩,uint256_Sub⟩
theorem ok136:a0X tp 136 uint256_SubC:=mkOk (n:=136) (k:=60) (hs:=[(187,.con sub64C)]) (A:=fun p _=>match p with | 1000000::_=>none | _=>some (.unroll 6)) ⟨ok187,trivial⟩ (by intro x; kernel_rfl)
def uint256_MinC:Con:=⟨⟨[.pl a1A,.pl (.sl a1A)],[]⟩,⟨[.pl a1A],[]⟩,uint256_Min K0⟩
theorem ok164:a0X tp 164 uint256_MinC:=mkOk (n:=164) (k:=60) (hs:=[(166,.con uint256_CmpC)]) (A:=annL [([164],0,.tmpl ⟨(dd 2 (.ptr 0 []::dd 1 (.ptr 1 []::dd 2 (.pl (.sl a1A)::.pl (.int .i64)::.pl (.int .i64)::dd 10 [])))),[.box a1A (.pl a1A),.box a1A (.pl a1A)]⟩)]) ⟨ok166,trivial⟩ (by intro x; kernel_rfl)
def txfee_GasPriceC:Con:=⟨⟨[.pl a1P,.pl a1A],[]⟩,⟨[.pl a1A,.pl (.int .i64)],[]⟩,txfee_GasPrice K0⟩
theorem ok115:a0X tp 115 txfee_GasPriceC:=mkOk (n:=115) (k:=60) (hs:=[(87,.con uint256_AddC),(136,.con uint256_SubC),(164,.con uint256_MinC)]) (A:=fun _ _=>none) ⟨ok87,ok136,ok164,trivial⟩ (by intro x; kernel_rfl)
def block_GasRemainingC:Con:=⟨⟨[.pl a1M,.pl a0I],[]⟩,⟨[.pl (.int .u64)],[]⟩,block_GasRemaining K0⟩
theorem ok116:a0X tp 116 block_GasRemainingC:=mkOk (n:=116) (k:=60) (hs:=[]) (A:=fun _ _=>none) trivial (by intro x; kernel_rfl)
def uint256_MulC:Con:=⟨⟨[.pl a1A,.pl a1A],[]⟩,⟨[.pl a1A,.pl (.int .i64)],[]⟩,uint256_Mul K0⟩
theorem ok165:a0X tp 165 uint256_MulC:=mkOk (n:=165) (k:=60) (hs:=[(102,.con math_bits_Mul64C),(121,.con add64C)]) (A:=annL [([165],0,.tmpl ⟨(dd 2 (.ptr 0 []::.ptr 1 []::.ptr 2 []::dd 1 (.ptr 3 []::dd 6 (.pl (.int .i64)::dd 56 [])))),[.box a1A (.pl a1A),.box a1A (.pl a1A),.box a1A (.pl a1A),.box a1A (.pl a1A)]⟩),([165],2,.tmpl ⟨(dd 2 (.ptr 0 []::.ptr 1 []::.ptr 2 []::dd 1 (.ptr 3 []::.pl (.int .i64)::.pl (.int .u64)::dd 4 (.pl (.int .i64)::dd 2 (.pl (.int .i64)::dd 53 []))))),[.box a1A (.pl a1A),.box a1A (.pl a1A),.box a1A (.pl a1A),.box a1A (.pl a1A)]⟩)]) ⟨ok102,ok121,trivial⟩ (by intro x; kernel_rfl)
def txfee_CoversC:Con:=⟨⟨[.pl a1P,.pl a1A,.pl a1A],[]⟩,⟨[.pl .bool],[]⟩,txfee_Covers K0⟩
theorem ok117:a0X tp 117 txfee_CoversC:=mkOk (n:=117) (k:=60) (hs:=[(40,.con a2D),(87,.con uint256_AddC),(165,.con uint256_MulC),(166,.con uint256_CmpC)]) (A:=fun _ _=>none) ⟨ok40,ok87,ok165,ok166,trivial⟩ (by intro x; kernel_rfl)
def ledger_Ledger_BalanceC:Con:=⟨⟨[.bp a1G,.pl (.int .u64)],[]⟩,⟨[.pl a1A],[]⟩,ledger_Ledger_Balance K0⟩
theorem ok118:a0X tp 118 ledger_Ledger_BalanceC:=mkOk (n:=118) (k:=140) (hs:=[(126,.con ledger_Ledger_getC)]) (A:=fun _ _=>none) ⟨ok126,trivial⟩ (by intro x; kernel_rfl)
def uint256_Uint64C:Con:=⟨⟨[.pl a1A],[]⟩,⟨[.pl (.int .u64),.pl .bool],[]⟩,uint256_Uint64 K0⟩
theorem ok140:a0X tp 140 uint256_Uint64C:=mkOk (n:=140) (k:=60) (hs:=[]) (A:=fun _ _=>none) trivial (by intro x; kernel_rfl)
def lz_matchLenC:Con:=⟨⟨[.pl (.sl (.int .u8)),.pl (.int .i64),.pl (.int .i64),.pl (.int .i64)],[]⟩,⟨[.pl (.int .i64)],[]⟩,lz_matchLen K0⟩
theorem ok250:a0X tp 250 lz_matchLenC:=mkOk (n:=250) (k:=60) (hs:=[]) (A:=annL [([250],0,.tmpl ⟨(.pl (.sl (.int .u8))::.pl (.int .i64)::.pl (.int .i64)::.pl (.int .i64)::dd 5 (.pl (.int .i64)::dd 23 [])),[]⟩)]) trivial (by intro x; kernel_rfl)
def lz_longestMatchC:Con:=⟨⟨[.pl (.sl (.int .u8)),.pl (.int .i64)],[]⟩,⟨[.pl (.int .i64),.pl (.int .i64)],[]⟩,lz_longestMatch K0⟩
theorem ok245:a0X tp 245 lz_longestMatchC:=mkOk (n:=245) (k:=60) (hs:=[(250,.con lz_matchLenC)]) (A:=annL [([1000000,245],6,.join ⟨(.pl (.sl (.int .u8))::.pl (.int .i64)::dd 2 (.pl (.int .i64)::.pl (.int .i64)::.pl (.int .i64)::.pl (.int .i64)::dd 11 (.pl (.int .i64)::.pl (.int .i64)::.pl .bool::dd 15 []))),[]⟩),([245],0,.tmpl ⟨(.pl (.sl (.int .u8))::.pl (.int .i64)::dd 2 (.pl (.int .i64)::.pl (.int .i64)::.pl (.int .i64)::.pl (.int .i64)::dd 29 [])),[]⟩)]) ⟨ok250,trivial⟩ (by intro x; kernel_rfl)
def lz_CompressC:Con:=⟨⟨[.pl (.sl (.int .u8))],[]⟩,⟨[.pl (.sl (.int .u8))],[]⟩,lz_Compress K0⟩
theorem ok233:a0X tp 233 lz_CompressC:=mkOk (n:=233) (k:=90) (hs:=[(245,.con lz_longestMatchC),(246,.inl)]) (A:=annL [([233],0,.tmpl ⟨(.pl (.sl (.int .u8))::dd 2 (.whole 0::.pl (.int .i64)::.pl (.int .i64)::dd 44 [])),[.row (.int .u8)]⟩),([246,11,4,233],0,.tmpl ⟨(.whole 0::.pl (.sl (.int .u8))::dd 73 []),[.row (.int .u8)]⟩),([246,7,5,233],0,.tmpl ⟨(.whole 0::.pl (.sl (.int .u8))::dd 23 (.pl (.sl (.int .u8))::dd 4 (.pl (.int .i64)::.pl (.int .i64)::.pl (.int .i64)::dd 42 []))),[.row (.int .u8)]⟩)]) ⟨ok245,trivial⟩ (by intro x; kernel_rfl)
def sizeest_UnitsC:Con:=⟨⟨[.pl (.sl (.int .u8)),.pl (.int .u64),.pl (.int .u64)],[]⟩,⟨[.pl (.int .u64),.pl (.int .i64)],[]⟩,sizeest_Units K0⟩
theorem ok206:a0X tp 206 sizeest_UnitsC:=mkOk (n:=206) (k:=60) (hs:=[(233,.con lz_CompressC)]) (A:=fun _ _=>none) ⟨ok233,trivial⟩ (by intro x; kernel_rfl)
def sizeest_CostC:Con:=⟨⟨[.pl (.int .u64),.pl a1A],[]⟩,⟨[.pl a1A,.pl (.int .i64)],[]⟩,sizeest_Cost K0⟩
theorem ok207:a0X tp 207 sizeest_CostC:=mkOk (n:=207) (k:=60) (hs:=[(40,.con a2D),(165,.con uint256_MulC)]) (A:=fun _ _=>none) ⟨ok40,ok165,trivial⟩ (by intro x; kernel_rfl)
def muldiv_DivModC:Con:=⟨⟨[.pl a1A,.pl a1A],[]⟩,⟨[.pl a1A,.pl a1A,.pl (.int .i64)],[]⟩,muldiv_DivMod K0⟩
theorem ok208:a0X tp 208 muldiv_DivModC:=mkOk (n:=208) (k:=60) (hs:=[(205,.con muldiv_Div512C)]) (A:=fun _ _=>none) ⟨ok205,trivial⟩ (by intro x; kernel_rfl)
def txfee_meterC:Con:=⟨⟨[.pl a1P,.pl a1A,.pl a1A,.pl a0I],[]⟩,⟨[.pl a2E,.pl (.int .i64)],[]⟩,txfee_meter K0⟩
theorem ok167:a0X tp 167 txfee_meterC:=mkOk (n:=167) (k:=60) (hs:=[(140,.con uint256_Uint64C),(206,.con sizeest_UnitsC),(207,.con sizeest_CostC),(208,.con muldiv_DivModC)]) (A:=annL [([1000000,167],14,.join ⟨(dd 4 (.ptr 0 []::dd 3 (.ptr 1 []::dd 1 (.pl (.int .u64)::dd 4 (.pl (.int .u64)::dd 69 []))))),[.box a1P (.pl a1P),.box a2E (.pl a2E)]⟩)]) ⟨ok140,ok206,ok207,ok208,trivial⟩ (by intro x; kernel_rfl)
def uint256_SaturatingSubC:Con:=⟨⟨[.pl a1A,.pl a1A],[]⟩,⟨[.pl a1A],[]⟩,uint256_SaturatingSub K0⟩
theorem ok168:a0X tp 168 uint256_SaturatingSubC:=mkOk (n:=168) (k:=60) (hs:=[(136,.con uint256_SubC)]) (A:=fun _ _=>none) ⟨ok136,trivial⟩ (by intro x; kernel_rfl)
def bips_SplitC:Con:=⟨⟨[.pl a1A,.pl (.int .u64)],[]⟩,⟨[.pl a1A,.pl a1A,.pl (.int .i64)],[]⟩,bips_Split K0⟩
theorem ok209:a0X tp 209 bips_SplitC:=mkOk (n:=209) (k:=60) (hs:=[(106,.con bips_ScaleC),(168,.con uint256_SaturatingSubC)]) (A:=fun _ _=>none) ⟨ok106,ok168,trivial⟩ (by intro x; kernel_rfl)
def txfee_distributeC:Con:=⟨⟨[.pl a2E,.pl a1A,.pl a0I],[]⟩,⟨[.pl a2E,.pl (.int .i64)],[]⟩,txfee_distribute K0⟩
theorem ok169:a0X tp 169 txfee_distributeC:=mkOk (n:=169) (k:=60) (hs:=[(40,.con a2D),(87,.con uint256_AddC),(164,.con uint256_MinC),(165,.con uint256_MulC),(168,.con uint256_SaturatingSubC),(209,.con bips_SplitC)]) (A:=annL [([1000000,169],8,.join ⟨(dd 3 (.ptr 0 []::dd 1 (.ptr 1 []::.ptr 2 []::dd 1 (.ptr 3 []::dd 1 (.ptr 4 []::dd 1 (.ptr 5 []::dd 1 (.ptr 6 []::dd 89 []))))))),[.box a2E (.pl a2E),.box a0I (.pl a0I),.box a2E (.pl a2E),.box a1A (.pl a1A),.box a1A (.pl a1A),.box a1A (.pl a1A),.box a1A (.pl a1A)]⟩)]) ⟨ok40,ok87,ok164,ok165,ok168,ok209,trivial⟩ (by intro x; kernel_rfl)
def txfee_ComputeC:Con:=⟨⟨[.pl a1P,.pl a1A,.pl a1A,.pl a0I],[]⟩,⟨[.pl a2E,.pl (.int .i64)],[]⟩,txfee_Compute K0⟩
theorem ok119:a0X tp 119 txfee_ComputeC:=mkOk (n:=119) (k:=60) (hs:=[(101,.con params_ValidC),(115,.con txfee_GasPriceC),(167,.con txfee_meterC),(168,.con uint256_SaturatingSubC),(169,.con txfee_distributeC)]) (A:=fun _ _=>none) ⟨ok101,ok115,ok167,ok168,ok169,trivial⟩ (by intro x; kernel_rfl)
def executor_Machine_checkTransactionC:Con:=⟨⟨[.ptr 0 [],.pl a1P],a0F⟩,⟨[.pl a1A,.pl a2E,.pl (.int .i64)],a0F⟩,executor_Machine_checkTransaction K0⟩
theorem ok71:a0X tp 71 executor_Machine_checkTransactionC:=mkOk (n:=71) (k:=140) (hs:=[(114,.con ledger_Ledger_NonceC),(115,.con txfee_GasPriceC),(116,.con block_GasRemainingC),(117,.con txfee_CoversC),(118,.con ledger_Ledger_BalanceC),(119,.con txfee_ComputeC)]) (A:=annL [([1000000,71],11,.join ⟨(.ptr 0 []::dd 2 (.ptr 11 []::.ptr 12 []::.ptr 13 []::dd 114 (.ptr 0 []::.ptr 1 []::.ptr 3 []::.ptr 5 []::.ptr 7 []::[]))),[.box a1W ((.pair (.pl (.int .u64)) ((.pair (.pl a0I) ((.pair (.pl a1M) ((.pair (.pl (.int .u64)) ((.pair (.pl a0N) ((.pair (.ptr 1 []) ((.pair (.ptr 3 []) ((.pair (.ptr 7 []) (.pl .nil))))))))))))))))),.box a1G ((.pair (.whole 2) (.pl (.cons (.arr 4 a1A) .nil)))),.row a0M,.box a1X ((.pair (.whole 4) ((.pair (.ptr 5 []) (.pl .nil))))),.row a0J,.box tY0 ((.pair (.whole 6) (.pl .nil))),.row (.arr 32 (.int .u8)),.box a1F ((.pair (.whole 8) ((.pair (.whole 9) ((.pair (.pl a1A) ((.pair (.whole 10) (.pl .nil))))))))),.row (.arr 32 (.int .u8)),.row .bool,.row a0P,.box a1P (.pl a1P),.box a1A (.pl a1A),.box a2E (.pl a2E)]⟩),([1000000,71],6,.join ⟨(.ptr 0 []::dd 2 (.ptr 11 []::.ptr 12 []::.ptr 13 []::dd 1 (.pl (.int .u64)::dd 17 (.pl .bool::dd 94 (.ptr 0 []::.ptr 1 []::.ptr 3 []::.ptr 5 []::.ptr 7 []::[]))))),[.box a1W ((.pair (.pl (.int .u64)) ((.pair (.pl a0I) ((.pair (.pl a1M) ((.pair (.pl (.int .u64)) ((.pair (.pl a0N) ((.pair (.ptr 1 []) ((.pair (.ptr 3 []) ((.pair (.ptr 7 []) (.pl .nil))))))))))))))))),.box a1G ((.pair (.whole 2) (.pl (.cons (.arr 4 a1A) .nil)))),.row a0M,.box a1X ((.pair (.whole 4) ((.pair (.ptr 5 []) (.pl .nil))))),.row a0J,.box tY0 ((.pair (.whole 6) (.pl .nil))),.row (.arr 32 (.int .u8)),.box a1F ((.pair (.whole 8) ((.pair (.whole 9) ((.pair (.pl a1A) ((.pair (.whole 10) (.pl .nil))))))))),.row (.arr 32 (.int .u8)),.row .bool,.row a0P,.box a1P (.pl a1P),.box a1A (.pl a1A),.box a2E (.pl a2E)]⟩)]) ⟨ok114,ok115,ok116,ok117,ok118,ok119,trivial⟩ (by intro x; kernel_rfl)
def poster_isZeroC:Con:=⟨⟨[.pl a1A],[]⟩,⟨[.pl .bool],[]⟩,poster_isZero K0⟩
theorem ok180:a0X tp 180 poster_isZeroC:=mkOk (n:=180) (k:=60) (hs:=[]) (A:=fun _ _=>none) trivial (by intro x; kernel_rfl)
def poster_sumC:Con:=⟨⟨[.pl a1A,.pl a1A],[]⟩,⟨[.pl (.arr 5 (.int .u64))],[]⟩,poster_sum K0⟩
theorem ok210:a0X tp 210 poster_sumC:=mkOk (n:=210) (k:=60) (hs:=[(121,.con add64C)]) (A:=annL [([210],0,.tmpl ⟨(dd 2 (.ptr 0 []::.ptr 1 []::.ptr 2 []::.ptr 3 []::.pl (.int .u64)::dd 1 (.pl (.int .i64)::dd 19 []))),[.box a1A (.pl a1A),.box a1A (.pl a1A),.box (.arr 5 (.int .u64)) (.pl (.arr 5 (.int .u64))),.box (.arr 5 (.int .u64)) (.pl (.arr 5 (.int .u64)))]⟩)]) ⟨ok121,trivial⟩ (by intro x; kernel_rfl)
def poster_ValidC:Con:=⟨⟨[.pl (.sl a0L)],[]⟩,⟨[.pl .bool],[]⟩,poster_Valid K0⟩
theorem ok170:a0X tp 170 poster_ValidC:=mkOk (n:=170) (k:=60) (hs:=[(180,.con poster_isZeroC),(210,.con poster_sumC)]) (A:=annL [([1000000,170],7,.join ⟨(.pl (.sl a0L)::dd 3 (.ptr 0 []::.pl (.sl a0L)::.pl (.int .i64)::.pl (.int .i64)::dd 8 (.pl (.int .i64)::.pl .bool::.pl .bool::dd 9 (.pl .bool::dd 25 [])))),[.box a0L (.pl a0L)]⟩),([170],0,.tmpl ⟨(.pl (.sl a0L)::dd 4 (.pl (.sl a0L)::.pl (.int .i64)::.pl (.int .i64)::dd 46 [])),[]⟩)]) ⟨ok180,ok210,trivial⟩ (by intro x; kernel_rfl)
def int256_ValidC:Con:=⟨⟨[.pl a0O],[]⟩,⟨[.pl .bool],[]⟩,int256_Valid K0⟩
theorem ok171:a0X tp 171 int256_ValidC:=mkOk (n:=171) (k:=60) (hs:=[]) (A:=fun _ _=>none) trivial (by intro x; kernel_rfl)
def pricer_ValidC:Con:=⟨⟨[.pl a0N],[]⟩,⟨[.pl .bool],[]⟩,pricer_Valid K0⟩
theorem ok120:a0X tp 120 pricer_ValidC:=mkOk (n:=120) (k:=60) (hs:=[(170,.con poster_ValidC),(171,.con int256_ValidC)]) (A:=annL [([120],0,.tmpl ⟨(dd 1 (.ptr 0 []::dd 4 (.pl (.sl a0L)::.pl (.int .i64)::.pl (.int .i64)::dd 17 []))),[.box a0N (.pl a0N)]⟩)]) ⟨ok170,ok171,trivial⟩ (by intro x; kernel_rfl)
def a2A:Con:=⟨⟨[.pl (.sl a0L)],[]⟩,⟨[.whole 0],[.row a0L]⟩,a0S K0⟩
theorem ok28:a0X tp 28 a2A:=mkOk (n:=28) (k:=60) (hs:=[]) (A:=fun _ _=>none) trivial (by intro x; kernel_rfl)
def slices_Clone___api_Poster_api_Poster_cC:Con:=⟨⟨[.pl (.sl a0L)],[]⟩,⟨[.whole 0],[.row a0L]⟩,slices_Clone___api_Poster_api_Poster_c K0⟩
theorem okc28:a0X tp 28 slices_Clone___api_Poster_api_Poster_cC:=mkOk (n:=28) (k:=60) (hs:=[]) (A:=fun _ _=>none) trivial (by intro x; exact Eq.trans (b:=a0S K0 x) (by kernel_rfl) (slices_Clone___api_Poster_api_Poster_c_eq K0 x))
def pricer_clonedC:Con:=⟨⟨[.pl a0N],[]⟩,⟨[.pl a0N],[]⟩,pricer_cloned K0⟩
theorem ok122:a0X tp 122 pricer_clonedC:=mkOk (n:=122) (k:=60) (hs:=[(28,.con a2A)]) (A:=fun _ _=>none) ⟨ok28,trivial⟩ (by intro x; kernel_rfl)
def pricer_AddUnitsC:Con:=⟨⟨[.pl a0N,.pl (.int .u64)],[]⟩,⟨[.pl a0N,.pl (.int .i64)],[]⟩,pricer_AddUnits K0⟩
theorem ok72:a0X tp 72 pricer_AddUnitsC:=mkOk (n:=72) (k:=60) (hs:=[(120,.con pricer_ValidC),(121,.con add64C),(122,.con pricer_clonedC)]) (A:=fun _ _=>none) ⟨ok120,ok121,ok122,trivial⟩ (by intro x; kernel_rfl)
def block_UseGasC:Con:=⟨⟨[.pl a1M,.pl (.int .u64),.pl a0I],[]⟩,⟨[.pl a1M,.pl (.int .i64)],[]⟩,block_UseGas K0⟩
theorem ok73:a0X tp 73 block_UseGasC:=mkOk (n:=73) (k:=60) (hs:=[(116,.con block_GasRemainingC)]) (A:=fun _ _=>none) ⟨ok116,trivial⟩ (by intro x; kernel_rfl)
def ledger_isVaultC:Con:=⟨⟨[.pl (.int .i64)],[]⟩,⟨[.pl .bool],[]⟩,ledger_isVault K0⟩
theorem ok123:a0X tp 123 ledger_isVaultC:=mkOk (n:=123) (k:=60) (hs:=[]) (A:=fun _ _=>none) trivial (by intro x; kernel_rfl)
def ledger_isEmptyC:Con:=⟨⟨[.pl a0M],[]⟩,⟨[.pl .bool],[]⟩,ledger_isEmpty K0⟩
theorem ok174:a0X tp 174 ledger_isEmptyC:=mkOk (n:=174) (k:=60) (hs:=[]) (A:=fun _ _=>none) trivial (by intro x; kernel_rfl)
theorem ok175:a0X tp 175 (delC a0M):=del_ok (ρ:=⟨rnm [(45,175)],rnm [(22,46),(23,116),(3,3),(4,4)],fun x=>x⟩) (z:=mkZ a0M) ⟨by decide,follows,⟨Tryz.f175.name,by kernel_rfl,by kernel_rfl⟩,by kernel_rfl,fun _=>by kernel_rfl,by kernel_rfl,fun _=>by kernel_rfl,⟨_,rfl,by kernel_rfl⟩,fun _=>by kernel_rfl,by kernel_rfl,by decide⟩ noOddP
theorem ok176:a0X tp 176 (insC a0M):=ins_ok (t:=a0M) (ρ:=⟨rnm [(22,176),(29,213),(30,214)],rnm [(24,46),(9,116),(3,3),(4,4)],fun x=>x⟩) ⟨by decide,follows,⟨Tryz.f176.name,by kernel_rfl,by kernel_rfl⟩,by kernel_rfl,fun _=>by kernel_rfl,fun _=>by kernel_rfl,by kernel_rfl,by kernel_rfl,Tryz.f213,by kernel_rfl,by kernel_rfl,by kernel_rfl,by kernel_rfl,by kernel_rfl⟩ (ti_ok (by kernel_rfl)) (ti_ok (by kernel_rfl)) rfl (by decide) noOddP
def ledger_Ledger_setC:Con:=⟨⟨[.ptr 0 [],.pl a0M],a0V⟩,⟨[],a0V⟩,ledger_Ledger_set K0⟩
theorem ok127:a0X tp 127 ledger_Ledger_setC:=mkOk (n:=127) (k:=160) (hs:=[(173,.con ledger_Ledger_findC),(174,.con ledger_isEmptyC),(175,.con (delC a0M)),(176,.con (insC a0M))]) (A:=annL [([1000000,127],4,.join ⟨(.ptr 0 []::dd 2 (.ptr 2 []::.pl (.int .i64)::.pl .bool::dd 7 (.pl .bool::dd 40 (.ptr 0 []::[])))),[.box a1G ((.pair (.whole 1) (.pl (.cons (.arr 4 a1A) .nil)))),.row a0M,.box a0M (.pl a0M)]⟩)]) ⟨ok173,ok174,ok175,ok176,trivial⟩ (by intro x; kernel_rfl)
def ledger_Ledger_debitC:Con:=⟨⟨[.ptr 0 [],.pl (.int .u64),.pl a1A],a0V⟩,⟨[.pl (.int .i64)],a0V⟩,ledger_Ledger_debit K0⟩
theorem ok124:a0X tp 124 ledger_Ledger_debitC:=mkOk (n:=124) (k:=140) (hs:=[(126,.con ledger_Ledger_getC),(127,.con ledger_Ledger_setC),(136,.con uint256_SubC)]) (A:=fun _ _=>none) ⟨ok126,ok127,ok136,trivial⟩ (by intro x; kernel_rfl)
def uint256_maxValueC:Con:=⟨⟨[],[]⟩,⟨[.pl a1A],[]⟩,uint256_maxValue K0⟩
theorem ok172:a0X tp 172 uint256_maxValueC:=mkOk (n:=172) (k:=60) (hs:=[]) (A:=fun _ _=>none) trivial (by intro x; kernel_rfl)
def uint256_SaturatingAddC:Con:=⟨⟨[.pl a1A,.pl a1A],[]⟩,⟨[.pl a1A],[]⟩,a1T K0⟩
theorem ok125:a0X tp 125 uint256_SaturatingAddC:=mkOk (n:=125) (k:=60) (hs:=[(87,.con uint256_AddC),(172,.con uint256_maxValueC)]) (A:=fun _ _=>none) ⟨ok87,ok172,trivial⟩ (by intro x; kernel_rfl)
def ledger_Ledger_PayVaultC:Con:=⟨⟨[.ptr 0 [],.pl (.int .u64),.pl (.int .i64),.pl a1A],a0V⟩,⟨[.pl (.int .i64)],a0V⟩,ledger_Ledger_PayVault K0⟩
theorem ok74:a0X tp 74 ledger_Ledger_PayVaultC:=mkOk (n:=74) (k:=140) (hs:=[(123,.con ledger_isVaultC),(124,.con ledger_Ledger_debitC),(125,.con uint256_SaturatingAddC)]) (A:=annL [([1000000,74],6,.join ⟨(.ptr 0 []::.pl (.int .u64)::.pl (.int .i64)::dd 4 (.ptr 2 []::dd 35 (.ptr 0 []::[]))),[.box a1G ((.pair (.whole 1) (.pl (.cons (.arr 4 a1A) .nil)))),.row a0M,.box a1A (.pl a1A)]⟩)]) ⟨ok123,ok124,ok125,trivial⟩ (by intro x; kernel_rfl)
def ledger_Ledger_IncrementNonceC:Con:=⟨⟨[.ptr 0 [],.pl (.int .u64)],a0V⟩,⟨[.pl (.int .i64)],a0V⟩,ledger_Ledger_IncrementNonce K0⟩
theorem ok75:a0X tp 75 ledger_Ledger_IncrementNonceC:=mkOk (n:=75) (k:=140) (hs:=[(126,.con ledger_Ledger_getC),(127,.con ledger_Ledger_setC)]) (A:=fun _ _=>none) ⟨ok126,ok127,trivial⟩ (by intro x; kernel_rfl)
def backlog_AddC:Con:=⟨⟨[.pl (.int .u64),.pl (.int .u64)],[]⟩,⟨[.pl (.int .u64)],[]⟩,backlog_Add K0⟩
theorem ok76:a0X tp 76 backlog_AddC:=mkOk (n:=76) (k:=60) (hs:=[(121,.con add64C)]) (A:=fun _ _=>none) ⟨ok121,trivial⟩ (by intro x; kernel_rfl)
def outbox_Outbox_LenC:Con:=⟨⟨[.ptr 0 []],a1K⟩,⟨[.pl (.int .i64)],a1K⟩,outbox_Outbox_Len K0⟩
theorem ok35:a0X tp 35 outbox_Outbox_LenC:=mkOk (n:=35) (k:=140) (hs:=[]) (A:=fun _ _=>none) trivial (by intro x; kernel_rfl)
def slices_Concat___byte_byte_C:Con:=⟨⟨[.pl (.sl (.sl (.int .u8)))],[]⟩,⟨[.whole 0],[.row (.int .u8)]⟩,slices_Concat___byte_byte_ K0⟩
theorem ok97:a0X tp 97 slices_Concat___byte_byte_C:=mkOkO [26] (n:=97) (k:=140) (hs:=[(156,.inl)]) (A:=annL [([97],0,.tmpl ⟨(.pl (.sl (.sl (.int .u8)))::dd 2 (.pl (.int .i64)::dd 5 (.pl (.sl (.sl (.int .u8)))::.pl (.int .i64)::.pl (.int .i64)::dd 24 []))),[]⟩),([97],2,.tmpl ⟨(dd 6 (.whole 0::dd 18 (.pl (.sl (.sl (.int .u8)))::.pl (.int .i64)::.pl (.int .i64)::dd 8 []))),[.row (.int .u8)]⟩)]) trivial (by intro x; kernel_rfl)
def hash_roundConstantsC:Con:=⟨⟨[],[]⟩,⟨[.pl (.arr 64 (.int .u32))],[]⟩,hash_roundConstants K0⟩
theorem ok98:a0X tp 98 hash_roundConstantsC:=mkOk (n:=98) (k:=60) (hs:=[]) (A:=fun _ _=>none) trivial (by intro x; kernel_rfl)
def math_bits_RotateLeft32C:Con:=⟨⟨[.pl (.int .u32),.pl (.int .i64)],[]⟩,⟨[.pl (.int .u32)],[]⟩,math_bits_RotateLeft32 K0⟩
theorem ok157:a0X tp 157 math_bits_RotateLeft32C:=mkOk (n:=157) (k:=60) (hs:=[]) (A:=fun _ _=>none) trivial (by intro x; kernel_rfl)
def hash_compressC:Con:=⟨⟨[.pl (.arr 8 (.int .u32)),.pl (.arr 64 (.int .u32)),.pl (.arr 64 (.int .u32))],[]⟩,⟨[.pl (.arr 8 (.int .u32))],[]⟩,hash_compress K0⟩
theorem ok99:a0X tp 99 hash_compressC:=mkOk (n:=99) (k:=60) (hs:=[(157,.con math_bits_RotateLeft32C)]) (A:=annL [([99],0,.tmpl ⟨(dd 3 (.ptr 0 []::.ptr 1 []::.ptr 2 []::.ptr 3 []::.ptr 4 []::dd 10 (.pl (.int .i64)::dd 97 []))),[.box (.arr 8 (.int .u32)) (.pl (.arr 8 (.int .u32))),.box (.arr 64 (.int .u32)) (.pl (.arr 64 (.int .u32))),.box (.arr 64 (.int .u32)) (.pl (.arr 64 (.int .u32))),.box (.arr 8 (.int .u32)) (.pl (.arr 8 (.int .u32))),.box (.arr 8 (.int .u32)) (.pl (.arr 8 (.int .u32)))]⟩),([99],2,.tmpl ⟨(dd 3 (.ptr 0 []::dd 2 (.ptr 1 []::.ptr 2 []::dd 95 (.pl (.int .i64)::dd 12 [])))),[.box (.arr 8 (.int .u32)) (.pl (.arr 8 (.int .u32))),.box (.arr 8 (.int .u32)) (.pl (.arr 8 (.int .u32))),.box (.arr 8 (.int .u32)) (.pl (.arr 8 (.int .u32)))]⟩)]) ⟨ok157,trivial⟩ (by intro x; kernel_rfl)
def hash_scheduleC:Con:=⟨⟨[.pl (.sl (.int .u8))],[]⟩,⟨[.pl (.arr 64 (.int .u32))],[]⟩,hash_schedule K0⟩
theorem ok100:a0X tp 100 hash_scheduleC:=mkOk (n:=100) (k:=60) (hs:=[(157,.con math_bits_RotateLeft32C)]) (A:=annL [([100],0,.tmpl ⟨(.pl (.sl (.int .u8))::dd 1 (.ptr 0 []::.ptr 1 []::dd 6 (.pl (.int .i64)::dd 82 []))),[.box (.arr 64 (.int .u32)) (.pl (.arr 64 (.int .u32))),.box (.arr 64 (.int .u32)) (.pl (.arr 64 (.int .u32)))]⟩),([100],2,.tmpl ⟨(dd 2 (.ptr 0 []::.ptr 1 []::dd 1 (.pl (.int .i64)::dd 87 []))),[.box (.arr 64 (.int .u32)) (.pl (.arr 64 (.int .u32))),.box (.arr 64 (.int .u32)) (.pl (.arr 64 (.int .u32)))]⟩)]) ⟨ok157,trivial⟩ (by intro x; kernel_rfl)
def hash_SumC:Con:=⟨⟨[.pl (.sl (.int .u8))],[]⟩,⟨[.pl (.arr 32 (.int .u8))],[]⟩,hash_Sum K0⟩
theorem ok61:a0X tp 61 hash_SumC:=mkOk (n:=61) (k:=60) (hs:=[(97,.con slices_Concat___byte_byte_C),(98,.con hash_roundConstantsC),(99,.con hash_compressC),(100,.con hash_scheduleC)]) (A:=annL [([61],0,.tmpl ⟨(dd 2 (.ptr 0 []::.pl (.int .u64)::.whole 1::dd 67 [])),[.box (.arr 32 (.int .u8)) (.pl (.arr 32 (.int .u8))),.row (.int .u8)]⟩),([61],2,.tmpl ⟨(dd 2 (.ptr 0 []::.pl (.int .u64)::.whole 1::.pl (.int .i64)::dd 66 [])),[.box (.arr 32 (.int .u8)) (.pl (.arr 32 (.int .u8))),.row (.int .u8)]⟩),([61],4,.tmpl ⟨(dd 2 (.ptr 0 []::dd 1 (.whole 1::dd 1 (.ptr 2 []::.ptr 3 []::.pl (.int .i64)::dd 63 [])))),[.box (.arr 32 (.int .u8)) (.pl (.arr 32 (.int .u8))),.row (.int .u8),.box (.arr 8 (.int .u32)) (.pl (.arr 8 (.int .u32))),.box (.arr 64 (.int .u32)) (.pl (.arr 64 (.int .u32)))]⟩),([61],6,.tmpl ⟨(dd 2 (.ptr 0 []::dd 3 (.ptr 1 []::dd 2 (.ptr 2 []::dd 45 (.pl (.int .i64)::dd 16 []))))),[.box (.arr 32 (.int .u8)) (.pl (.arr 32 (.int .u8))),.box (.arr 8 (.int .u32)) (.pl (.arr 8 (.int .u32))),.box (.arr 32 (.int .u8)) (.pl (.arr 32 (.int .u8)))]⟩)]) ⟨ok97,ok98,ok99,ok100,trivial⟩ (by intro x; kernel_rfl)
def hash_LeafC:Con:=⟨⟨[.pl (.sl (.int .u8))],[]⟩,⟨[.pl (.arr 32 (.int .u8))],[]⟩,hash_Leaf K0⟩
theorem ok226:a0X tp 226 hash_LeafC:=mkOk (n:=226) (k:=60) (hs:=[(61,.con hash_SumC),(97,.con slices_Concat___byte_byte_C)]) (A:=fun _ _=>none) ⟨ok61,ok97,trivial⟩ (by intro x; kernel_rfl)
def uint256_BitLenC:Con:=⟨⟨[.pl a1A],[]⟩,⟨[.pl (.int .i64)],[]⟩,uint256_BitLen K0⟩
theorem ok178:a0X tp 178 uint256_BitLenC:=mkOk (n:=178) (k:=60) (hs:=[(203,.con math_bits_Len64C)]) (A:=annL [([178],0,.tmpl ⟨(dd 1 (.ptr 0 []::dd 1 (.pl (.int .i64)::dd 15 []))),[.box a1A (.pl a1A)]⟩)]) ⟨ok203,trivial⟩ (by intro x; kernel_rfl)
def wire_encodeC:Con:=⟨⟨[.pl a1A],[]⟩,⟨[.pl (.sl (.int .u8))],[]⟩,wire_encode K0⟩
theorem ok200:a0X tp 200 wire_encodeC:=mkOk (n:=200) (k:=60) (hs:=[(178,.con uint256_BitLenC)]) (A:=annL [([200],0,.tmpl ⟨(dd 1 (.ptr 0 []::dd 2 (.whole 1::.pl (.int .i64)::dd 26 []))),[.box a1A (.pl a1A),.row (.int .u8)]⟩)]) ⟨ok178,trivial⟩ (by intro x; kernel_rfl)
def wire_AppendUint256C:Con:=⟨⟨[.pl (.sl (.int .u8)),.pl a1A],[]⟩,⟨[.whole 0],[.row (.int .u8)]⟩,wire_AppendUint256 K0⟩
theorem ok155:a0X tp 155 wire_AppendUint256C:=mkOk (n:=155) (k:=60) (hs:=[(97,.con slices_Concat___byte_byte_C),(200,.con wire_encodeC)]) (A:=fun _ _=>none) ⟨ok97,ok200,trivial⟩ (by intro x; kernel_rfl)
def wire_AppendUint64C:Con:=⟨⟨[.pl (.sl (.int .u8)),.pl (.int .u64)],[]⟩,⟨[.whole 0],[.row (.int .u8)]⟩,wire_AppendUint64 K0⟩
theorem ok153:a0X tp 153 wire_AppendUint64C:=mkOk (n:=153) (k:=60) (hs:=[(40,.con a2D),(155,.con wire_AppendUint256C)]) (A:=fun _ _=>none) ⟨ok40,ok155,trivial⟩ (by intro x; kernel_rfl)
def outbox_EncodeC:Con:=⟨⟨[.pl a0J],[]⟩,⟨[.pl (.sl (.int .u8))],[]⟩,outbox_Encode K0⟩
theorem ok227:a0X tp 227 outbox_EncodeC:=mkOk (n:=227) (k:=60) (hs:=[(153,.con wire_AppendUint64C),(155,.con wire_AppendUint256C)]) (A:=fun _ _=>none) ⟨ok153,ok155,trivial⟩ (by intro x; kernel_rfl)
def outbox_LeafC:Con:=⟨⟨[.pl a0J],[]⟩,⟨[.pl (.arr 32 (.int .u8))],[]⟩,outbox_Leaf K0⟩
theorem ok191:a0X tp 191 outbox_LeafC:=mkOk (n:=191) (k:=60) (hs:=[(226,.con hash_LeafC),(227,.con outbox_EncodeC)]) (A:=fun _ _=>none) ⟨ok226,ok227,trivial⟩ (by intro x; kernel_rfl)
def merkle_Tree_AppendC:Con:=⟨⟨[.ptr 0 [],.pl (.arr 32 (.int .u8))],H_merkle_Tree⟩,⟨[.pl (.int .i64)],H_merkle_Tree⟩,merkle_Tree_Append K0⟩
theorem ok223:a0X tp 223 merkle_Tree_AppendC:=mkOk (n:=223) (k:=140) (hs:=[]) (A:=fun _ _=>none) trivial (by intro x; kernel_rfl)
def outbox_Outbox_pushC:Con:=⟨⟨[.ptr 0 [],.pl a0J],a1K⟩,⟨[],a1K⟩,outbox_Outbox_push K0⟩
theorem ok188:a0X tp 188 outbox_Outbox_pushC:=mkOk (n:=188) (k:=140) (hs:=[(191,.con outbox_LeafC),(223,.con merkle_Tree_AppendC)]) (A:=fun _ _=>none) ⟨ok191,ok223,trivial⟩ (by intro x; kernel_rfl)
def outbox_Outbox_SendC:Con:=⟨⟨[.ptr 0 [],.pl (.int .u64),.pl a1A],a1K⟩,⟨[.pl a0J,.pl (.int .i64)],a1K⟩,outbox_Outbox_Send K0⟩
theorem ok137:a0X tp 137 outbox_Outbox_SendC:=mkOk (n:=137) (k:=140) (hs:=[(188,.con outbox_Outbox_pushC)]) (A:=annL [([1000000,137],6,.join ⟨(.ptr 0 []::.pl (.int .u64)::dd 3 (.ptr 4 []::.ptr 5 []::dd 28 (.ptr 0 []::.ptr 2 []::[]))),[.box a1X ((.pair (.whole 1) ((.pair (.ptr 2 []) (.pl .nil))))),.row a0J,.box tY0 ((.pair (.whole 3) (.pl .nil))),.row (.arr 32 (.int .u8)),.box a1A (.pl a1A),.box a0J (.pl a0J)]⟩)]) ⟨ok188,trivial⟩ (by intro x; kernel_rfl)
def merkle_splitPointC:Con:=⟨⟨[.pl (.int .i64)],[]⟩,⟨[.pl (.int .i64)],[]⟩,merkle_splitPoint K0⟩
theorem ok112:a0X tp 112 merkle_splitPointC:=mkOk (n:=112) (k:=60) (hs:=[]) (A:=annL [([112],0,.tmpl ⟨(.pl (.int .i64)::dd 2 (.pl (.int .i64)::dd 8 [])),[]⟩)]) trivial (by intro x; kernel_rfl)
def hash_NodeC:Con:=⟨⟨[.pl (.arr 32 (.int .u8)),.pl (.arr 32 (.int .u8))],[]⟩,⟨[.pl (.arr 32 (.int .u8))],[]⟩,hash_Node K0⟩
theorem ok163:a0X tp 163 hash_NodeC:=mkOk (n:=163) (k:=60) (hs:=[(61,.con hash_SumC),(97,.con slices_Concat___byte_byte_C)]) (A:=fun _ _=>none) ⟨ok61,ok97,trivial⟩ (by intro x; kernel_rfl)
def merkle_RootOfC:Con:=⟨⟨[.pl (.sl (.arr 32 (.int .u8)))],[]⟩,⟨[.pl (.arr 32 (.int .u8))],[]⟩,merkle_RootOf K0⟩
def merkle_RootOfK (k0:Nat):Con:=⟨⟨[.pl (.sl (.arr 32 (.int .u8)))],[]⟩,⟨[.pl (.arr 32 (.int .u8))],[]⟩,merkle_RootOf_rec K0 k0⟩
theorem okr113:∀ k0,a0X tp 113 (merkle_RootOfK k0)
 | 0=>fun x y h=>by cases h
 | k0 + 1=>mkOk (n:=113) (k:=60) (hs:=[(61,.con hash_SumC),(112,.con merkle_splitPointC),(113,.con (merkle_RootOfK k0)),(163,.con hash_NodeC)]) (A:=fun _ _=>none) ⟨ok61,ok112,(okr113 k0),ok163,trivial⟩ (by intro x; kernel_rfl)
theorem ok113:a0X tp 113 merkle_RootOfC:=okr113 K0
def merkle_Tree_RootC:Con:=⟨⟨[.bp tY0,.pl (.int .i64)],[]⟩,⟨[.pl (.arr 32 (.int .u8)),.pl .bool],[]⟩,merkle_Tree_Root K0⟩
theorem ok189:a0X tp 189 merkle_Tree_RootC:=mkOk (n:=189) (k:=140) (hs:=[(113,.con merkle_RootOfC)]) (A:=annL [([1000000,189],4,.join ⟨(.bp tY0::.pl (.int .i64)::dd 2 (.ptr 0 []::dd 24 [])),[.box (.arr 32 (.int .u8)) (.pl (.arr 32 (.int .u8)))]⟩)]) ⟨ok113,trivial⟩ (by intro x; kernel_rfl)
def outbox_Outbox_RootC:Con:=⟨⟨[.ptr 0 [],.pl (.int .i64)],a1K⟩,⟨[.pl (.arr 32 (.int .u8)),.pl .bool],a1K⟩,outbox_Outbox_Root K0⟩
theorem ok138:a0X tp 138 outbox_Outbox_RootC:=mkOk (n:=138) (k:=140) (hs:=[(189,.con merkle_Tree_RootC)]) (A:=fun _ _=>none) ⟨ok189,trivial⟩ (by intro x; kernel_rfl)
def escrow_Escrow_AppendRootC:Con:=⟨⟨[.ptr 0 [],.pl (.arr 32 (.int .u8))],H_escrow_Escrow⟩,⟨[.pl (.int .i64)],H_escrow_Escrow⟩,escrow_Escrow_AppendRoot K0⟩
theorem ok139:a0X tp 139 escrow_Escrow_AppendRootC:=mkOk (n:=139) (k:=140) (hs:=[]) (A:=fun _ _=>none) trivial (by intro x; kernel_rfl)
def executor_Machine_sendC:Con:=⟨⟨[.ptr 0 [],.pl (.int .u64),.pl a1A],a0F⟩,⟨[.pl a0J],a0F⟩,executor_Machine_send K0⟩
theorem ok82:a0X tp 82 executor_Machine_sendC:=mkOk (n:=82) (k:=140) (hs:=[(35,.con outbox_Outbox_LenC),(137,.con outbox_Outbox_SendC),(138,.con outbox_Outbox_RootC),(139,.con escrow_Escrow_AppendRootC)]) (A:=fun _ _=>none) ⟨ok35,ok137,ok138,ok139,trivial⟩ (by intro x; kernel_rfl)
def ledger_Ledger_creditC:Con:=⟨⟨[.ptr 0 [],.pl (.int .u64),.pl a1A],a0V⟩,⟨[],a0V⟩,ledger_Ledger_credit K0⟩
theorem ok144:a0X tp 144 ledger_Ledger_creditC:=mkOk (n:=144) (k:=140) (hs:=[(125,.con uint256_SaturatingAddC),(126,.con ledger_Ledger_getC),(127,.con ledger_Ledger_setC)]) (A:=fun _ _=>none) ⟨ok125,ok126,ok127,trivial⟩ (by intro x; kernel_rfl)
def ledger_Ledger_TransferC:Con:=⟨⟨[.ptr 0 [],.pl (.int .u64),.pl (.int .u64),.pl a1A],a0V⟩,⟨[.pl (.int .i64)],a0V⟩,ledger_Ledger_Transfer K0⟩
theorem ok128:a0X tp 128 ledger_Ledger_TransferC:=mkOk (n:=128) (k:=140) (hs:=[(124,.con ledger_Ledger_debitC),(144,.con ledger_Ledger_creditC)]) (A:=annL [([1000000,128],6,.join ⟨(.ptr 0 []::.pl (.int .u64)::.pl (.int .u64)::dd 4 (.ptr 2 []::dd 23 (.ptr 0 []::[]))),[.box a1G ((.pair (.whole 1) (.pl (.cons (.arr 4 a1A) .nil)))),.row a0M,.box a1A (.pl a1A)]⟩)]) ⟨ok124,ok144,trivial⟩ (by intro x; kernel_rfl)
def ledger_Ledger_WithdrawC:Con:=⟨⟨[.ptr 0 [],.pl (.int .u64),.pl a1A],a0V⟩,⟨[.pl (.int .i64)],a0V⟩,ledger_Ledger_Withdraw K0⟩
theorem ok129:a0X tp 129 ledger_Ledger_WithdrawC:=mkOk (n:=129) (k:=140) (hs:=[(124,.con ledger_Ledger_debitC)]) (A:=fun _ _=>none) ⟨ok124,trivial⟩ (by intro x; kernel_rfl)
def executor_Machine_transferValueC:Con:=⟨⟨[.ptr 0 [],.pl a1P],a0F⟩,⟨[.pl (.sl a0J)],a0F⟩,executor_Machine_transferValue K0⟩
theorem ok77:a0X tp 77 executor_Machine_transferValueC:=mkOk (n:=77) (k:=140) (hs:=[(82,.con executor_Machine_sendC),(128,.con ledger_Ledger_TransferC),(129,.con ledger_Ledger_WithdrawC)]) (A:=fun _ _=>none) ⟨ok82,ok128,ok129,trivial⟩ (by intro x; kernel_rfl)
def executor_Machine_transactionC:Con:=⟨⟨[.ptr 0 [],.pl Y_api_Step],a0F⟩,⟨[.pl a1V,.pl (.int .i64)],a0F⟩,executor_Machine_transaction K0⟩
theorem ok53:a0X tp 53 executor_Machine_transactionC:=mkOk (n:=53) (k:=140) (hs:=[(71,.con executor_Machine_checkTransactionC),(72,.con pricer_AddUnitsC),(73,.con block_UseGasC),(74,.con ledger_Ledger_PayVaultC),(75,.con ledger_Ledger_IncrementNonceC),(76,.con backlog_AddC),(77,.con executor_Machine_transferValueC)]) (A:=annL [([1000000,53],20,.join ⟨(.ptr 0 []::dd 3 (.ptr 11 []::dd 1 (.ptr 13 []::dd 5 (.ptr 14 []::dd 118 (.pl .bool::dd 8 (.ptr 0 []::.ptr 1 []::.ptr 3 []::.ptr 5 []::.ptr 7 []::[])))))),[.box a1W ((.pair (.pl (.int .u64)) ((.pair (.pl a0I) ((.pair (.pl a1M) ((.pair (.pl (.int .u64)) ((.pair (.pl a0N) ((.pair (.ptr 1 []) ((.pair (.ptr 3 []) ((.pair (.ptr 7 []) (.pl .nil))))))))))))))))),.box a1G ((.pair (.whole 2) (.pl (.cons (.arr 4 a1A) .nil)))),.row a0M,.box a1X ((.pair (.whole 4) ((.pair (.ptr 5 []) (.pl .nil))))),.row a0J,.box tY0 ((.pair (.whole 6) (.pl .nil))),.row (.arr 32 (.int .u8)),.box a1F ((.pair (.whole 8) ((.pair (.whole 9) ((.pair (.pl a1A) ((.pair (.whole 10) (.pl .nil))))))))),.row (.arr 32 (.int .u8)),.row .bool,.row a0P,.box a1V ((.pair (.pl (.int .i64)) ((.pair (.pl (.int .i64)) ((.pair (.pl a2E) ((.pair (.pl a1A) ((.pair (.pl a1A) ((.pair (.pl (.int .u64)) ((.pair (.pl a1A) ((.pair (.pl a1A) ((.pair (.whole 12) (.pl .nil))))))))))))))))))),.row a0J,.box a1P (.pl a1P),.box a1V ((.pair (.pl (.int .i64)) ((.pair (.pl (.int .i64)) ((.pair (.pl a2E) ((.pair (.pl a1A) ((.pair (.pl a1A) ((.pair (.pl (.int .u64)) ((.pair (.pl a1A) ((.pair (.pl a1A) ((.pair (.whole 15) (.pl .nil))))))))))))))))))),.row a0J]⟩)]) ⟨ok71,ok72,ok73,ok74,ok75,ok76,ok77,trivial⟩ (by intro x; kernel_rfl)
def poster_FindC:Con:=⟨⟨[.pl (.sl a0L),.pl (.int .u64)],[]⟩,⟨[.pl (.int .i64)],[]⟩,poster_Find K0⟩
theorem ok177:a0X tp 177 poster_FindC:=mkOk (n:=177) (k:=90) (hs:=[(215,.inl),(216,.inl)]) (A:=annL [([215,1,2,177],0,.tmpl ⟨(.pl (.sl a0L)::(.clo 216 ((.pair (.ptr 0 []) (.pl .nil))))::dd 5 (.pl (.int .i64)::.pl (.int .i64)::dd 18 [])),[.box (.int .u64) (.pl (.int .u64))]⟩)]) trivial (by intro x; kernel_rfl)
def pricer_checkReportC:Con:=⟨⟨[.pl a0N,.pl a0I,.pl a0J,.pl (.int .u64)],[]⟩,⟨[.pl (.int .i64)],[]⟩,pricer_checkReport K0⟩
theorem ok130:a0X tp 130 pricer_checkReportC:=mkOk (n:=130) (k:=60) (hs:=[(101,.con params_ValidC),(120,.con pricer_ValidC),(177,.con poster_FindC),(178,.con uint256_BitLenC)]) (A:=annL [([1000000,130],9,.join ⟨(dd 4 (.ptr 0 []::dd 1 (.ptr 1 []::dd 17 (.pl .bool::dd 20 [])))),[.box a0N (.pl a0N),.box a0J (.pl a0J)]⟩)]) ⟨ok101,ok120,ok177,ok178,trivial⟩ (by intro x; kernel_rfl)
def alloc_AllocateC:Con:=⟨⟨[.pl (.int .u64),.pl (.int .u64),.pl (.int .u64),.pl (.int .u64)],[]⟩,⟨[.pl (.int .u64),.pl (.int .i64)],[]⟩,alloc_Allocate K0⟩
theorem ok179:a0X tp 179 alloc_AllocateC:=mkOk (n:=179) (k:=60) (hs:=[(40,.con a2D),(160,.con muldiv_MulDivFloorC)]) (A:=annL [([1000000,179],3,.join ⟨(.pl (.int .u64)::.pl (.int .u64)::.pl (.int .u64)::.pl (.int .u64)::dd 8 (.pl .bool::dd 30 [])),[]⟩),([1000000,179],6,.join ⟨(.pl (.int .u64)::.pl (.int .u64)::.pl (.int .u64)::.pl (.int .u64)::dd 39 []),[]⟩)]) ⟨ok40,ok160,trivial⟩ (by intro x; kernel_rfl)
def pricer_allocateC:Con:=⟨⟨[.pl a0N,.pl a0I,.pl a0J,.pl (.int .u64)],[]⟩,⟨[.pl a1N,.pl (.int .i64)],[]⟩,pricer_allocate K0⟩
theorem ok131:a0X tp 131 pricer_allocateC:=mkOk (n:=131) (k:=60) (hs:=[(40,.con a2D),(165,.con uint256_MulC),(179,.con alloc_AllocateC)]) (A:=fun _ _=>none) ⟨ok40,ok165,ok179,trivial⟩ (by intro x; kernel_rfl)
def poster_AccrueC:Con:=⟨⟨[.pl (.sl a0L),.pl (.int .u64),.pl a1A,.pl a1A,.pl (.int .u64)],[]⟩,⟨[.pl (.sl a0L),.pl (.int .i64)],[]⟩,poster_Accrue K0⟩
theorem ok132:a0X tp 132 poster_AccrueC:=mkOk (n:=132) (k:=60) (hs:=[(28,.con a2A),(87,.con uint256_AddC),(170,.con poster_ValidC),(177,.con poster_FindC),(180,.con poster_isZeroC)]) (A:=annL [([1000000,132],14,.join ⟨(.pl (.sl a0L)::dd 3 (.pl (.int .u64)::dd 7 (.pl (.int .i64)::.ptr 0 []::dd 2 (.ptr 1 []::dd 1 (.ptr 2 []::dd 1 (.ptr 3 []::dd 84 [])))))),[.box a0L (.pl a0L),.box a1A (.pl a1A),.box a1A (.pl a1A),.box a1A (.pl a1A)]⟩),([1000000,132],16,.join ⟨(.pl (.sl a0L)::dd 11 (.pl (.int .i64)::.ptr 0 []::dd 2 (.ptr 1 []::dd 1 (.ptr 2 []::dd 1 (.ptr 3 []::dd 84 []))))),[.box a0L (.pl a0L),.box a1A (.pl a1A),.box a1A (.pl a1A),.box a1A (.pl a1A)]⟩),([1000000,132],4,.join ⟨(.pl (.sl a0L)::dd 3 (.pl (.int .u64)::dd 2 (.ptr 0 []::.ptr 1 []::dd 3 (.pl (.int .i64)::dd 13 (.pl .bool::dd 78 []))))),[.box a1A (.pl a1A),.box a1A (.pl a1A)]⟩),([1000000,132],7,.join ⟨(.pl (.sl a0L)::dd 3 (.pl (.int .u64)::dd 2 (.ptr 0 []::.ptr 1 []::dd 3 (.pl (.int .i64)::dd 92 [])))),[.box a1A (.pl a1A),.box a1A (.pl a1A)]⟩)]) ⟨ok28,ok87,ok170,ok177,ok180,trivial⟩ (by intro x; kernel_rfl)
def debtqueue_items_LenC:Con:=⟨⟨[.pl (.sl a1Q)],[]⟩,⟨[.pl (.int .i64)],[]⟩,debtqueue_items_Len K0⟩
theorem ok269:a0X tp 269 debtqueue_items_LenC:=mkOk (n:=269) (k:=60) (hs:=[]) (A:=fun _ _=>none) trivial (by intro x; kernel_rfl)
def debtqueue_items_LessC:Con:=⟨⟨[.pl (.sl a1Q),.pl (.int .i64),.pl (.int .i64)],[]⟩,⟨[.pl .bool],[]⟩,debtqueue_items_Less K0⟩
theorem ok270:a0X tp 270 debtqueue_items_LessC:=mkOk (n:=270) (k:=60) (hs:=[]) (A:=fun _ _=>none) trivial (by intro x; kernel_rfl)
def container_heap_PushC:Con:=⟨⟨[.iface 322 (.ptr 0 [.fld 0]),.iface 324 (.pl a1Q)],[.box Y_debtqueue_Queue (.pair (.whole 1) (.pl .nil)),.row a1Q]⟩,⟨[],[.box Y_debtqueue_Queue (.pair (.whole 1) (.pl .nil)),.row a1Q]⟩,container_heap_Push K0⟩
theorem ok217:a0X tp 217 container_heap_PushC:=mkOk (n:=217) (k:=140) (hs:=[(235,.inl),(269,.con debtqueue_items_LenC),(270,.con debtqueue_items_LessC),(271,.inl),(273,.inl)]) (A:=annL [([235,1,4,217],0,.tmpl ⟨((.iface 322 (.ptr 0 [.fld 0]))::.pl (.int .i64)::dd 33 (.ptr 0 []::[])),[.box Y_debtqueue_Queue ((.pair (.whole 1) (.pl .nil))),.row a1Q]⟩)]) ⟨ok269,ok270,trivial⟩ (by intro x; kernel_rfl)
def debtqueue_NewC:Con:=⟨⟨[.pl (.sl a0L)],[]⟩,⟨[.ptr 0 []],[.box Y_debtqueue_Queue (.pair (.whole 1) (.pl .nil)),.row a1Q]⟩,debtqueue_New K0⟩
theorem ok181:a0X tp 181 debtqueue_NewC:=mkOk (n:=181) (k:=140) (hs:=[(217,.con container_heap_PushC)]) (A:=annL [([181],0,.tmpl ⟨(dd 3 (.ptr 0 []::dd 4 (.pl (.sl a0L)::.pl (.int .i64)::.pl (.int .i64)::dd 19 []))),[.box Y_debtqueue_Queue ((.pair (.whole 1) (.pl .nil))),.row a1Q]⟩)]) ⟨ok217,trivial⟩ (by intro x; kernel_rfl)
def debtqueue_Queue_LenC:Con:=⟨⟨[.ptr 0 []],[.box Y_debtqueue_Queue (.pair (.whole 1) (.pl .nil)),.row a1Q]⟩,⟨[.pl (.int .i64)],[.box Y_debtqueue_Queue (.pair (.whole 1) (.pl .nil)),.row a1Q]⟩,debtqueue_Queue_Len K0⟩
theorem ok236:a0X tp 236 debtqueue_Queue_LenC:=mkOk (n:=236) (k:=60) (hs:=[]) (A:=fun _ _=>none) trivial (by intro x; kernel_rfl)
def debtqueue_Queue_PeekC:Con:=⟨⟨[.ptr 0 []],[.box Y_debtqueue_Queue (.pair (.whole 1) (.pl .nil)),.row a1Q]⟩,⟨[.pl a0L,.pl .bool],[.box Y_debtqueue_Queue (.pair (.whole 1) (.pl .nil)),.row a1Q]⟩,debtqueue_Queue_Peek K0⟩
theorem ok218:a0X tp 218 debtqueue_Queue_PeekC:=mkOk (n:=218) (k:=60) (hs:=[(236,.con debtqueue_Queue_LenC)]) (A:=fun _ _=>none) ⟨ok236,trivial⟩ (by intro x; kernel_rfl)
def debtqueue_Queue_PopC:Con:=⟨⟨[.ptr 0 []],[.box Y_debtqueue_Queue (.pair (.whole 1) (.pl .nil)),.row a1Q]⟩,⟨[.pl a0L,.pl .bool],[.box Y_debtqueue_Queue (.pair (.whole 1) (.pl .nil)),.row a1Q]⟩,debtqueue_Queue_Pop K0⟩
theorem ok182:a0X tp 182 debtqueue_Queue_PopC:=mkOk (n:=182) (k:=140) (hs:=[(218,.con debtqueue_Queue_PeekC),(219,.inl),(237,.inl),(269,.con debtqueue_items_LenC),(270,.con debtqueue_items_LessC),(271,.inl),(272,.inl)]) (A:=annL [([237,3,2,219,3,4,182],0,.tmpl ⟨((.iface 322 (.ptr 0 [.fld 0]))::.pl (.int .i64)::.pl (.int .i64)::dd 4 (.pl (.int .i64)::dd 40 ((.iface 322 (.ptr 0 [.fld 0]))::dd 16 (.ptr 2 []::dd 1 (.ptr 3 []::.pl .bool::dd 13 (.ptr 0 []::[])))))),[.box Y_debtqueue_Queue ((.pair (.whole 1) (.pl .nil))),.row a1Q,.box a0L (.pl a0L),.box a0L (.pl a0L)]⟩)]) ⟨ok218,ok269,ok270,trivial⟩ (by intro x; kernel_rfl)
def payout_PlanC:Con:=⟨⟨[.pl (.sl a0L),.pl a1A],[]⟩,⟨[.pl (.sl a0P),.pl (.int .i64)],[]⟩,payout_Plan K0⟩
theorem ok133:a0X tp 133 payout_PlanC:=mkOk (n:=133) (k:=60) (hs:=[(164,.con uint256_MinC),(168,.con uint256_SaturatingSubC),(170,.con poster_ValidC),(181,.con debtqueue_NewC),(182,.con debtqueue_Queue_PopC)]) (A:=annL [([1000000,133],9,.join ⟨(dd 3 (.ptr 0 []::dd 2 (.whole 1::.ptr 2 []::.ptr 4 []::dd 14 (.pl a1A::.pl a1A::.pl .bool::dd 23 [])))),[.box a1A (.pl a1A),.row a0P,.box Y_debtqueue_Queue ((.pair (.whole 3) (.pl .nil))),.row a1Q,.box a0L (.pl a0L)]⟩),([133],0,.tmpl ⟨(dd 3 (.ptr 0 []::dd 2 (.whole 1::.ptr 2 []::.ptr 4 []::.pl .bool::dd 39 []))),[.box a1A (.pl a1A),.row a0P,.box Y_debtqueue_Queue ((.pair (.whole 3) (.pl .nil))),.row a1Q,.box a0L (.pl a0L)]⟩)]) ⟨ok164,ok168,ok170,ok181,ok182,trivial⟩ (by intro x; kernel_rfl)
def poster_SettleC:Con:=⟨⟨[.pl (.sl a0L),.pl (.int .u64),.pl a1A],[]⟩,⟨[.pl (.sl a0L),.pl (.int .i64)],[]⟩,poster_Settle K0⟩
theorem ok183:a0X tp 183 poster_SettleC:=mkOk (n:=183) (k:=60) (hs:=[(28,.con a2A),(87,.con uint256_AddC),(136,.con uint256_SubC),(170,.con poster_ValidC),(177,.con poster_FindC),(180,.con poster_isZeroC)]) (A:=annL [([1000000,183],17,.join ⟨(.pl (.sl a0L)::dd 7 (.pl (.int .i64)::.ptr 0 []::dd 51 [])),[.box a0L (.pl a0L)]⟩)]) ⟨ok28,ok87,ok136,ok170,ok177,ok180,trivial⟩ (by intro x; kernel_rfl)
def payout_ApplyC:Con:=⟨⟨[.pl (.sl a0L),.pl (.sl a0P)],[]⟩,⟨[.pl (.sl a0L),.pl (.int .i64)],[]⟩,payout_Apply K0⟩
theorem ok134:a0X tp 134 payout_ApplyC:=mkOk (n:=134) (k:=60) (hs:=[(28,.con a2A),(183,.con poster_SettleC)]) (A:=annL [([134],0,.tmpl ⟨(dd 6 (.pl (.sl a0L)::dd 5 (.pl (.sl a0P)::.pl (.int .i64)::.pl (.int .i64)::dd 17 []))),[]⟩)]) ⟨ok28,ok183,trivial⟩ (by intro x; kernel_rfl)
def payout_SumC:Con:=⟨⟨[.pl (.sl a0P)],[]⟩,⟨[.pl a1A,.pl (.int .i64)],[]⟩,payout_Sum K0⟩
theorem ok80:a0X tp 80 payout_SumC:=mkOk (n:=80) (k:=60) (hs:=[(87,.con uint256_AddC)]) (A:=annL [([80],0,.tmpl ⟨(dd 2 (.ptr 0 []::dd 1 (.ptr 1 []::dd 4 (.pl (.sl a0P)::.pl (.int .i64)::.pl (.int .i64)::dd 16 [])))),[.box a1A (.pl a1A),.box a1A (.pl a1A)]⟩)]) ⟨ok87,trivial⟩ (by intro x; kernel_rfl)
def poster_TotalDueC:Con:=⟨⟨[.pl (.sl a0L)],[]⟩,⟨[.pl a1A,.pl (.int .i64)],[]⟩,poster_TotalDue K0⟩
theorem ok184:a0X tp 184 poster_TotalDueC:=mkOk (n:=184) (k:=60) (hs:=[(87,.con uint256_AddC),(170,.con poster_ValidC)]) (A:=annL [([184],0,.tmpl ⟨(dd 2 (.ptr 0 []::dd 1 (.ptr 1 []::dd 8 (.pl (.sl a0L)::.pl (.int .i64)::.pl (.int .i64)::dd 16 [])))),[.box a1A (.pl a1A),.box a1A (.pl a1A)]⟩)]) ⟨ok87,ok170,trivial⟩ (by intro x; kernel_rfl)
def int256_NewC:Con:=⟨⟨[.pl .bool,.pl a1A],[]⟩,⟨[.pl a0O],[]⟩,int256_New K0⟩
theorem ok238:a0X tp 238 int256_NewC:=mkOk (n:=238) (k:=60) (hs:=[]) (A:=fun _ _=>none) trivial (by intro x; kernel_rfl)
def int256_DiffC:Con:=⟨⟨[.pl a1A,.pl a1A],[]⟩,⟨[.pl a0O],[]⟩,int256_Diff K0⟩
theorem ok220:a0X tp 220 int256_DiffC:=mkOk (n:=220) (k:=60) (hs:=[(166,.con uint256_CmpC),(168,.con uint256_SaturatingSubC),(238,.con int256_NewC)]) (A:=fun _ _=>none) ⟨ok166,ok168,ok238,trivial⟩ (by intro x; kernel_rfl)
def l1price_SurplusC:Con:=⟨⟨[.pl a1A,.pl a1A],[]⟩,⟨[.pl a0O],[]⟩,l1price_Surplus K0⟩
theorem ok185:a0X tp 185 l1price_SurplusC:=mkOk (n:=185) (k:=60) (hs:=[(220,.con int256_DiffC)]) (A:=fun _ _=>none) ⟨ok220,trivial⟩ (by intro x; kernel_rfl)
def int256_NegC:Con:=⟨⟨[.pl a0O],[]⟩,⟨[.pl a0O,.pl (.int .i64)],[]⟩,int256_Neg K0⟩
theorem ok239:a0X tp 239 int256_NegC:=mkOk (n:=239) (k:=60) (hs:=[(171,.con int256_ValidC),(238,.con int256_NewC)]) (A:=fun _ _=>none) ⟨ok171,ok238,trivial⟩ (by intro x; kernel_rfl)
def int256_DivFloorC:Con:=⟨⟨[.pl a0O,.pl a1A],[]⟩,⟨[.pl a0O,.pl (.int .i64)],[]⟩,int256_DivFloor K0⟩
theorem ok240:a0X tp 240 int256_DivFloorC:=mkOk (n:=240) (k:=60) (hs:=[(40,.con a2D),(87,.con uint256_AddC),(171,.con int256_ValidC),(208,.con muldiv_DivModC),(238,.con int256_NewC)]) (A:=annL [([1000000,240],8,.join ⟨(dd 2 (.ptr 0 []::dd 1 (.ptr 1 []::dd 1 (.ptr 2 []::dd 24 (.pl .bool::dd 10 []))))),[.box a0O (.pl a0O),.box a0O (.pl a0O),.box a1A (.pl a1A)]⟩)]) ⟨ok40,ok87,ok171,ok208,ok238,trivial⟩ (by intro x; kernel_rfl)
def int256_AddC:Con:=⟨⟨[.pl a0O,.pl a0O],[]⟩,⟨[.pl a0O,.pl (.int .i64)],[]⟩,int256_Add K0⟩
theorem ok248:a0X tp 248 int256_AddC:=mkOk (n:=248) (k:=60) (hs:=[(87,.con uint256_AddC),(171,.con int256_ValidC),(220,.con int256_DiffC),(238,.con int256_NewC)]) (A:=annL [([1000000,248],4,.join ⟨(dd 2 (.ptr 0 []::.ptr 1 []::.ptr 2 []::dd 45 [])),[.box a0O (.pl a0O),.box a0O (.pl a0O),.box a0O (.pl a0O)]⟩)]) ⟨ok87,ok171,ok220,ok238,trivial⟩ (by intro x; kernel_rfl)
def int256_SubC:Con:=⟨⟨[.pl a0O,.pl a0O],[]⟩,⟨[.pl a0O,.pl (.int .i64)],[]⟩,int256_Sub K0⟩
theorem ok241:a0X tp 241 int256_SubC:=mkOk (n:=241) (k:=60) (hs:=[(171,.con int256_ValidC),(239,.con int256_NegC),(248,.con int256_AddC)]) (A:=annL [([1000000,241],5,.join ⟨(dd 2 (.ptr 0 []::dd 1 (.ptr 1 []::dd 1 (.ptr 2 []::dd 19 [])))),[.box a0O (.pl a0O),.box a0O (.pl a0O),.box a0O (.pl a0O)]⟩)]) ⟨ok171,ok239,ok248,trivial⟩ (by intro x; kernel_rfl)
def int256_MulC:Con:=⟨⟨[.pl a0O,.pl a0O],[]⟩,⟨[.pl a0O,.pl (.int .i64)],[]⟩,int256_Mul K0⟩
theorem ok242:a0X tp 242 int256_MulC:=mkOk (n:=242) (k:=60) (hs:=[(165,.con uint256_MulC),(171,.con int256_ValidC),(238,.con int256_NewC)]) (A:=annL [([1000000,242],4,.join ⟨(dd 2 (.ptr 0 []::.ptr 1 []::.ptr 2 []::dd 31 [])),[.box a0O (.pl a0O),.box a0O (.pl a0O),.box a0O (.pl a0O)]⟩)]) ⟨ok165,ok171,ok238,trivial⟩ (by intro x; kernel_rfl)
def l1price_DeltaC:Con:=⟨⟨[.pl a0O,.pl a0O,.pl (.int .u64),.pl a0I],[]⟩,⟨[.pl a0O,.pl (.int .i64)],[]⟩,l1price_Delta K0⟩
theorem ok221:a0X tp 221 l1price_DeltaC:=mkOk (n:=221) (k:=60) (hs:=[(40,.con a2D),(101,.con params_ValidC),(125,.con uint256_SaturatingAddC),(171,.con int256_ValidC),(239,.con int256_NegC),(240,.con int256_DivFloorC),(241,.con int256_SubC),(242,.con int256_MulC)]) (A:=annL [([1000000,221],6,.join ⟨(dd 2 (.pl (.int .u64)::dd 1 (.ptr 0 []::.ptr 1 []::dd 1 (.ptr 2 []::.ptr 3 []::dd 96 [])))),[.box a0O (.pl a0O),.box a0O (.pl a0O),.box a0I (.pl a0I),.box a0O (.pl a0O)]⟩)]) ⟨ok40,ok101,ok125,ok171,ok239,ok240,ok241,ok242,trivial⟩ (by intro x; kernel_rfl)
def int256_AddClampedC:Con:=⟨⟨[.pl a1A,.pl a0O],[]⟩,⟨[.pl a1A,.pl (.int .i64)],[]⟩,int256_AddClamped K0⟩
theorem ok222:a0X tp 222 int256_AddClampedC:=mkOk (n:=222) (k:=60) (hs:=[(87,.con uint256_AddC),(168,.con uint256_SaturatingSubC),(171,.con int256_ValidC)]) (A:=fun _ _=>none) ⟨ok87,ok168,ok171,trivial⟩ (by intro x; kernel_rfl)
def l1price_NextC:Con:=⟨⟨[.pl a1A,.pl a0O,.pl a0O,.pl (.int .u64),.pl a0I],[]⟩,⟨[.pl a1A,.pl (.int .i64)],[]⟩,l1price_Next K0⟩
theorem ok186:a0X tp 186 l1price_NextC:=mkOk (n:=186) (k:=60) (hs:=[(101,.con params_ValidC),(171,.con int256_ValidC),(221,.con l1price_DeltaC),(222,.con int256_AddClampedC)]) (A:=annL [([1000000,186],5,.join ⟨(dd 3 (.pl (.int .u64)::dd 1 (.ptr 0 []::.ptr 1 []::.ptr 2 []::dd 1 (.ptr 3 []::.ptr 4 []::dd 8 (.pl .bool::dd 30 []))))),[.box a1A (.pl a1A),.box a0O (.pl a0O),.box a0O (.pl a0O),.box a0I (.pl a0I),.box a1A (.pl a1A)]⟩),([1000000,186],8,.join ⟨(dd 3 (.pl (.int .u64)::dd 1 (.ptr 0 []::.ptr 1 []::.ptr 2 []::dd 1 (.ptr 3 []::.ptr 4 []::dd 39 [])))),[.box a1A (.pl a1A),.box a0O (.pl a0O),.box a0O (.pl a0O),.box a0I (.pl a0I),.box a1A (.pl a1A)]⟩)]) ⟨ok101,ok171,ok221,ok222,trivial⟩ (by intro x; kernel_rfl)
def pricer_adjustC:Con:=⟨⟨[.pl a0N,.pl a0I,.pl a1A,.pl a1N],[]⟩,⟨[.pl a0N,.pl (.int .i64)],[]⟩,pricer_adjust K0⟩
theorem ok135:a0X tp 135 pricer_adjustC:=mkOk (n:=135) (k:=60) (hs:=[(80,.con payout_SumC),(168,.con uint256_SaturatingSubC),(184,.con poster_TotalDueC),(185,.con l1price_SurplusC),(186,.con l1price_NextC)]) (A:=fun _ _=>none) ⟨ok80,ok168,ok184,ok185,ok186,trivial⟩ (by intro x; kernel_rfl)
def pricer_ReportC:Con:=⟨⟨[.pl a0N,.pl a0I,.pl a1A,.pl a0J,.pl (.int .u64)],[]⟩,⟨[.pl a0N,.pl a1N,.pl (.int .i64)],[]⟩,pricer_Report K0⟩
theorem ok78:a0X tp 78 pricer_ReportC:=mkOk (n:=78) (k:=60) (hs:=[(130,.con pricer_checkReportC),(131,.con pricer_allocateC),(132,.con poster_AccrueC),(133,.con payout_PlanC),(134,.con payout_ApplyC),(135,.con pricer_adjustC)]) (A:=annL [([1000000,78],11,.join ⟨(dd 5 (.ptr 0 []::.ptr 1 []::.ptr 2 []::.ptr 3 []::dd 1 (.ptr 4 []::.ptr 5 []::dd 2 (.ptr 6 []::.pl (.int .i64)::dd 86 [])))),[.box a0N (.pl a0N),.box a0I (.pl a0I),.box a1A (.pl a1A),.box a0J (.pl a0J),.box a0N (.pl a0N),.box a1N (.pl a1N),.box a1N (.pl a1N)]⟩),([1000000,78],13,.join ⟨(dd 5 (.ptr 0 []::.ptr 1 []::.ptr 2 []::.ptr 3 []::dd 1 (.ptr 4 []::.ptr 5 []::dd 2 (.ptr 6 []::.pl (.int .i64)::dd 86 [])))),[.box a0N (.pl a0N),.box a0I (.pl a0I),.box a1A (.pl a1A),.box a0J (.pl a0J),.box a0N (.pl a0N),.box a1N (.pl a1N),.box a1N (.pl a1N)]⟩),([1000000,78],15,.join ⟨(dd 5 (.ptr 0 []::dd 2 (.ptr 1 []::dd 1 (.ptr 2 []::.ptr 3 []::dd 2 (.ptr 4 []::.pl (.int .i64)::dd 86 []))))),[.box a0N (.pl a0N),.box a0J (.pl a0J),.box a0N (.pl a0N),.box a1N (.pl a1N),.box a1N (.pl a1N)]⟩),([1000000,78],9,.join ⟨(dd 5 (.ptr 0 []::.ptr 1 []::.ptr 2 []::.ptr 3 []::dd 1 (.ptr 4 []::.ptr 5 []::dd 2 (.ptr 6 []::.pl (.int .i64)::dd 86 [])))),[.box a0N (.pl a0N),.box a0I (.pl a0I),.box a1A (.pl a1A),.box a0J (.pl a0J),.box a0N (.pl a0N),.box a1N (.pl a1N),.box a1N (.pl a1N)]⟩)]) ⟨ok130,ok131,ok132,ok133,ok134,ok135,trivial⟩ (by intro x; kernel_rfl)
def ledger_Ledger_VaultC:Con:=⟨⟨[.bp a1G,.pl (.int .i64)],[]⟩,⟨[.pl a1A],[]⟩,ledger_Ledger_Vault K0⟩
theorem ok79:a0X tp 79 ledger_Ledger_VaultC:=mkOk (n:=79) (k:=140) (hs:=[(123,.con ledger_isVaultC)]) (A:=fun _ _=>none) ⟨ok123,trivial⟩ (by intro x; kernel_rfl)
def ledger_Ledger_WithdrawVaultC:Con:=⟨⟨[.ptr 0 [],.pl (.int .i64),.pl a1A],a0V⟩,⟨[.pl (.int .i64)],a0V⟩,ledger_Ledger_WithdrawVault K0⟩
theorem ok81:a0X tp 81 ledger_Ledger_WithdrawVaultC:=mkOk (n:=81) (k:=140) (hs:=[(123,.con ledger_isVaultC),(136,.con uint256_SubC)]) (A:=fun _ _=>none) ⟨ok123,ok136,trivial⟩ (by intro x; kernel_rfl)
def executor_Machine_reportC:Con:=⟨⟨[.ptr 0 [],.pl Y_api_Step],a0F⟩,⟨[.pl a1V,.pl (.int .i64)],a0F⟩,executor_Machine_report K0⟩
theorem ok54:a0X tp 54 executor_Machine_reportC:=mkOk (n:=54) (k:=140) (hs:=[(78,.con pricer_ReportC),(79,.con ledger_Ledger_VaultC),(80,.con payout_SumC),(81,.con ledger_Ledger_WithdrawVaultC),(82,.con executor_Machine_sendC)]) (A:=annL [([54],0,.tmpl ⟨(.ptr 0 []::dd 3 (.ptr 11 []::dd 5 (.ptr 13 []::dd 52 (.pl (.sl a0P)::.pl (.int .i64)::.pl (.int .i64)::dd 23 (.ptr 0 []::.ptr 1 []::.ptr 3 []::.ptr 5 []::.ptr 7 []::[]))))),[.box a1W ((.pair (.pl (.int .u64)) ((.pair (.pl a0I) ((.pair (.pl a1M) ((.pair (.pl (.int .u64)) ((.pair (.pl a0N) ((.pair (.ptr 1 []) ((.pair (.ptr 3 []) ((.pair (.ptr 7 []) (.pl .nil))))))))))))))))),.box a1G ((.pair (.whole 2) (.pl (.cons (.arr 4 a1A) .nil)))),.row a0M,.box a1X ((.pair (.whole 4) ((.pair (.ptr 5 []) (.pl .nil))))),.row a0J,.box tY0 ((.pair (.whole 6) (.pl .nil))),.row (.arr 32 (.int .u8)),.box a1F ((.pair (.whole 8) ((.pair (.whole 9) ((.pair (.pl a1A) ((.pair (.whole 10) (.pl .nil))))))))),.row (.arr 32 (.int .u8)),.row .bool,.row a0P,.box a1V ((.pair (.pl (.int .i64)) ((.pair (.pl (.int .i64)) ((.pair (.pl a2E) ((.pair (.pl a1A) ((.pair (.pl a1A) ((.pair (.pl (.int .u64)) ((.pair (.pl a1A) ((.pair (.pl a1A) ((.pair (.whole 12) (.pl .nil))))))))))))))))))),.row a0J,.box a1V ((.pair (.pl (.int .i64)) ((.pair (.pl (.int .i64)) ((.pair (.pl a2E) ((.pair (.pl a1A) ((.pair (.pl a1A) ((.pair (.pl (.int .u64)) ((.pair (.pl a1A) ((.pair (.pl a1A) ((.pair (.whole 14) (.pl .nil))))))))))))))))))),.row a0J]⟩)]) ⟨ok78,ok79,ok80,ok81,ok82,trivial⟩ (by intro x; kernel_rfl)
def block_NextC:Con:=⟨⟨[.pl a1M,.pl (.int .u64),.pl (.int .u64),.pl a0I],[]⟩,⟨[.pl a1M,.pl (.int .i64)],[]⟩,block_Next K0⟩
theorem ok84:a0X tp 84 block_NextC:=mkOk (n:=84) (k:=60) (hs:=[(41,.con basefee_FeeC),(101,.con params_ValidC),(121,.con add64C)]) (A:=annL [([1000000,84],10,.join ⟨(dd 2 (.pl (.int .u64)::dd 4 (.ptr 0 []::.ptr 1 []::dd 1 (.pl (.int .u64)::dd 1 (.pl (.int .u64)::dd 51 []))))),[.box a0I (.pl a0I),.box a1M (.pl a1M)]⟩),([1000000,84],5,.join ⟨(dd 2 (.pl (.int .u64)::dd 4 (.ptr 0 []::.ptr 1 []::dd 1 (.pl (.int .u64)::.pl (.int .u64)::.pl (.int .u64)::.pl (.int .u64)::dd 15 (.pl .bool::dd 34 []))))),[.box a0I (.pl a0I),.box a1M (.pl a1M)]⟩)]) ⟨ok41,ok101,ok121,trivial⟩ (by intro x; kernel_rfl)
def executor_Machine_tickC:Con:=⟨⟨[.ptr 0 [],.pl Y_api_Step],a0F⟩,⟨[.pl a1V,.pl (.int .i64)],a0F⟩,executor_Machine_tick K0⟩
theorem ok55:a0X tp 55 executor_Machine_tickC:=mkOk (n:=55) (k:=140) (hs:=[(83,.con backlog_DrainC),(84,.con block_NextC)]) (A:=fun _ _=>none) ⟨ok83,ok84,trivial⟩ (by intro x; kernel_rfl)
def params_SetC:Con:=⟨⟨[.pl a0I,.pl (.int .i64),.pl a1A],[]⟩,⟨[.pl a0I,.pl (.int .i64)],[]⟩,params_Set K0⟩
theorem ok85:a0X tp 85 params_SetC:=mkOk (n:=85) (k:=200) (hs:=[(101,.con params_ValidC),(140,.con uint256_Uint64C),(141,.inl),(142,.inl)]) (A:=annL [([1000000,85],11,.join ⟨(dd 3 (.ptr 0 []::dd 2 (.ptr 1 []::dd 49 []))),[.box a0I (.pl a0I),.box a0I (.pl a0I)]⟩)]) ⟨ok101,ok140,trivial⟩ (by intro x; kernel_rfl)
def executor_Machine_setParamC:Con:=⟨⟨[.ptr 0 [],.pl Y_api_Step],a0F⟩,⟨[.pl a1V,.pl (.int .i64)],a0F⟩,executor_Machine_setParam K0⟩
theorem ok56:a0X tp 56 executor_Machine_setParamC:=mkOk (n:=56) (k:=140) (hs:=[(85,.con params_SetC)]) (A:=fun _ _=>none) ⟨ok85,trivial⟩ (by intro x; kernel_rfl)
theorem ok190:a0X tp 190 insertC:=ins_ok (t:=a0L) (ρ:=⟨rnm [(22,190),(29,224),(30,225)],rnm [(24,43),(9,94),(3,3),(4,4)],fun x=>x⟩) ⟨by decide,follows,⟨Tryz.f190.name,by kernel_rfl,by kernel_rfl⟩,by kernel_rfl,fun _=>by kernel_rfl,fun _=>by kernel_rfl,by kernel_rfl,by kernel_rfl,Tryz.f224,by kernel_rfl,by kernel_rfl,by kernel_rfl,by kernel_rfl,by kernel_rfl⟩ (ti_ok (by kernel_rfl)) (ti_ok (by kernel_rfl)) rfl (by decide) noOddP
def poster_AddC:Con:=⟨⟨[.pl (.sl a0L),.pl (.int .u64)],[]⟩,⟨[.pl (.sl a0L),.pl (.int .i64)],[]⟩,poster_Add K0⟩
theorem ok143:a0X tp 143 poster_AddC:=mkOk (n:=143) (k:=60) (hs:=[(28,.con a2A),(170,.con poster_ValidC),(177,.con poster_FindC),(190,.con insertC)]) (A:=annL [([1000000,143],11,.join ⟨(.pl (.sl a0L)::.pl (.int .u64)::dd 4 (.pl (.int .i64)::dd 39 [])),[]⟩),([1000000,143],3,.join ⟨(.pl (.sl a0L)::.pl (.int .u64)::dd 5 (.pl .bool::dd 38 [])),[]⟩),([1000000,143],8,.join ⟨(.pl (.sl a0L)::.pl (.int .u64)::dd 44 []),[]⟩),([143],1,.tmpl ⟨(.pl (.sl a0L)::.pl (.int .u64)::dd 4 (.pl (.int .i64)::dd 39 [])),[]⟩)]) ⟨ok28,ok170,ok177,ok190,trivial⟩ (by intro x; kernel_rfl)
def pricer_AddPosterC:Con:=⟨⟨[.pl a0N,.pl (.int .u64)],[]⟩,⟨[.pl a0N,.pl (.int .i64)],[]⟩,pricer_AddPoster K0⟩
theorem ok86:a0X tp 86 pricer_AddPosterC:=mkOk (n:=86) (k:=60) (hs:=[(120,.con pricer_ValidC),(143,.con poster_AddC)]) (A:=fun _ _=>none) ⟨ok120,ok143,trivial⟩ (by intro x; kernel_rfl)
def executor_Machine_addPosterC:Con:=⟨⟨[.ptr 0 [],.pl Y_api_Step],a0F⟩,⟨[.pl a1V,.pl (.int .i64)],a0F⟩,executor_Machine_addPoster K0⟩
theorem ok57:a0X tp 57 executor_Machine_addPosterC:=mkOk (n:=57) (k:=140) (hs:=[(86,.con pricer_AddPosterC)]) (A:=fun _ _=>none) ⟨ok86,trivial⟩ (by intro x; kernel_rfl)
def escrow_Escrow_BalanceC:Con:=⟨⟨[.bp a1F],[]⟩,⟨[.pl a1A],[]⟩,escrow_Escrow_Balance K0⟩
theorem ok26:a0X tp 26 escrow_Escrow_BalanceC:=mkOk (n:=26) (k:=140) (hs:=[]) (A:=fun _ _=>none) trivial (by intro x; kernel_rfl)
def ledger_Ledger_SupplyC:Con:=⟨⟨[.bp a1G],[]⟩,⟨[.pl a1A],[]⟩,ledger_Ledger_Supply K0⟩
theorem ok88:a0X tp 88 ledger_Ledger_SupplyC:=mkOk (n:=88) (k:=140) (hs:=[(125,.con uint256_SaturatingAddC)]) (A:=annL [([88],0,.tmpl ⟨(.bp a1G::dd 1 (.ptr 0 []::.ptr 1 []::dd 10 (.pl (.sl a0M)::.pl (.int .i64)::.pl (.int .i64)::dd 20 []))),[.box a1A (.pl a1A),.box a1A (.pl a1A)]⟩),([88],2,.tmpl ⟨(dd 2 (.ptr 0 []::.ptr 1 []::dd 24 (.pl (.arr 4 a1A)::.pl (.int .i64)::dd 7 []))),[.box a1A (.pl a1A),.box a1A (.pl a1A)]⟩)]) ⟨ok125,trivial⟩ (by intro x; kernel_rfl)
def escrow_Escrow_DepositC:Con:=⟨⟨[.ptr 0 [],.pl a1A],H_escrow_Escrow⟩,⟨[.pl (.int .i64)],H_escrow_Escrow⟩,escrow_Escrow_Deposit K0⟩
theorem ok89:a0X tp 89 escrow_Escrow_DepositC:=mkOk (n:=89) (k:=140) (hs:=[(87,.con uint256_AddC)]) (A:=fun _ _=>none) ⟨ok87,trivial⟩ (by intro x; kernel_rfl)
def ledger_Ledger_MintC:Con:=⟨⟨[.ptr 0 [],.pl (.int .u64),.pl a1A],a0V⟩,⟨[.pl (.int .i64)],a0V⟩,ledger_Ledger_Mint K0⟩
theorem ok90:a0X tp 90 ledger_Ledger_MintC:=mkOk (n:=90) (k:=140) (hs:=[(87,.con uint256_AddC),(88,.con ledger_Ledger_SupplyC),(144,.con ledger_Ledger_creditC)]) (A:=fun _ _=>none) ⟨ok87,ok88,ok144,trivial⟩ (by intro x; kernel_rfl)
def executor_Machine_depositC:Con:=⟨⟨[.ptr 0 [],.pl Y_api_Step],a0F⟩,⟨[.pl a1V,.pl (.int .i64)],a0F⟩,executor_Machine_deposit K0⟩
theorem ok58:a0X tp 58 executor_Machine_depositC:=mkOk (n:=58) (k:=140) (hs:=[(26,.con escrow_Escrow_BalanceC),(87,.con uint256_AddC),(88,.con ledger_Ledger_SupplyC),(89,.con escrow_Escrow_DepositC),(90,.con ledger_Ledger_MintC)]) (A:=annL [([1000000,58],4,.join ⟨(.ptr 0 []::dd 2 (.ptr 11 []::.ptr 12 []::dd 66 (.ptr 0 []::.ptr 1 []::.ptr 3 []::.ptr 5 []::.ptr 7 []::[]))),[.box a1W ((.pair (.pl (.int .u64)) ((.pair (.pl a0I) ((.pair (.pl a1M) ((.pair (.pl (.int .u64)) ((.pair (.pl a0N) ((.pair (.ptr 1 []) ((.pair (.ptr 3 []) ((.pair (.ptr 7 []) (.pl .nil))))))))))))))))),.box a1G ((.pair (.whole 2) (.pl (.cons (.arr 4 a1A) .nil)))),.row a0M,.box a1X ((.pair (.whole 4) ((.pair (.ptr 5 []) (.pl .nil))))),.row a0J,.box tY0 ((.pair (.whole 6) (.pl .nil))),.row (.arr 32 (.int .u8)),.box a1F ((.pair (.whole 8) ((.pair (.whole 9) ((.pair (.pl a1A) ((.pair (.whole 10) (.pl .nil))))))))),.row (.arr 32 (.int .u8)),.row .bool,.row a0P,.box Y_api_Step (.pl Y_api_Step),.box a1V ((.pair (.pl (.int .i64)) ((.pair (.pl (.int .i64)) ((.pair (.pl a2E) ((.pair (.pl a1A) ((.pair (.pl a1A) ((.pair (.pl (.int .u64)) ((.pair (.pl a1A) ((.pair (.pl a1A) ((.pair (.whole 13) (.pl .nil))))))))))))))))))),.row a0J]⟩),([1000000,58],8,.join ⟨(.ptr 0 []::dd 2 (.ptr 11 []::.ptr 12 []::dd 66 (.ptr 0 []::.ptr 1 []::.ptr 3 []::.ptr 5 []::.ptr 7 []::[]))),[.box a1W ((.pair (.pl (.int .u64)) ((.pair (.pl a0I) ((.pair (.pl a1M) ((.pair (.pl (.int .u64)) ((.pair (.pl a0N) ((.pair (.ptr 1 []) ((.pair (.ptr 3 []) ((.pair (.ptr 7 []) (.pl .nil))))))))))))))))),.box a1G ((.pair (.whole 2) (.pl (.cons (.arr 4 a1A) .nil)))),.row a0M,.box a1X ((.pair (.whole 4) ((.pair (.ptr 5 []) (.pl .nil))))),.row a0J,.box tY0 ((.pair (.whole 6) (.pl .nil))),.row (.arr 32 (.int .u8)),.box a1F ((.pair (.whole 8) ((.pair (.whole 9) ((.pair (.pl a1A) ((.pair (.whole 10) (.pl .nil))))))))),.row (.arr 32 (.int .u8)),.row .bool,.row a0P,.box Y_api_Step (.pl Y_api_Step),.box a1V ((.pair (.pl (.int .i64)) ((.pair (.pl (.int .i64)) ((.pair (.pl a2E) ((.pair (.pl a1A) ((.pair (.pl a1A) ((.pair (.pl (.int .u64)) ((.pair (.pl a1A) ((.pair (.pl a1A) ((.pair (.whole 13) (.pl .nil))))))))))))))))))),.row a0J]⟩)]) ⟨ok26,ok87,ok88,ok89,ok90,trivial⟩ (by intro x; kernel_rfl)
def merkle_rootFromC:Con:=⟨⟨[.pl (.int .i64),.pl (.int .i64),.pl (.arr 32 (.int .u8)),.pl (.sl (.arr 32 (.int .u8)))],[]⟩,⟨[.pl (.arr 32 (.int .u8)),.pl .bool],[]⟩,merkle_rootFrom K0⟩
def merkle_rootFromK (k0:Nat):Con:=⟨⟨[.pl (.int .i64),.pl (.int .i64),.pl (.arr 32 (.int .u8)),.pl (.sl (.arr 32 (.int .u8)))],[]⟩,⟨[.pl (.arr 32 (.int .u8)),.pl .bool],[]⟩,merkle_rootFrom_rec K0 k0⟩
theorem okr228:∀ k0,a0X tp 228 (merkle_rootFromK k0)
 | 0=>fun x y h=>by cases h
 | k0 + 1=>mkOk (n:=228) (k:=60) (hs:=[(112,.con merkle_splitPointC),(163,.con hash_NodeC),(228,.con (merkle_rootFromK k0))]) (A:=fun _ _=>none) ⟨ok112,ok163,(okr228 k0),trivial⟩ (by intro x; kernel_rfl)
theorem ok228:a0X tp 228 merkle_rootFromC:=okr228 K0
def merkle_VerifyC:Con:=⟨⟨[.pl (.arr 32 (.int .u8)),.pl (.int .i64),.pl (.int .i64),.pl (.arr 32 (.int .u8)),.pl (.sl (.arr 32 (.int .u8)))],[]⟩,⟨[.pl .bool],[]⟩,merkle_Verify K0⟩
theorem ok192:a0X tp 192 merkle_VerifyC:=mkOk (n:=192) (k:=60) (hs:=[(228,.con merkle_rootFromC)]) (A:=annL [([1000000,192],4,.join ⟨(dd 1 (.pl (.int .i64)::.pl (.int .i64)::dd 1 (.pl (.sl (.arr 32 (.int .u8)))::.ptr 0 []::dd 2 (.ptr 1 []::dd 25 [])))),[.box (.arr 32 (.int .u8)) (.pl (.arr 32 (.int .u8))),.box (.arr 32 (.int .u8)) (.pl (.arr 32 (.int .u8)))]⟩)]) ⟨ok228,trivial⟩ (by intro x; kernel_rfl)
def escrow_Escrow_checkClaimC:Con:=⟨⟨[.ptr 0 [],.pl Y_api_Claim],H_escrow_Escrow⟩,⟨[.pl (.int .i64)],H_escrow_Escrow⟩,escrow_Escrow_checkClaim K0⟩
theorem ok145:a0X tp 145 escrow_Escrow_checkClaimC:=mkOk (n:=145) (k:=140) (hs:=[(191,.con outbox_LeafC),(192,.con merkle_VerifyC)]) (A:=annL [([1000000,145],10,.join ⟨(.ptr 0 []::dd 2 (.ptr 4 []::dd 80 (.ptr 0 []::[]))),[.box a1F ((.pair (.whole 1) ((.pair (.whole 2) ((.pair (.pl a1A) ((.pair (.whole 3) (.pl .nil))))))))),.row (.arr 32 (.int .u8)),.row .bool,.row a0P,.box Y_api_Claim (.pl Y_api_Claim)]⟩),([1000000,145],5,.join ⟨(.ptr 0 []::dd 2 (.ptr 4 []::dd 5 (.pl .bool::dd 74 (.ptr 0 []::[])))),[.box a1F ((.pair (.whole 1) ((.pair (.whole 2) ((.pair (.pl a1A) ((.pair (.whole 3) (.pl .nil))))))))),.row (.arr 32 (.int .u8)),.row .bool,.row a0P,.box Y_api_Claim (.pl Y_api_Claim)]⟩),([1000000,145],7,.join ⟨(.ptr 0 []::dd 2 (.ptr 4 []::dd 21 (.pl .bool::dd 58 (.ptr 0 []::[])))),[.box a1F ((.pair (.whole 1) ((.pair (.whole 2) ((.pair (.pl a1A) ((.pair (.whole 3) (.pl .nil))))))))),.row (.arr 32 (.int .u8)),.row .bool,.row a0P,.box Y_api_Claim (.pl Y_api_Claim)]⟩)]) ⟨ok191,ok192,trivial⟩ (by intro x; kernel_rfl)
def escrow_Escrow_findC:Con:=⟨⟨[.bp a1F,.pl (.int .u64)],[]⟩,⟨[.pl (.int .i64),.pl .bool],[]⟩,escrow_Escrow_find K0⟩
theorem ok147:a0X tp 147 escrow_Escrow_findC:=mkOk (n:=147) (k:=200) (hs:=[(193,.inl),(194,.inl),(195,.inl),(229,.inl)]) (A:=annL [([193,1,5,147],0,.tmpl ⟨(.pl (.sl a0P)::.pl (.int .u64)::.fn 194::dd 5 (.pl (.int .i64)::.pl (.int .i64)::.pl (.int .i64)::dd 52 [])),[]⟩)]) trivial (by intro x; kernel_rfl)
def escrow_Escrow_L1BalanceC:Con:=⟨⟨[.bp a1F,.pl (.int .u64)],[]⟩,⟨[.pl a1A],[]⟩,escrow_Escrow_L1Balance K0⟩
theorem ok146:a0X tp 146 escrow_Escrow_L1BalanceC:=mkOk (n:=146) (k:=140) (hs:=[(147,.con escrow_Escrow_findC)]) (A:=fun _ _=>none) ⟨ok147,trivial⟩ (by intro x; kernel_rfl)
theorem ok148:a0X tp 148 (insC a0P):=ins_ok (t:=a0P) (ρ:=⟨rnm [(22,148),(29,196),(30,197)],rnm [(24,49),(9,137),(3,3),(4,4)],fun x=>x⟩) ⟨by decide,follows,⟨Tryz.f148.name,by kernel_rfl,by kernel_rfl⟩,by kernel_rfl,fun _=>by kernel_rfl,fun _=>by kernel_rfl,by kernel_rfl,by kernel_rfl,Tryz.f196,by kernel_rfl,by kernel_rfl,by kernel_rfl,by kernel_rfl,by kernel_rfl⟩ (ti_ok (by kernel_rfl)) (ti_ok (by kernel_rfl)) rfl (by decide) noOddP
def escrow_Escrow_ClaimC:Con:=⟨⟨[.ptr 0 [],.pl Y_api_Claim],H_escrow_Escrow⟩,⟨[.pl (.int .i64)],H_escrow_Escrow⟩,escrow_Escrow_Claim K0⟩
theorem ok91:a0X tp 91 escrow_Escrow_ClaimC:=mkOk (n:=91) (k:=140) (hs:=[(87,.con uint256_AddC),(136,.con uint256_SubC),(145,.con escrow_Escrow_checkClaimC),(146,.con escrow_Escrow_L1BalanceC),(147,.con escrow_Escrow_findC),(148,.con (insC a0P))]) (A:=fun _ _=>none) ⟨ok87,ok136,ok145,ok146,ok147,ok148,trivial⟩ (by intro x; kernel_rfl)
def executor_Machine_claimC:Con:=⟨⟨[.ptr 0 [],.pl Y_api_Step],a0F⟩,⟨[.pl a1V,.pl (.int .i64)],a0F⟩,executor_Machine_claim K0⟩
theorem ok59:a0X tp 59 executor_Machine_claimC:=mkOk (n:=59) (k:=140) (hs:=[(91,.con escrow_Escrow_ClaimC)]) (A:=fun _ _=>none) ⟨ok91,trivial⟩ (by intro x; kernel_rfl)
def executor_Machine_ExecuteC:Con:=⟨⟨[.ptr 0 [],.pl Y_api_Step],a0F⟩,⟨[.pl a1V],a0F⟩,a1O K0⟩
theorem ok12:a0X tp 12 executor_Machine_ExecuteC:=mkOk (n:=12) (k:=240) (hs:=[(22,.con executor_Machine_countC),(38,.inl),(53,.con executor_Machine_transactionC),(54,.con executor_Machine_reportC),(55,.con executor_Machine_tickC),(56,.con executor_Machine_setParamC),(57,.con executor_Machine_addPosterC),(58,.con executor_Machine_depositC),(59,.con executor_Machine_claimC)]) (A:=fun _ _=>none) ⟨ok22,ok53,ok54,ok55,ok56,ok57,ok58,ok59,trivial⟩ (by intro x; kernel_rfl)
def wirereader_NewC:Con:=⟨⟨[.pl (.sl (.int .u8))],[]⟩,⟨[.ptr 0 []],[.box a0C (.pl a0C)]⟩,wirereader_New K0⟩
theorem ok43:a0X tp 43 wirereader_NewC:=mkOk (n:=43) (k:=140) (hs:=[]) (A:=fun _ _=>none) trivial (by intro x; kernel_rfl)
def wirereader_Reader_ByteC:Con:=⟨⟨[.ptr 0 []],[.box a0C (.pl a0C)]⟩,⟨[.pl (.int .u8)],[.box a0C (.pl a0C)]⟩,wirereader_Reader_Byte K0⟩
theorem ok44:a0X tp 44 wirereader_Reader_ByteC:=mkOk (n:=44) (k:=140) (hs:=[]) (A:=annL [([1000000,44],5,.join ⟨(.ptr 0 []::dd 39 (.ptr 0 []::[])),[.box a0C (.pl a0C)]⟩)]) trivial (by intro x; kernel_rfl)
def wirereader_Reader_DoneC:Con:=⟨⟨[.bp a0C],[]⟩,⟨[.pl .bool],[]⟩,a2F K0⟩
theorem ok46:a0X tp 46 wirereader_Reader_DoneC:=mkOk (n:=46) (k:=140) (hs:=[]) (A:=fun _ _=>none) trivial (by intro x; kernel_rfl)
def wire_readUintC:Con:=⟨⟨[.pl (.sl (.int .u8)),.pl (.int .i64),.pl (.int .i64)],[]⟩,⟨[.pl a1A,.pl (.int .i64),.pl (.int .i64)],[]⟩,wire_readUint K0⟩
theorem ok162:a0X tp 162 wire_readUintC:=mkOk (n:=162) (k:=60) (hs:=[]) (A:=annL [([1000000,162],11,.join ⟨(dd 1 (.pl (.int .i64)::dd 4 (.ptr 0 []::dd 2 (.pl (.sl (.int .u8))::.pl (.int .i64)::dd 74 [])))),[.box a1A (.pl a1A)]⟩),([1000000,162],4,.join ⟨(.pl (.sl (.int .u8))::.pl (.int .i64)::.pl (.int .i64)::dd 3 (.ptr 0 []::dd 78 [])),[.box a1A (.pl a1A)]⟩),([162],0,.tmpl ⟨(dd 1 (.pl (.int .i64)::dd 4 (.ptr 0 []::dd 2 (.pl (.sl (.int .u8))::.pl (.int .i64)::.ptr 1 []::dd 44 (.pl (.int .i64)::.pl (.int .i64)::dd 27 []))))),[.box a1A (.pl a1A),.box a1A (.pl a1A)]⟩)]) trivial (by intro x; kernel_rfl)
def wire_ReadUint64C:Con:=⟨⟨[.pl (.sl (.int .u8)),.pl (.int .i64)],[]⟩,⟨[.pl (.int .u64),.pl (.int .i64),.pl (.int .i64)],[]⟩,wire_ReadUint64 K0⟩
theorem ok109:a0X tp 109 wire_ReadUint64C:=mkOk (n:=109) (k:=60) (hs:=[(162,.con wire_readUintC)]) (A:=fun _ _=>none) ⟨ok162,trivial⟩ (by intro x; kernel_rfl)
def slices_Clone___byte_byte_cC:Con:=⟨⟨[.pl (.sl (.int .u8))],[]⟩,⟨[.pl (.sl (.int .u8))],[]⟩,slices_Clone___byte_byte_c K0⟩
theorem okc161:a0X tp 161 slices_Clone___byte_byte_cC:=mkOk (n:=161) (k:=60) (hs:=[]) (A:=fun _ _=>none) trivial (by intro x; exact Eq.trans (b:=slices_Clone___byte_byte_ K0 x) (by kernel_rfl) (slices_Clone___byte_byte_c_eq K0 x))
def wire_ReadBytesC:Con:=⟨⟨[.pl (.sl (.int .u8)),.pl (.int .i64)],[]⟩,⟨[.pl (.sl (.int .u8)),.pl (.int .i64),.pl (.int .i64)],[]⟩,wire_ReadBytes K0⟩
theorem ok107:a0X tp 107 wire_ReadBytesC:=mkOk (n:=107) (k:=60) (hs:=[(109,.con wire_ReadUint64C),(161,.con slices_Clone___byte_byte_cC)]) (A:=fun _ _=>none) ⟨ok109,okc161,trivial⟩ (by intro x; kernel_rfl)
def wirereader_Reader_advanceC:Con:=⟨⟨[.ptr 0 [],.pl (.int .i64),.pl (.int .i64)],[.box a0C (.pl a0C)]⟩,⟨[.pl .bool],[.box a0C (.pl a0C)]⟩,wirereader_Reader_advance K0⟩
theorem ok108:a0X tp 108 wirereader_Reader_advanceC:=mkOk (n:=108) (k:=140) (hs:=[]) (A:=fun _ _=>none) trivial (by intro x; kernel_rfl)
def wirereader_Reader_BytesC:Con:=⟨⟨[.ptr 0 []],[.box a0C (.pl a0C)]⟩,⟨[.pl (.sl (.int .u8))],[.box a0C (.pl a0C)]⟩,wirereader_Reader_Bytes K0⟩
theorem ok65:a0X tp 65 wirereader_Reader_BytesC:=mkOk (n:=65) (k:=140) (hs:=[(107,.con wire_ReadBytesC),(108,.con wirereader_Reader_advanceC)]) (A:=fun _ _=>none) ⟨ok107,ok108,trivial⟩ (by intro x; kernel_rfl)
def wirereader_Reader_Uint64C:Con:=⟨⟨[.ptr 0 []],[.box a0C (.pl a0C)]⟩,⟨[.pl (.int .u64)],[.box a0C (.pl a0C)]⟩,a1D K0⟩
theorem ok66:a0X tp 66 wirereader_Reader_Uint64C:=mkOk (n:=66) (k:=140) (hs:=[(108,.con wirereader_Reader_advanceC),(109,.con wire_ReadUint64C)]) (A:=fun _ _=>none) ⟨ok108,ok109,trivial⟩ (by intro x; kernel_rfl)
def wire_ReadUint256C:Con:=⟨⟨[.pl (.sl (.int .u8)),.pl (.int .i64)],[]⟩,⟨[.pl a1A,.pl (.int .i64),.pl (.int .i64)],[]⟩,wire_ReadUint256 K0⟩
theorem ok110:a0X tp 110 wire_ReadUint256C:=mkOk (n:=110) (k:=60) (hs:=[(162,.con wire_readUintC)]) (A:=fun _ _=>none) ⟨ok162,trivial⟩ (by intro x; kernel_rfl)
def wirereader_Reader_Uint256C:Con:=⟨⟨[.ptr 0 []],[.box a0C (.pl a0C)]⟩,⟨[.pl a1A],[.box a0C (.pl a0C)]⟩,a2C K0⟩
theorem ok67:a0X tp 67 wirereader_Reader_Uint256C:=mkOk (n:=67) (k:=140) (hs:=[(108,.con wirereader_Reader_advanceC),(110,.con wire_ReadUint256C)]) (A:=fun _ _=>none) ⟨ok108,ok110,trivial⟩ (by intro x; kernel_rfl)
def tx_DecodeC:Con:=⟨⟨[.pl (.sl (.int .u8))],[]⟩,⟨[.pl a1P,.pl (.int .i64)],[]⟩,tx_Decode K0⟩
theorem ok64:a0X tp 64 tx_DecodeC:=mkOk (n:=64) (k:=60) (hs:=[(43,.con wirereader_NewC),(46,.con wirereader_Reader_DoneC),(65,.con wirereader_Reader_BytesC),(66,.con wirereader_Reader_Uint64C),(67,.con wirereader_Reader_Uint256C)]) (A:=fun _ _=>none) ⟨ok43,ok46,ok65,ok66,ok67,trivial⟩ (by intro x; kernel_rfl)
def wirereader_Reader_HashC:Con:=⟨⟨[.ptr 0 []],[.box a0C (.pl a0C)]⟩,⟨[.pl (.arr 32 (.int .u8))],[.box a0C (.pl a0C)]⟩,wirereader_Reader_Hash K0⟩
theorem ok111:a0X tp 111 wirereader_Reader_HashC:=mkOk (n:=111) (k:=140) (hs:=[(44,.con wirereader_Reader_ByteC)]) (A:=annL [([111],0,.tmpl ⟨(.ptr 0 []::dd 1 (.ptr 1 []::.ptr 2 []::dd 1 (.pl (.int .i64)::dd 8 (.ptr 0 []::[])))),[.box a0C (.pl a0C),.box (.arr 32 (.int .u8)) (.pl (.arr 32 (.int .u8))),.box (.arr 32 (.int .u8)) (.pl (.arr 32 (.int .u8)))]⟩)]) ⟨ok44,trivial⟩ (by intro x; kernel_rfl)
def step_readProofC:Con:=⟨⟨[.ptr 0 []],[.box a0C (.pl a0C)]⟩,⟨[.pl (.sl (.arr 32 (.int .u8))),.pl .bool],[.box a0C (.pl a0C)]⟩,step_readProof K0⟩
theorem ok68:a0X tp 68 step_readProofC:=mkOk (n:=68) (k:=140) (hs:=[(66,.con wirereader_Reader_Uint64C),(111,.con wirereader_Reader_HashC)]) (A:=annL [([68],0,.tmpl ⟨(.ptr 0 []::dd 4 (.whole 1::dd 4 (.pl (.int .u64)::.pl (.int .u64)::dd 8 (.ptr 0 []::[])))),[.box a0C (.pl a0C),.row (.arr 32 (.int .u8))]⟩)]) ⟨ok66,ok111,trivial⟩ (by intro x; kernel_rfl)
def step_DecodeC:Con:=⟨⟨[.pl (.sl (.int .u8))],[]⟩,⟨[.pl Y_api_Step,.pl (.int .i64)],[]⟩,step_Decode K0⟩
theorem ok21:a0X tp 21 step_DecodeC:=mkOk (n:=21) (k:=220) (hs:=[(43,.con wirereader_NewC),(44,.con wirereader_Reader_ByteC),(45,.inl),(46,.con wirereader_Reader_DoneC),(64,.con tx_DecodeC),(65,.con wirereader_Reader_BytesC),(66,.con wirereader_Reader_Uint64C),(67,.con wirereader_Reader_Uint256C),(68,.con step_readProofC)]) (A:=fun _ _=>none) ⟨ok43,ok44,ok46,ok64,ok65,ok66,ok67,ok68,trivial⟩ (by intro x; kernel_rfl)
def executor_Machine_ExecuteBytesC:Con:=⟨⟨[.ptr 0 [],.pl (.sl (.int .u8))],a0F⟩,⟨[.pl a1V],a0F⟩,executor_Machine_ExecuteBytes K0⟩
theorem ok7:a0X tp 7 executor_Machine_ExecuteBytesC:=mkOk (n:=7) (k:=140) (hs:=[(12,.con executor_Machine_ExecuteC),(21,.con step_DecodeC),(22,.con executor_Machine_countC)]) (A:=fun _ _=>none) ⟨ok12,ok21,ok22,trivial⟩ (by intro x; kernel_rfl)
def slices_Clone___api_Account_api_Account_cC:Con:=⟨⟨[.pl (.sl a0M)],[]⟩,⟨[.whole 0],[.row a0M]⟩,slices_Clone___api_Account_api_Account_c K0⟩
theorem okc47:a0X tp 47 slices_Clone___api_Account_api_Account_cC:=mkOk (n:=47) (k:=60) (hs:=[]) (A:=fun _ _=>none) trivial (by intro x; exact Eq.trans (b:=slices_Clone___api_Account_api_Account_ K0 x) (by kernel_rfl) (slices_Clone___api_Account_api_Account_c_eq K0 x))
def ledger_Ledger_AccountsC:Con:=⟨⟨[.bp a1G],[]⟩,⟨[.whole 0],[.row a0M]⟩,ledger_Ledger_Accounts K0⟩
theorem ok23:a0X tp 23 ledger_Ledger_AccountsC:=mkOk (n:=23) (k:=140) (hs:=[(47,.con slices_Clone___api_Account_api_Account_cC)]) (A:=fun _ _=>none) ⟨okc47,trivial⟩ (by intro x; kernel_rfl)
def ledger_Ledger_VaultsC:Con:=⟨⟨[.bp a1G],[]⟩,⟨[.pl (.arr 4 a1A)],[]⟩,ledger_Ledger_Vaults K0⟩
theorem ok24:a0X tp 24 ledger_Ledger_VaultsC:=mkOk (n:=24) (k:=140) (hs:=[]) (A:=fun _ _=>none) trivial (by intro x; kernel_rfl)
def slices_Clone___api_Message_api_Message_cC:Con:=⟨⟨[.pl (.sl a0J)],[]⟩,⟨[.whole 0],[.row a0J]⟩,slices_Clone___api_Message_api_Message_c K0⟩
theorem okc48:a0X tp 48 slices_Clone___api_Message_api_Message_cC:=mkOk (n:=48) (k:=60) (hs:=[]) (A:=fun _ _=>none) trivial (by intro x; exact Eq.trans (b:=slices_Clone___api_Message_api_Message_ K0 x) (by kernel_rfl) (slices_Clone___api_Message_api_Message_c_eq K0 x))
def outbox_Outbox_AllC:Con:=⟨⟨[.ptr 0 []],a1K⟩,⟨[.whole 4],[.box a1X (.pair (.whole 2) (.pair (.ptr 1 []) (.pl .nil))),.box tY0 (.pair (.whole 3) (.pl .nil)),.row a0J,.row (.arr 32 (.int .u8)),.row a0J]⟩,outbox_Outbox_All K0⟩
theorem ok25:a0X tp 25 outbox_Outbox_AllC:=mkOk (n:=25) (k:=140) (hs:=[(48,.con slices_Clone___api_Message_api_Message_cC)]) (A:=fun _ _=>none) ⟨okc48,trivial⟩ (by intro x; kernel_rfl)
def slices_Clone___api_Payment_api_Payment_cC:Con:=⟨⟨[.pl (.sl a0P)],[]⟩,⟨[.whole 0],[.row a0P]⟩,slices_Clone___api_Payment_api_Payment_c K0⟩
theorem okc49:a0X tp 49 slices_Clone___api_Payment_api_Payment_cC:=mkOk (n:=49) (k:=60) (hs:=[]) (A:=fun _ _=>none) trivial (by intro x; exact Eq.trans (b:=slices_Clone___api_Payment_api_Payment_ K0 x) (by kernel_rfl) (slices_Clone___api_Payment_api_Payment_c_eq K0 x))
def escrow_Escrow_L1BalancesC:Con:=⟨⟨[.bp a1F],[]⟩,⟨[.whole 0],[.row a0P]⟩,escrow_Escrow_L1Balances K0⟩
theorem ok27:a0X tp 27 escrow_Escrow_L1BalancesC:=mkOk (n:=27) (k:=140) (hs:=[(49,.con slices_Clone___api_Payment_api_Payment_cC)]) (A:=fun _ _=>none) ⟨okc49,trivial⟩ (by intro x; kernel_rfl)
def escrow_Escrow_SizeC:Con:=⟨⟨[.bp a1F],[]⟩,⟨[.pl (.int .i64)],[]⟩,escrow_Escrow_Size K0⟩
theorem ok50:a0X tp 50 escrow_Escrow_SizeC:=mkOk (n:=50) (k:=140) (hs:=[]) (A:=fun _ _=>none) trivial (by intro x; kernel_rfl)
def escrow_Escrow_ClaimedC:Con:=⟨⟨[.bp a1F,.pl (.int .u64)],[]⟩,⟨[.pl .bool],[]⟩,escrow_Escrow_Claimed K0⟩
theorem ok29:a0X tp 29 escrow_Escrow_ClaimedC:=mkOk (n:=29) (k:=140) (hs:=[(50,.con escrow_Escrow_SizeC)]) (A:=fun _ _=>none) ⟨ok50,trivial⟩ (by intro x; kernel_rfl)
def executor_Machine_StateC:Con:=⟨⟨[.ptr 0 []],a0F⟩,⟨[.pair (.pl (.int .u64)) (.pair (.pl a0I) (.pair (.pl a1M) (.pair (.pl (.int .u64)) (.pair (.pair (.pl a1A) (.pair (.pl (.int .u64)) (.pair (.pl (.int .u64)) (.pair (.pl (.int .u64)) (.pair (.pl a0O) (.pair (.whole 11) (.pl .nil))))))) (.pair (.whole 12) (.pair (.pl (.arr 4 a1A)) (.pair (.whole 13) (.pair (.whole 14) (.pair (.pl a1A) (.pair (.whole 15) (.pl .nil)))))))))))],[.box a1W (.pair (.pl (.int .u64)) (.pair (.pl a0I) (.pair (.pl a1M) (.pair (.pl (.int .u64)) (.pair (.pl a0N) (.pair (.ptr 1 []) (.pair (.ptr 2 []) (.pair (.ptr 4 []) (.pl .nil))))))))),.box a1G (.pair (.whole 5) (.pl (.cons (.arr 4 a1A) .nil))),.box a1X (.pair (.whole 6) (.pair (.ptr 3 []) (.pl .nil))),.box tY0 (.pair (.whole 7) (.pl .nil)),.box a1F (.pair (.whole 8) (.pair (.whole 9) (.pair (.pl a1A) (.pair (.whole 10) (.pl .nil))))),.row a0M,.row a0J,.row (.arr 32 (.int .u8)),.row (.arr 32 (.int .u8)),.row .bool,.row a0P,.row a0L,.row a0M,.row a0J,.row .bool,.row a0P]⟩,executor_Machine_State K0⟩
theorem ok8:a0X tp 8 executor_Machine_StateC:=mkOk (n:=8) (k:=140) (hs:=[(23,.con ledger_Ledger_AccountsC),(24,.con ledger_Ledger_VaultsC),(25,.con outbox_Outbox_AllC),(26,.con escrow_Escrow_BalanceC),(27,.con escrow_Escrow_L1BalancesC),(28,.con slices_Clone___api_Poster_api_Poster_cC),(29,.con escrow_Escrow_ClaimedC)]) (A:=annL [([8],0,.tmpl ⟨(.ptr 0 []::dd 1 (.ptr 11 []::.ptr 17 []::dd 58 (.pl (.int .i64)::.pl (.int .i64)::dd 16 (.ptr 0 []::.ptr 1 []::.ptr 3 []::.ptr 5 []::.ptr 7 []::[])))),[.box a1W ((.pair (.pl (.int .u64)) ((.pair (.pl a0I) ((.pair (.pl a1M) ((.pair (.pl (.int .u64)) ((.pair (.pl a0N) ((.pair (.ptr 1 []) ((.pair (.ptr 3 []) ((.pair (.ptr 7 []) (.pl .nil))))))))))))))))),.box a1G ((.pair (.whole 2) (.pl (.cons (.arr 4 a1A) .nil)))),.row a0M,.box a1X ((.pair (.whole 4) ((.pair (.ptr 5 []) (.pl .nil))))),.row a0J,.box tY0 ((.pair (.whole 6) (.pl .nil))),.row (.arr 32 (.int .u8)),.box a1F ((.pair (.whole 8) ((.pair (.whole 9) ((.pair (.pl a1A) ((.pair (.whole 10) (.pl .nil))))))))),.row (.arr 32 (.int .u8)),.row .bool,.row a0P,.box Y_api_State ((.pair (.pl (.int .u64)) ((.pair (.pl a0I) ((.pair (.pl a1M) ((.pair (.pl (.int .u64)) ((.pair ((.pair (.pl a1A) ((.pair (.pl (.int .u64)) ((.pair (.pl (.int .u64)) ((.pair (.pl (.int .u64)) ((.pair (.pl a0O) ((.pair (.whole 12) (.pl .nil))))))))))))) ((.pair (.whole 13) ((.pair (.pl (.arr 4 a1A)) ((.pair (.whole 14) ((.pair (.whole 15) ((.pair (.pl a1A) ((.pair (.whole 16) (.pl .nil))))))))))))))))))))))),.row a0L,.row a0M,.row a0J,.row .bool,.row a0P,.box Y_api_State ((.pair (.pl (.int .u64)) ((.pair (.pl a0I) ((.pair (.pl a1M) ((.pair (.pl (.int .u64)) ((.pair ((.pair (.pl a1A) ((.pair (.pl (.int .u64)) ((.pair (.pl (.int .u64)) ((.pair (.pl (.int .u64)) ((.pair (.pl a0O) ((.pair (.whole 18) (.pl .nil))))))))))))) ((.pair (.whole 19) ((.pair (.pl (.arr 4 a1A)) ((.pair (.whole 20) ((.pair (.whole 21) ((.pair (.pl a1A) ((.pair (.whole 22) (.pl .nil))))))))))))))))))))))),.row a0L,.row a0M,.row a0J,.row .bool,.row a0P]⟩)]) ⟨ok23,ok24,ok25,ok26,ok27,okc28,ok29,trivial⟩ (by intro x; kernel_rfl)
def outbox_Outbox_GetC:Con:=⟨⟨[.ptr 0 [],.pl (.int .i64)],a1K⟩,⟨[.pl a0J,.pl .bool],a1K⟩,outbox_Outbox_Get K0⟩
theorem ok36:a0X tp 36 outbox_Outbox_GetC:=mkOk (n:=36) (k:=140) (hs:=[(35,.con outbox_Outbox_LenC)]) (A:=fun _ _=>none) ⟨ok35,trivial⟩ (by intro x; kernel_rfl)
def slices_Clip___api_Hash_api_Hash_C:Con:=⟨⟨[.pl (.sl (.arr 32 (.int .u8)))],[]⟩,⟨[.pl (.sl (.arr 32 (.int .u8)))],[]⟩,slices_Clip___api_Hash_api_Hash_ K0⟩
theorem ok69:a0X tp 69 slices_Clip___api_Hash_api_Hash_C:=mkOk (n:=69) (k:=60) (hs:=[]) (A:=fun _ _=>none) trivial (by intro x; kernel_rfl)
def merkle_proofC:Con:=⟨⟨[.pl (.sl (.arr 32 (.int .u8))),.pl (.int .i64)],[]⟩,⟨[.whole 0],[.row (.arr 32 (.int .u8))]⟩,merkle_proof K0⟩
def merkle_proofK (k0:Nat):Con:=⟨⟨[.pl (.sl (.arr 32 (.int .u8))),.pl (.int .i64)],[]⟩,⟨[.whole 0],[.row (.arr 32 (.int .u8))]⟩,merkle_proof_rec K0 k0⟩
theorem okr70:∀ k0,a0X tp 70 (merkle_proofK k0)
 | 0=>fun x y h=>by cases h
 | k0 + 1=>mkOk (n:=70) (k:=140) (hs:=[(70,.con (merkle_proofK k0)),(112,.con merkle_splitPointC),(113,.con merkle_RootOfC)]) (A:=fun _ _=>none) ⟨(okr70 k0),ok112,ok113,trivial⟩ (by intro x; kernel_rfl)
theorem ok70:a0X tp 70 merkle_proofC:=okr70 K0
def outbox_Outbox_ProofC:Con:=⟨⟨[.ptr 0 [],.pl (.int .i64),.pl (.int .i64)],a1K⟩,⟨[.pl (.sl (.arr 32 (.int .u8))),.pl .bool],a1K⟩,outbox_Outbox_Proof K0⟩
theorem ok37:a0X tp 37 outbox_Outbox_ProofC:=mkOk (n:=37) (k:=160) (hs:=[(52,.inl),(69,.con slices_Clip___api_Hash_api_Hash_C),(70,.con merkle_proofC)]) (A:=fun _ _=>none) ⟨ok69,ok70,trivial⟩ (by intro x; kernel_rfl)
def executor_Machine_ClaimC:Con:=⟨⟨[.ptr 0 [],.pl (.int .u64)],a0F⟩,⟨[.pl Y_api_Claim,.pl .bool],a0F⟩,executor_Machine_Claim K0⟩
theorem ok10:a0X tp 10 executor_Machine_ClaimC:=mkOk (n:=10) (k:=140) (hs:=[(35,.con outbox_Outbox_LenC),(36,.con outbox_Outbox_GetC),(37,.con outbox_Outbox_ProofC)]) (A:=annL [([1000000,10],4,.join ⟨(.ptr 0 []::.pl (.int .u64)::dd 2 (.ptr 11 []::dd 61 (.ptr 0 []::.ptr 1 []::.ptr 3 []::.ptr 5 []::.ptr 7 []::[]))),[.box a1W ((.pair (.pl (.int .u64)) ((.pair (.pl a0I) ((.pair (.pl a1M) ((.pair (.pl (.int .u64)) ((.pair (.pl a0N) ((.pair (.ptr 1 []) ((.pair (.ptr 3 []) ((.pair (.ptr 7 []) (.pl .nil))))))))))))))))),.box a1G ((.pair (.whole 2) (.pl (.cons (.arr 4 a1A) .nil)))),.row a0M,.box a1X ((.pair (.whole 4) ((.pair (.ptr 5 []) (.pl .nil))))),.row a0J,.box tY0 ((.pair (.whole 6) (.pl .nil))),.row (.arr 32 (.int .u8)),.box a1F ((.pair (.whole 8) ((.pair (.whole 9) ((.pair (.pl a1A) ((.pair (.whole 10) (.pl .nil))))))))),.row (.arr 32 (.int .u8)),.row .bool,.row a0P,.box Y_api_Claim (.pl Y_api_Claim)]⟩)]) ⟨ok35,ok36,ok37,trivial⟩ (by intro x; kernel_rfl)
def pontagetop_awakeC:Con:=⟨⟨[],[]⟩,⟨[.pl .bool],[]⟩,pontagetop_awake K0⟩
theorem ok5:a0X tp 5 pontagetop_awakeC:=mkOk (n:=5) (k:=60) (hs:=[(6,.con executor_NewC),(10,.con executor_Machine_ClaimC),(12,.con executor_Machine_ExecuteC)]) (A:=fun _ _=>none) ⟨ok6,ok10,ok12,trivial⟩ (by intro x; kernel_rfl)
def pontagetop_SystemRejectedStepsC:Con:=⟨⟨[.pl (.sl (.sl (.int .u8)))],[]⟩,⟨[.pl .bool],[]⟩,pontagetop_SystemRejectedSteps K0⟩
theorem ok3:a0X tp 3 pontagetop_SystemRejectedStepsC:=mkOk (n:=3) (k:=60) (hs:=[(5,.con pontagetop_awakeC),(6,.con executor_NewC),(7,.con executor_Machine_ExecuteBytesC),(8,.con executor_Machine_StateC),(9,.con pontagelaw0_EqualStateC)]) (A:=annL [([1000000,3],7,.join ⟨(.pl (.sl (.sl (.int .u8)))::dd 2 (.ptr 0 []::.ptr 11 []::dd 54 [])),[.box a1W ((.pair (.pl (.int .u64)) ((.pair (.pl a0I) ((.pair (.pl a1M) ((.pair (.pl (.int .u64)) ((.pair (.pl a0N) ((.pair (.ptr 1 []) ((.pair (.ptr 3 []) ((.pair (.ptr 7 []) (.pl .nil))))))))))))))))),.box a1G ((.pair (.whole 2) (.pl (.cons (.arr 4 a1A) .nil)))),.row a0M,.box a1X ((.pair (.whole 4) ((.pair (.ptr 5 []) (.pl .nil))))),.row a0J,.box tY0 ((.pair (.whole 6) (.pl .nil))),.row (.arr 32 (.int .u8)),.box a1F ((.pair (.whole 8) ((.pair (.whole 9) ((.pair (.pl a1A) ((.pair (.whole 10) (.pl .nil))))))))),.row (.arr 32 (.int .u8)),.row .bool,.row a0P,.box a1W ((.pair (.pl (.int .u64)) ((.pair (.pl a0I) ((.pair (.pl a1M) ((.pair (.pl (.int .u64)) ((.pair (.pl a0N) ((.pair (.ptr 12 []) ((.pair (.ptr 14 []) ((.pair (.ptr 18 []) (.pl .nil))))))))))))))))),.box a1G ((.pair (.whole 13) (.pl (.cons (.arr 4 a1A) .nil)))),.row a0M,.box a1X ((.pair (.whole 15) ((.pair (.ptr 16 []) (.pl .nil))))),.row a0J,.box tY0 ((.pair (.whole 17) (.pl .nil))),.row (.arr 32 (.int .u8)),.box a1F ((.pair (.whole 19) ((.pair (.whole 20) ((.pair (.pl a1A) ((.pair (.whole 21) (.pl .nil))))))))),.row (.arr 32 (.int .u8)),.row .bool,.row a0P]⟩),([3],0,.tmpl ⟨(.pl (.sl (.sl (.int .u8)))::dd 2 (.ptr 0 []::.ptr 11 []::.pl (.int .i64)::dd 53 [])),[.box a1W ((.pair (.pl (.int .u64)) ((.pair (.pl a0I) ((.pair (.pl a1M) ((.pair (.pl (.int .u64)) ((.pair (.pl a0N) ((.pair (.ptr 1 []) ((.pair (.ptr 3 []) ((.pair (.ptr 7 []) (.pl .nil))))))))))))))))),.box a1G ((.pair (.whole 2) (.pl (.cons (.arr 4 a1A) .nil)))),.row a0M,.box a1X ((.pair (.whole 4) ((.pair (.ptr 5 []) (.pl .nil))))),.row a0J,.box tY0 ((.pair (.whole 6) (.pl .nil))),.row (.arr 32 (.int .u8)),.box a1F ((.pair (.whole 8) ((.pair (.whole 9) ((.pair (.pl a1A) ((.pair (.whole 10) (.pl .nil))))))))),.row (.arr 32 (.int .u8)),.row .bool,.row a0P,.box a1W ((.pair (.pl (.int .u64)) ((.pair (.pl a0I) ((.pair (.pl a1M) ((.pair (.pl (.int .u64)) ((.pair (.pl a0N) ((.pair (.ptr 12 []) ((.pair (.ptr 14 []) ((.pair (.ptr 18 []) (.pl .nil))))))))))))))))),.box a1G ((.pair (.whole 13) (.pl (.cons (.arr 4 a1A) .nil)))),.row a0M,.box a1X ((.pair (.whole 15) ((.pair (.ptr 16 []) (.pl .nil))))),.row a0J,.box tY0 ((.pair (.whole 17) (.pl .nil))),.row (.arr 32 (.int .u8)),.box a1F ((.pair (.whole 19) ((.pair (.whole 20) ((.pair (.pl a1A) ((.pair (.whole 21) (.pl .nil))))))))),.row (.arr 32 (.int .u8)),.row .bool,.row a0P]⟩)]) ⟨ok5,ok6,ok7,ok8,ok9,trivial⟩ (by intro x; kernel_rfl)
end
end Sym

/- Rules for what a printed function computes. -/
namespace Sym
open Go
def Wp {R:Type} (T:R→Prop) (r:R):Prop:=T r
theorem Wp.brn {R:Type} {T:R→Prop} {c:Bool} {t f:R} (h1:c = true→Wp T t) (h2:c = false→Wp T f):Wp T (brn c t f):=by
 cases c
 ·
  exact h2 rfl
 ·
  exact h1 rfl
theorem Wp.brnT {R:Type} {T:R→Prop} {c:Bool} {t f:R} (hc:c = true) (h:Wp T t):Wp T (Sym.brn c t f):=by subst hc; exact h
theorem Wp.brnF {R:Type} {T:R→Prop} {c:Bool} {t f:R} (hc:c = false) (h:Wp T f):Wp T (Sym.brn c t f):=by subst hc; exact h
theorem Wp.optF {R Y:Type} {T:R→Prop} {fail:R} {o:Option Y} {k:Y→R} {y:Y} (ho:o = some y) (h:Wp T (k y)):Wp T (optF fail o k):=by subst ho; exact h
theorem Wp.call {R Y:Type} {T:R→Prop} {fail:R} {o:Option Y} {k:Y→R} {P:Y→Prop} (ho:∃ y,o = some y∧P y) (h:∀ y,P y→Wp T (k y)):Wp T (Sym.optF fail o k):=by
 obtain ⟨y,rfl,hp⟩:=ho
 exact h y hp
theorem Wp.jn {X R:Type} {T:R→Prop} {J:X→R} {f:(X→R)→R} (P:X→Prop) (h1:∀ x,P x→Wp T (J x)) (h2:∀ j:X→R,(∀ x,P x→Wp T (j x))→Wp T (f j)):Wp T (jn J f):=h2 J h1
def Rnd {X R:Type} (T:R→Prop) (Inv:X→Prop) (μ:X→Nat) (m:Nat) (s:Stp X R):Prop :=
 match s with
 | .again y=>Inv y∧μ y < m
 | .done r=>Wp T r
theorem Wp.again {X R:Type} {T:R→Prop} {Inv:X→Prop} {μ:X→Nat} {m:Nat} {y:X} (h1:Inv y) (h2:μ y < m):Wp (Rnd T Inv μ m) (.again y:Stp X R):=⟨h1,h2⟩
theorem Wp.done {X R:Type} {T:R→Prop} {Inv:X→Prop} {μ:X→Nat} {m:Nat} {r:R} (h:Wp T r):Wp (Rnd T Inv μ m) (.done r:Stp X R):=h
theorem Wp.iter {X R:Type} {T:R→Prop} {fail:R} {f:X→Stp X R} {x:X} (Inv:X→Prop) (μ:X→Nat) {k:Nat} (h:∀ x,Inv x→Wp (Rnd T Inv μ (μ x)) (f x)) (hi:Inv x) (hm:μ x < k):Wp T (iter fail f k x):=by
 induction k generalizing x with
 | zero=>omega
 | succ k ih =>
  have h1:=h x hi
  unfold Sym.iter
  cases hf:f x with
  | again y =>
   rw [hf] at h1
   exact ih h1.1 (Nat.lt_of_lt_of_le h1.2 (by omega))
  | done r =>
   rw [hf] at h1
   exact h1
def Nxt {X R:Type} (T:R→Prop) (fail:R) (f:X→Stp X R) (k:Nat) (s:Stp X R):Prop :=
 match s with
 | .again y=>Wp T (Sym.iter fail f k y)
 | .done r=>Wp T r
theorem Wp.unroll {X R:Type} {T:R→Prop} {fail:R} {f:X→Stp X R} {x:X} {k:Nat} (h:Wp (Nxt T fail f k) (f x)):Wp T (Sym.iter fail f (k + 1) x):=by
 unfold Sym.iter
 cases hf:f x with
 | again y=>rw [hf] at h; exact h
 | done r=>rw [hf] at h; exact h
theorem Wp.next {X R:Type} {T:R→Prop} {fail:R} {f:X→Stp X R} {y:X} {k:Nat} (h:Wp T (Sym.iter fail f k y)):Wp (Nxt T fail f k) (.again y):=h
theorem Wp.stop {X R:Type} {T:R→Prop} {fail:R} {f:X→Stp X R} {r:R} {k:Nat} (h:Wp T r):Wp (Nxt T fail f k) (.done r):=h
theorem Wp.out {R:Type} {T:R→Prop} {r:R} (h:Wp T r):T r:=h
theorem I.of_val {k:IntKind} {n:Int} (h:k.min ≤ n∧n ≤ k.max):(I.of k n).val = n:=wrap_eq_of_range h
theorem of_u64 {n:Int} (h:0 ≤ n∧n < 18446744073709551616):(I.of .u64 n).val = n:=I.of_val ⟨by simp [IntKind.min,IntKind.signed]; omega,by simp [IntKind.max,IntKind.bits,IntKind.signed]; omega⟩
theorem of_i64 {n:Int} (h:-9223372036854775808 ≤ n∧n < 9223372036854775808):(I.of .i64 n).val = n:=I.of_val ⟨by simp [IntKind.min,IntKind.bits,IntKind.signed]; omega,by simp [IntKind.max,IntKind.bits,IntKind.signed]; omega⟩
theorem of_u8 {n:Int} (h:0 ≤ n∧n < 256):(I.of .u8 n).val = n:=I.of_val ⟨by simp [IntKind.min,IntKind.signed]; omega,by simp [IntKind.max,IntKind.bits,IntKind.signed]; omega⟩
theorem u64_range (x:I .u64):0 ≤ x.val∧x.val < 18446744073709551616:=I_range x
theorem i64_range (x:I .i64):-9223372036854775808 ≤ x.val∧x.val < 9223372036854775808:=by
 have h:=x.ok
 have h1:(2 ^ IntKind.i64.bits:Int) = 18446744073709551616:=by decide
 have h2:(2 ^ (IntKind.i64.bits - 1):Int) = 9223372036854775808:=by decide
 have h3:IntKind.i64.signed = true:=rfl
 simp only [IntKind.wrap,h1,h2,h3,Bool.true_and,decide_eq_true_eq] at h
 split at h <;> omega
theorem u8_range (x:I .u8):0 ≤ x.val∧x.val < 256:=by
 have h:=x.ok
 simp only [IntKind.wrap,IntKind.bits,IntKind.signed,Bool.false_and,Bool.false_eq_true,if_false] at h
 omega
theorem iff_ltb {k:IntKind} {a b:I k}:I.ltb a b = true ↔ a.val < b.val:=by simp [I.ltb]
theorem iff_leb {k:IntKind} {a b:I k}:I.leb a b = true ↔ a.val ≤ b.val:=by simp [I.leb]
theorem iff_eqb {k:IntKind} {a b:I k}:I.eqb a b = true ↔ a.val = b.val:=by simp [I.eqb]
theorem iff_neb {k:IntKind} {a b:I k}:I.neb a b = true ↔ a.val ≠ b.val:=by simp [I.neb]
theorem niff_ltb {k:IntKind} {a b:I k}:I.ltb a b = false ↔ b.val ≤ a.val:=by simp [I.ltb]
theorem niff_leb {k:IntKind} {a b:I k}:I.leb a b = false ↔ b.val < a.val:=by simp [I.leb]
theorem niff_eqb {k:IntKind} {a b:I k}:I.eqb a b = false ↔ a.val ≠ b.val:=by simp [I.eqb]
theorem niff_neb {k:IntKind} {a b:I k}:I.neb a b = false ↔ a.val = b.val:=by simp [I.neb]
theorem iff_nz {k:IntKind} {a:I k}:I.nz a = true ↔ a.val ≠ 0:=by simp [I.nz]
theorem iff_nn {k:IntKind} {a:I k}:I.nn a = true ↔ 0 ≤ a.val:=by simp [I.nn]
theorem iff_inB {k:IntKind} {a:I k} {n:Nat}:inB a n = true ↔ 0 ≤ a.val∧a.val < n:=by simp [inB]
theorem iff_fits {n:Nat}:a1Z n = true ↔ n ≤ 1073741824:=by simp [a1Z]
theorem I.eq_of {k:IntKind} {a b:I k} (h:I.eqb a b = true):a = b:=I.ext' (iff_eqb.1 h)
theorem add_i64 {a b:I .i64} (h:-9223372036854775808 ≤ a.val + b.val∧a.val + b.val < 9223372036854775808):(I.add a b).val = a.val + b.val:=of_i64 h
theorem sub_i64 {a b:I .i64} (h:-9223372036854775808 ≤ a.val - b.val∧a.val - b.val < 9223372036854775808):(I.sub a b).val = a.val - b.val:=of_i64 h
theorem mul_i64 {a b:I .i64} (h:-9223372036854775808 ≤ a.val * b.val∧a.val * b.val < 9223372036854775808):(I.mul a b).val = a.val * b.val:=of_i64 h
theorem rem_i64 {a b:I .i64} (h:0 ≤ a.val) (h2:0 < b.val):(I.rem a b).val = a.val % b.val:=by
 have ha:=i64_range a
 have hb:=i64_range b
 have e:a.val.tmod b.val = a.val % b.val:=Int.tmod_eq_emod_of_nonneg h
 have h3:=Int.emod_nonneg a.val (b:=b.val) (by omega)
 have h4:=Int.emod_lt_of_pos a.val h2
 unfold I.rem
 rw [e]
 exact of_i64 ⟨by omega,by omega⟩
theorem quo_i64 {a b:I .i64} (h:0 ≤ a.val) (h2:0 < b.val):(I.quo a b).val = a.val / b.val:=by
 have ha:=i64_range a
 have e:a.val.tdiv b.val = a.val / b.val:=Int.tdiv_eq_ediv_of_nonneg h
 have h3:0 ≤ a.val / b.val:=Int.ediv_nonneg h (by omega)
 have h4:a.val / b.val ≤ a.val:=Int.ediv_le_self _ h
 unfold I.quo
 rw [e]
 exact of_i64 ⟨by omega,by omega⟩
theorem add_u64 {a b:I .u64} (h:a.val + b.val < 18446744073709551616):(I.add a b).val = a.val + b.val:=of_u64 ⟨by have:=u64_range a; have:=u64_range b; omega,h⟩
theorem sub_u64 {a b:I .u64} (h:b.val ≤ a.val):(I.sub a b).val = a.val - b.val:=of_u64 ⟨by omega,by have:=u64_range a; have:=u64_range b; omega⟩
theorem quo_u64 {a b:I .u64}:(I.quo a b).val = a.val / b.val:=by
 have ha:=u64_range a
 have hb:=u64_range b
 have e:a.val.tdiv b.val = a.val / b.val:=Int.tdiv_eq_ediv_of_nonneg ha.1
 have h3:0 ≤ a.val / b.val:=Int.ediv_nonneg ha.1 hb.1
 have h4:a.val / b.val ≤ a.val:=Int.ediv_le_self _ ha.1
 unfold I.quo
 rw [e]
 exact of_u64 ⟨by omega,by omega⟩
end Sym

/- Natural numbers as ints; lists as rows. -/
namespace Sym
open Go
def i6 (n:Nat):I .i64:=I.of .i64 (n:Int)
theorem a1J {n:Nat} (h:n < 9223372036854775808):(i6 n).val = n:=of_i64 ⟨by omega,by omega⟩
theorem i6_nat {n:Nat} (h:n < 9223372036854775808):I.nat (i6 n) = n:=by unfold I.nat; rw [a1J h]; simp
theorem i6_add {n m:Nat} (h:n + m < 9223372036854775808):I.add (i6 n) (i6 m) = i6 (n + m):=by
 apply I.ext'
 rw [add_i64 (by rw [a1J (by omega),a1J (by omega)]; omega),a1J (by omega),a1J (by omega),a1J h]
 omega
theorem i6_sub {n m:Nat} (h:n < 9223372036854775808) (hm:m ≤ n):I.sub (i6 n) (i6 m) = i6 (n - m):=by
 apply I.ext'
 rw [sub_i64 (by rw [a1J (by omega),a1J (by omega)]; omega),a1J (by omega),a1J (by omega),a1J (by omega)]
 omega
theorem i6_ltb {n m:Nat} (hn:n < 9223372036854775808) (hm:m < 9223372036854775808):I.ltb (i6 n) (i6 m) = decide (n < m):=by
 simp only [I.ltb,a1J hn,a1J hm]
 by_cases h:n < m
 ·
  rw [decide_eq_true h,decide_eq_true (by omega)]
 ·
  rw [decide_eq_false h,decide_eq_false (by omega)]
theorem i6_leb {n m:Nat} (hn:n < 9223372036854775808) (hm:m < 9223372036854775808):I.leb (i6 n) (i6 m) = decide (n ≤ m):=by
 simp only [I.leb,a1J hn,a1J hm]
 by_cases h:n ≤ m
 ·
  rw [decide_eq_true h,decide_eq_true (by omega)]
 ·
  rw [decide_eq_false h,decide_eq_false (by omega)]
theorem i6_inB {n m:Nat} (hn:n < m) (hm:n < 9223372036854775808):inB (i6 n) m = true:=iff_inB.2 (by rw [a1J hm]; omega)
theorem i6_inB' {n m:Nat} (hn:n ≤ m) (hm:n < 9223372036854775808):inB' (i6 n) m = true:=by
 simp only [inB',Bool.and_eq_true,decide_eq_true_eq,a1J hm]
 omega
theorem i6_mn {n m:Nat} (hn:n < 9223372036854775808) (hm:m < 9223372036854775808):I.mn (i6 n) (i6 m) = i6 (min n m):=by
 unfold I.mn
 rw [a1J hn,a1J hm]
 by_cases h:(m:Int) < n
 ·
  rw [if_pos h,Nat.min_eq_right (by omega)]
 ·
  rw [if_neg h,Nat.min_eq_left (by omega)]
theorem i6_ofNat (n:Nat):I.ofNat .i64 n = i6 n:=rfl
theorem i6_eqb {n m:Nat} (hn:n < 9223372036854775808) (hm:m < 9223372036854775808):I.eqb (i6 n) (i6 m) = decide (n = m):=by
 simp only [I.eqb,a1J hn,a1J hm]
 by_cases h:n = m
 ·
  rw [decide_eq_true h,decide_eq_true (by omega)]
 ·
  rw [decide_eq_false h,decide_eq_false (by omega)]
theorem i6_neb {n m:Nat} (hn:n < 9223372036854775808) (hm:m < 9223372036854775808):I.neb (i6 n) (i6 m) = decide (n ≠ m):=by
 have h:=i6_eqb hn hm
 by_cases e:n = m
 ·
  rw [decide_eq_true e] at h; rw [decide_eq_false (by simpa using e)]; exact niff_neb.2 (iff_eqb.1 h)
 ·
  rw [decide_eq_false e] at h; rw [decide_eq_true e]; exact iff_neb.2 (niff_eqb.1 h)
theorem rdL_eq {X:Type} (d:X):∀ (l:List X) (i:Nat) (h:i < l.length),rdL d l i = l[i]
 | x :: l,0,_=>rfl
 | x :: l,i + 1,h=>rdL_eq d l i (by simpa using h)
theorem rdL_out {X:Type} (d:X):∀ (l:List X) (i:Nat),l.length ≤ i→rdL d l i = d
 | [],_,_=>rfl
 | _ :: _,0,h=>by simp at h
 | _ :: l,i + 1,h=>rdL_out d l i (by simpa using h)
theorem setAt_eq {X:Type}:∀ (l:List X) (i:Nat) (v:X),setAt l i v = l.set i v
 | [],_,_=>rfl
 | _ :: _,0,_=>rfl
 | x :: l,i + 1,v=>by simp [setAt,setAt_eq l i v]
theorem rdL_set {X:Type} (d:X) (l:List X) (i k:Nat) (v:X):rdL d (setAt l i v) k = if k = i∧i < l.length then v else rdL d l k:=by
 rw [setAt_eq]
 by_cases hk:k < l.length
 ·
  rw [rdL_eq d _ k (by simpa using hk),List.getElem_set]
  by_cases h:k = i
  ·
   subst h; simp [hk]
  ·
   rw [if_neg (by omega),if_neg (by omega),rdL_eq d l k hk]
 ·
  rw [rdL_out _ _ _ (by simp; omega),rdL_out _ _ _ (by omega),if_neg (by omega)]
theorem rdL_app {X:Type} (d:X) (l m:List X) (k:Nat):rdL d (l ++ m) k = if k < l.length then rdL d l k else rdL d m (k - l.length):=by
 induction l generalizing k with
 | nil=>simp
 | cons x l ih =>
  cases k with
  | zero=>simp [rdL]
  | succ k =>
   simp only [List.cons_append,rdL,ih,List.length_cons,Nat.add_lt_add_iff_right,Nat.add_sub_add_right]
theorem rdL_take {X:Type} (d:X) (l:List X) (n k:Nat) (h:k < n):rdL d (l.take n) k = rdL d l k:=by
 by_cases hk:k < l.length
 ·
  rw [rdL_eq d _ k (by simp; omega),rdL_eq d l k hk,List.getElem_take]
 ·
  rw [rdL_out _ _ _ (by simp; omega),rdL_out _ _ _ (by omega)]
theorem rdL_mem {X:Type} (d:X) (l:List X) (k:Nat) (h:k < l.length):rdL d l k ∈ l:=by rw [rdL_eq d l k h]; exact List.getElem_mem h
theorem mem_rdL {X:Type} (d:X) {l:List X} {x:X} (h:x ∈ l):∃ k,k < l.length∧rdL d l k = x:=by
 obtain ⟨k,hk,e⟩:=List.getElem_of_mem h
 exact ⟨k,hk,by rw [rdL_eq d l k hk,e]⟩
theorem subL_take {X:Type} (s:List X) (n:Nat):subL s 0 n = s.take n:=by simp [subL]
theorem subL_drop {X:Type} (s:List X) (n:Nat):subL s n (s.length - n) = s.drop n:=by
 simp only [subL]
 exact List.take_of_length_le (by simp)
theorem lenL_eq {X:Type} (l:List X):a1I l = l.length:=rfl
theorem eqb_iff:∀ (t:Ty),t.eqOk = true→∀ x y:t.D,Ty.eqb t x y = true ↔ x = y:=by
 intro t
 induction t with
 | int k=>intro _ x y; simp only [Ty.eqb,decide_eq_true_eq]; exact ⟨fun h=>I.ext' h,fun h=>by rw [h]⟩
 | bool=>intro _ x y; exact (by decide:∀ a b:Bool,(a == b) = true ↔ a = b) x y
 | nil=>intro _ x y; exact ⟨fun _=>rfl,fun _=>rfl⟩
 | cons a b iha ihb =>
  intro h x y
  simp only [Ty.eqOk,Bool.and_eq_true] at h
  simp only [Ty.eqb,Bool.and_eq_true,iha h.1,ihb h.2]
  obtain ⟨x1,x2⟩:=x
  obtain ⟨y1,y2⟩:=y
  exact ⟨fun h=>by rw [show x1 = y1 from h.1,show x2 = y2 from h.2],fun h=>⟨congrArg Prod.fst h,congrArg Prod.snd h⟩⟩
 | arr n t ih =>
  intro h x y
  have key:∀ (n:Nat) (x y:Arr t.D n),Arr.eqb t.eqb n x y = true ↔ x = y:=by
   intro n
   induction n with
   | zero=>intro x y; exact ⟨fun _=>rfl,fun _=>rfl⟩
   | succ n ihn =>
    intro x y
    simp only [Arr.eqb,Bool.and_eq_true,ih h,ihn]
    obtain ⟨x1,x2⟩:=x
    obtain ⟨y1,y2⟩:=y
    exact ⟨fun h=>by rw [show x1 = y1 from h.1,show x2 = y2 from h.2],fun h=>⟨congrArg Prod.fst h,congrArg Prod.snd h⟩⟩
  exact key n x y
 | str=>intro h; cases h
 | sl t _=>intro h; cases h
 | opq=>intro h; cases h
 | fnc=>intro h; cases h
theorem fits_le {n:Nat} (h:n ≤ 1073741824):a1Z n = true:=iff_fits.2 h
end Sym

/- Natural numbers by digits of 65536: what the reference's first functions compute. -/
namespace Sym
open Go
theorem K0_ge (n:Nat) (h:n < 2 ^ 64):n < K0:=by rw [K0_eq]; exact h
end Sym

/- Natural numbers by digits of 65536: from and to 256 bits, comparison. -/
namespace Sym
open Go
theorem fdiv_pos (a:Int) (n:Nat) (h:0 ≤ a):a.fdiv ((2:Int) ^ n) = a / (2:Int) ^ n:=by
 have h2:(0:Int) ≤ (2:Int) ^ n:=Int.le_of_lt (Int.pow_pos (by decide))
 rw [Int.fdiv_eq_ediv_of_nonneg _ h2]
theorem shr_u64 (x s:I .u64) (hs:s.val < 64):(I.shr x s).val = x.val / (2:Int) ^ s.val.toNat:=by
 have hx:=u64_range x
 have h0:=u64_range s
 have hm:min s.val.toNat IntKind.u64.bits = s.val.toNat:=by
  have:IntKind.u64.bits = 64:=rfl
  omega
 unfold I.shr
 rw [hm,fdiv_pos _ _ hx.1]
 have h2:(0:Int) < (2:Int) ^ s.val.toNat:=Int.pow_pos (by decide)
 have h3:0 ≤ x.val / (2:Int) ^ s.val.toNat:=Int.ediv_nonneg hx.1 (by omega)
 have h4:x.val / (2:Int) ^ s.val.toNat ≤ x.val:=Int.ediv_le_self _ hx.1
 exact of_u64 ⟨by omega,by omega⟩
end Sym

/- Natural numbers by digits of 65536: to 256 bits, comparison. -/
namespace Sym
open Go
def errS (n:Nat):U × I .i64:=if n < U.top then (U.of n,I.of .i64 0) else (U.of 0,I.of .i64 4)
def u64U (x:I .u64):U:=(x,I.of .u64 0,I.of .u64 0,I.of .u64 0,())
theorem u64U_val (x:I .u64):(u64U x).val = x.nat:=by
 unfold u64U U.val
 have:(I.of .u64 0).nat = 0:=rfl
 simp only [this]
 omega
end Sym

/- Natural numbers by digits of 65536: sums, differences, comparison. -/
namespace Sym
open Go
end Sym

/- Natural numbers by digits of 65536: differences, comparison. -/
namespace Sym
open Go
end Sym

/- Limbs of 256 bits; products of 64 bits. -/
namespace Sym
open Go
abbrev W64:Nat:=18446744073709551616
def limb' (a:U) (i:Nat):Nat:=(Arr.sel (I.of .u64 0) 4 a i).nat
theorem limb_lt (a:U) (i:Nat):limb' a i < W64:=a2B _
theorem limb_mod (a:U) (i:Nat) (h:i < 4):a.val % W64 ^ (i + 1) = a.val % W64 ^ i + W64 ^ i * limb' a i:=by
 obtain ⟨a0,a1,a2,a3,⟨⟩⟩:=a
 have n0:=a2B a0
 have n1:=a2B a1
 have n2:=a2B a2
 have n3:=a2B a3
 have p0:W64 ^ 0 = 1:=by decide
 have p1:W64 ^ 1 = 18446744073709551616:=by decide
 have p2:W64 ^ 2 = 340282366920938463463374607431768211456:=by decide
 have p3:W64 ^ 3 = 6277101735386680763835789423207666416102355444464034512896:=by decide
 have p4:W64 ^ 4 = 115792089237316195423570985008687907853269984665640564039457584007913129639936:=by decide
 have hc:i = 0 ∨ i = 1 ∨ i = 2 ∨ i = 3:=by omega
 rcases hc with rfl | rfl | rfl | rfl
 ·
  show U.val _ % W64 ^ 1 = U.val _ % W64 ^ 0 + W64 ^ 0 * a0.nat
  rw [p0,p1]; unfold U.val; simp only; omega
 ·
  show U.val _ % W64 ^ 2 = U.val _ % W64 ^ 1 + W64 ^ 1 * a1.nat
  rw [p1,p2]; unfold U.val; simp only; omega
 ·
  show U.val _ % W64 ^ 3 = U.val _ % W64 ^ 2 + W64 ^ 2 * a2.nat
  rw [p2,p3]; unfold U.val; simp only; omega
 ·
  show U.val _ % W64 ^ 4 = U.val _ % W64 ^ 3 + W64 ^ 3 * a3.nat
  rw [p3,p4]; unfold U.val; simp only; omega
theorem upd_val (a:U) (i:Nat) (z:I .u64) (h:i < 4):U.val (Arr.upd 4 a i z) + W64 ^ i * limb' a i = a.val + W64 ^ i * z.nat:=by
 obtain ⟨a0,a1,a2,a3,⟨⟩⟩:=a
 have p0:W64 ^ 0 = 1:=by decide
 have p1:W64 ^ 1 = 18446744073709551616:=by decide
 have p2:W64 ^ 2 = 340282366920938463463374607431768211456:=by decide
 have p3:W64 ^ 3 = 6277101735386680763835789423207666416102355444464034512896:=by decide
 have hc:i = 0 ∨ i = 1 ∨ i = 2 ∨ i = 3:=by omega
 rcases hc with rfl | rfl | rfl | rfl
 ·
  show U.val (z,a1,a2,a3,()) + W64 ^ 0 * a0.nat = U.val (a0,a1,a2,a3,()) + W64 ^ 0 * z.nat
  rw [p0]; unfold U.val; simp only; omega
 ·
  show U.val (a0,z,a2,a3,()) + W64 ^ 1 * a1.nat = U.val (a0,a1,a2,a3,()) + W64 ^ 1 * z.nat
  rw [p1]; unfold U.val; simp only; omega
 ·
  show U.val (a0,a1,z,a3,()) + W64 ^ 2 * a2.nat = U.val (a0,a1,a2,a3,()) + W64 ^ 2 * z.nat
  rw [p2]; unfold U.val; simp only; omega
 ·
  show U.val (a0,a1,a2,z,()) + W64 ^ 3 * a3.nat = U.val (a0,a1,a2,a3,()) + W64 ^ 3 * z.nat
  rw [p3]; unfold U.val; simp only; omega
theorem and_low (x:I .u64) (n:Nat) (m:I .u64) (hn:n < 64) (hm:m.val = ((2 ^ n - 1:Nat):Int)):(I.and x m).nat = x.nat % 2 ^ n:=by
 have hx:=u64_range x
 have h1:(BitVec.ofInt 64 x.val).toNat = x.nat:=by rw [BitVec.toNat_ofInt]; unfold I.nat; omega
 have hp:2 ^ n ≤ 2 ^ 63:=Nat.pow_le_pow_right (by decide) (by omega)
 have h2:(BitVec.ofInt 64 m.val).toNat = 2 ^ n - 1:=by rw [BitVec.toNat_ofInt,hm]; omega
 have h3:(BitVec.ofInt IntKind.u64.bits x.val &&& BitVec.ofInt IntKind.u64.bits m.val).toNat = x.nat % 2 ^ n:=by
  show (BitVec.ofInt 64 x.val &&& BitVec.ofInt 64 m.val).toNat = _
  rw [BitVec.toNat_and,h1,h2,Nat.and_two_pow_sub_one_eq_mod]
 unfold I.and
 rw [h3]
 have h4:x.nat % 2 ^ n < 2 ^ n:=Nat.mod_lt _ (Nat.pow_pos (by decide))
 exact of_nat (by omega)
theorem shr_nat (x s:I .u64) (hs:s.nat < 64):(I.shr x s).nat = x.nat / 2 ^ s.nat:=by
 have h0:=u64_range s
 have hx:=u64_range x
 have h:=shr_u64 x s (by unfold I.nat at hs; omega)
 have e:s.val.toNat = s.nat:=rfl
 rw [e] at h
 have h1:((x.nat / 2 ^ s.nat:Nat):Int) = x.val / (2:Int) ^ s.nat:=by
  rw [Int.natCast_ediv,nat_val]
  simp
 have:=nat_val (I.shr x s)
 omega
theorem mul_nat (a b:I .u64):(I.mul a b).nat = a.nat * b.nat % W64:=by
 have h1:=nat_val a
 have h2:=nat_val b
 unfold I.mul
 have:a.val * b.val = ((a.nat * b.nat:Nat):Int):=by rw [← h1,← h2,Int.natCast_mul]
 rw [this]
 show (IntKind.u64.wrap _).toNat = _ % 18446744073709551616
 rw [wrap_u64]
 omega
theorem add_nat (a b:I .u64):(I.add a b).nat = (a.nat + b.nat) % W64:=by
 have h1:=nat_val a
 have h2:=nat_val b
 show (IntKind.u64.wrap (a.val + b.val)).toNat = _ % 18446744073709551616
 rw [wrap_u64]
 omega
theorem Mul64_ok (a b:I .u64):∃ hi lo:I .u64,math_bits_Mul64 K0 ((a,b,()),()) = some ((hi,lo,()),())∧lo.nat + W64 * hi.nat = a.nat * b.nat:=by
 refine ⟨_,_,rfl,?_⟩
 show (I.mul a b).nat + W64 * (I.add (I.add (I.mul (I.shr a (I.of .u64 32)) (I.shr b (I.of .u64 32))) (I.shr (I.add (I.mul (I.shr a (I.of .u64 32)) (I.and b (I.of .u64 4294967295))) (I.shr (I.mul (I.and a (I.of .u64 4294967295)) (I.and b (I.of .u64 4294967295))) (I.of .u64 32))) (I.of .u64 32)))
  (I.shr (I.add (I.and (I.add (I.mul (I.shr a (I.of .u64 32)) (I.and b (I.of .u64 4294967295))) (I.shr (I.mul (I.and a (I.of .u64 4294967295)) (I.and b (I.of .u64 4294967295))) (I.of .u64 32))) (I.of .u64 4294967295)) (I.mul (I.and a (I.of .u64 4294967295)) (I.shr b (I.of .u64 32)))) (I.of .u64 32))).nat = _
 have c32:(I.of .u64 32).nat = 32:=rfl
 have p32:2 ^ 32 = 4294967296:=by decide
 have sh:∀ x:I .u64,(I.shr x (I.of .u64 32)).nat = x.nat / 4294967296:=fun x=>by rw [shr_nat _ _ (by decide),c32,p32]
 have an:∀ x:I .u64,(I.and x (I.of .u64 4294967295)).nat = x.nat % 4294967296:=fun x=>by rw [and_low x 32 _ (by decide) (by decide),p32]
 simp only [mul_nat,add_nat,sh,an]
 have ha:=a2B a
 have hb:=a2B b
 have ea:a.nat = 4294967296 * (a.nat / 4294967296) + a.nat % 4294967296:=by omega
 have eb:b.nat = 4294967296 * (b.nat / 4294967296) + b.nat % 4294967296:=by omega
 generalize hA1:a.nat / 4294967296 = a1 at *
 generalize hA0:a.nat % 4294967296 = a0 at *
 generalize hB1:b.nat / 4294967296 = b1 at *
 generalize hB0:b.nat % 4294967296 = b0 at *
 have la1:a1 ≤ 4294967295:=by omega
 have la0:a0 ≤ 4294967295:=by omega
 have lb1:b1 ≤ 4294967295:=by omega
 have lb0:b0 ≤ 4294967295:=by omega
 have m11:a1 * b1 ≤ 4294967295 * 4294967295:=Nat.mul_le_mul la1 lb1
 have m10:a1 * b0 ≤ 4294967295 * 4294967295:=Nat.mul_le_mul la1 lb0
 have m01:a0 * b1 ≤ 4294967295 * 4294967295:=Nat.mul_le_mul la0 lb1
 have m00:a0 * b0 ≤ 4294967295 * 4294967295:=Nat.mul_le_mul la0 lb0
 have prod:a.nat * b.nat = 18446744073709551616 * (a1 * b1) + 4294967296 * (a1 * b0) + 4294967296 * (a0 * b1) + a0 * b0:=by
  rw [ea,eb,Nat.add_mul,Nat.mul_add,Nat.mul_add]
  have e1:4294967296 * a1 * (4294967296 * b1) = 18446744073709551616 * (a1 * b1):=by
   rw [Nat.mul_mul_mul_comm]
  have e2:4294967296 * a1 * b0 = 4294967296 * (a1 * b0):=Nat.mul_assoc _ _ _
  have e3:a0 * (4294967296 * b1) = 4294967296 * (a0 * b1):=Nat.mul_left_comm _ _ _
  rw [e1,e2,e3]
  omega
 rw [prod]
 generalize a1 * b1 = p11 at *
 generalize a1 * b0 = p10 at *
 generalize a0 * b1 = p01 at *
 generalize a0 * b0 = p00 at *
 clear ea eb prod ha hb hA1 hA0 hB1 hB0
 unfold W64
 omega
end Sym

/- Products of 256 bits. -/
namespace Sym
open Go
theorem or_zero (x y:I .u64):I.neb (I.or x y) (I.of .u64 0) = false ↔ x.nat = 0∧y.nat = 0:=by
 rw [niff_neb]
 have c0:(I.of .u64 0).val = 0:=rfl
 have h1:(BitVec.ofInt 64 x.val).toNat = x.nat:=by have:=u64_range x; rw [BitVec.toNat_ofInt]; unfold I.nat; omega
 have h2:(BitVec.ofInt 64 y.val).toNat = y.nat:=by have:=u64_range y; rw [BitVec.toNat_ofInt]; unfold I.nat; omega
 have h3:(BitVec.ofInt IntKind.u64.bits x.val ||| BitVec.ofInt IntKind.u64.bits y.val).toNat = x.nat ||| y.nat:=by
  show (BitVec.ofInt 64 x.val ||| BitVec.ofInt 64 y.val).toNat = _
  rw [BitVec.toNat_or,h1,h2]
 have hlt:x.nat ||| y.nat < 2 ^ 64:=Nat.or_lt_two_pow (a2B x) (a2B y)
 have h4:(I.or x y).val = ((x.nat ||| y.nat:Nat):Int):=by
  unfold I.or
  rw [h3]
  exact of_u64 ⟨by omega,by omega⟩
 rw [h4,c0]
 constructor
 ·
  intro h
  have:x.nat ||| y.nat = 0:=by omega
  exact Nat.or_eq_zero_iff.1 this
 ·
  rintro ⟨h5,h6⟩
  rw [h5,h6]; rfl
theorem limb_le (a:U) (i:Nat) (h:i < 4):W64 ^ i * limb' a i ≤ a.val:=by
 have h1:=limb_mod a i h
 have h2:=Nat.mod_le a.val (W64 ^ (i + 1))
 rw [h1] at h2
 exact Nat.le_trans (Nat.le_add_left _ _) h2
theorem over_prod {a b:U} {i k:Nat} (hi:i < 4) (hk:k < 4) (h:3 < i + k) (hp:limb' a i * limb' b k ≠ 0):U.top ≤ a.val * b.val:=by
 have h1:=Nat.mul_le_mul (limb_le a i hi) (limb_le b k hk)
 rw [Nat.mul_mul_mul_comm,← Nat.pow_add] at h1
 have h2:U.top = W64 ^ 4:=by decide
 have h3:W64 ^ 4 ≤ W64 ^ (i + k):=Nat.pow_le_pow_right (by decide) (by omega)
 have h4:W64 ^ (i + k) * 1 ≤ W64 ^ (i + k) * (limb' a i * limb' b k):=Nat.mul_le_mul_left _ (by omega)
 omega
theorem mod_mul_le (a b:U) (n:Nat):(a.val % n) * b.val ≤ a.val * b.val:=Nat.mul_le_mul_right _ (Nat.mod_le _ _)
theorem top_W:W64 ^ 4 = U.top:=by decide
theorem mul_round {P c L B M i k hi lo z1 q1 z2 q2 p c' P' bk:Nat} (inv:P + c * W64 ^ (i + k) = M + L * W64 ^ i * B) (h1:lo + W64 * hi = L * bk) (h2:z1 + W64 * q1 = lo + c) (h3:z2 + W64 * q2 = p + z1)
  (hc:c' = hi + q1 + q2) (hP:P' + W64 ^ (i + k) * p = P + W64 ^ (i + k) * z2):P' + c' * W64 ^ (i + k + 1) = M + L * W64 ^ i * (B + W64 ^ k * bk):=by
 have e1:L * W64 ^ i * (B + W64 ^ k * bk) = L * W64 ^ i * B + W64 ^ (i + k) * (L * bk):=by
  rw [Nat.mul_add,Nat.pow_add]
  congr 1
  simp only [Nat.mul_comm,Nat.mul_left_comm,Nat.mul_assoc]
 have e2:c' * W64 ^ (i + k + 1) = W64 ^ (i + k) * (W64 * c'):=by
  rw [Nat.pow_succ]
  simp only [Nat.mul_comm,Nat.mul_left_comm,Nat.mul_assoc]
 have e3:W64 * c' = L * bk + c + p - z2∧z2 ≤ L * bk + c + p:=by
  subst hc
  unfold W64 at *
  omega
 have e4:W64 * c' + z2 = L * bk + c + p:=by omega
 have e5:=congrArg (fun t=>W64 ^ (i + k) * t) e4
 simp only [Nat.mul_add] at e5
 have e6:c * W64 ^ (i + k) = W64 ^ (i + k) * c:=Nat.mul_comm _ _
 rw [e1,e2]
 omega
theorem Mul_ok (a b:U):uint256_Mul K0 ((a,b,()),()) = some (((errS (a.val * b.val)).1,(errS (a.val * b.val)).2,()),()):=by
 have c0:(I.of .i64 0).val = 0:=rfl
 have c1:(I.of .i64 1).val = 1:=rfl
 have c3:(I.of .i64 3).val = 3:=rfl
 have c4:(I.of .i64 4).val = 4:=rfl
 have over:U.top ≤ a.val * b.val→some (((I.of .u64 0,I.of .u64 0,I.of .u64 0,I.of .u64 0,()),I.of .i64 4,()),()) = some (((errS (a.val * b.val)).1,(errS (a.val * b.val)).2,()),()):=by
  intro h
  rw [show errS (a.val * b.val) = (U.of 0,I.of .i64 4) from if_neg (by omega)]
  rfl
 have key:Wp (fun o=>o = some (((errS (a.val * b.val)).1,(errS (a.val * b.val)).2,()),())) (uint256_Mul K0 ((a,b,()),())):=by
  unfold uint256_Mul
  refine Wp.iter (fun x=>0 ≤ x.1.1.val∧x.1.1.val ≤ 4∧x.2.1 = a∧x.2.2.1 = b∧U.val x.2.2.2.2.1 = (a.val % W64 ^ x.1.1.val.toNat) * b.val) (fun x=>(4 - x.1.1.val).toNat) ?_ ?_ ?_
  ·
   rintro ⟨⟨i,⟨⟩⟩,a',b',r0,p0,⟨⟩⟩ ⟨hi0,hi1,e1,e2,hp⟩
   simp only at hi0 hi1 e1 e2 hp
   subst e1 e2
   refine Wp.brn (fun h=>?_) (fun h=>?_)
   ·
    have hlt:=iff_ltb.1 h
    simp only [c4] at hlt
    clear h
    have si:(I.add i (I.of .i64 1)).val = i.val + 1:=by rw [add_i64 (by omega)]; omega
    have sin:(I.add i (I.of .i64 1)).val.toNat = i.val.toNat + 1:=by omega
    have ini:inB i 4 = true:=iff_inB.2 ⟨hi0,by omega⟩
    refine Wp.iter (fun x=>x.1.1 = i∧x.1.2.2.1 = i∧0 ≤ x.1.2.2.2.1.val∧x.1.2.2.2.1.val ≤ 4∧x.2.1 = a'∧x.2.2.1 = b' ∧
     U.val x.2.2.2.2.1 + I.nat (k:=.u64) x.1.2.1 * W64 ^ (min (i.val.toNat + x.1.2.2.2.1.val.toNat) 4) = (U.val a' % W64 ^ i.val.toNat) * U.val b' + limb' a' i.val.toNat * W64 ^ i.val.toNat * (U.val b' % W64 ^ x.1.2.2.2.1.val.toNat)) (fun x=>(4 - x.1.2.2.2.1.val).toNat) ?_ ?_ ?_
    ·
     rintro ⟨⟨i2,c,i1,k,⟨⟩⟩,a1,b1,r1,p,⟨⟩⟩ ⟨e1,e2,hk0,hk1,e3,e4,hinv⟩
     simp only at e1 e2 hk0 hk1 e3 e4 hinv
     subst e1 e2 e3 e4
     refine Wp.brn (fun h=>?_) (fun h=>?_)
     ·
      have hkl:=iff_ltb.1 h
      simp only [c4] at hkl
      clear h
      have sk:(I.add k (I.of .i64 1)).val = k.val + 1:=by rw [add_i64 (by omega)]; omega
      have skn:(I.add k (I.of .i64 1)).val.toNat = k.val.toNat + 1:=by omega
      have sik:(I.add i1 k).val = i1.val + k.val:=add_i64 (by omega)
      have hm:(4 - (I.add k (I.of .i64 1)).val).toNat < (4 - k.val).toNat:=by omega
      have bmod:=limb_mod b1 k.val.toNat (by omega)
      refine Wp.brnT ini (Wp.brnT (iff_inB.2 ⟨hk0,by show k.val < ((4:Nat):Int); omega⟩) ?_)
      obtain ⟨hi,lo,hmul,hprod⟩:=Mul64_ok (Arr.sel (I.of .u64 0) 4 a1 (I.nat i1)) (Arr.sel (I.of .u64 0) 4 b1 (I.nat k))
      have hprod:lo.nat + W64 * hi.nat = limb' a1 i1.val.toNat * limb' b1 k.val.toNat:=hprod
      refine Wp.optF hmul ?_
      refine Wp.brn (fun h=>?_) (fun h=>?_)
      ·
       have h:=iff_ltb.1 h
       have h:(I.of .i64 3).val < (I.add i1 k).val:=h
       refine Wp.brn (fun h2=>?_) (fun h2=>?_)
       ·
        refine Wp.done (Wp.done (over ?_))
        refine over_prod (i:=i1.val.toNat) (k:=k.val.toNat) (by omega) (by omega) (by omega) ?_
        intro hz
        have h3:hi.nat = 0∧lo.nat = 0:=by rw [hz] at hprod; unfold W64 at hprod; omega
        have:=(or_zero hi lo).2 h3
        exact absurd (h2.symm.trans this) (by decide)
       ·
        have h3:=(or_zero hi lo).1 h2
        have hz:limb' a1 i1.val.toNat * limb' b1 k.val.toNat = 0:=by rw [← hprod,h3.1,h3.2,Nat.mul_zero]
        refine Wp.again ⟨rfl,rfl,?_,?_,rfl,rfl,?_⟩ hm
        ·
         show 0 ≤ (I.add k (I.of .i64 1)).val; omega
        ·
         show (I.add k (I.of .i64 1)).val ≤ 4; omega
        ·
         show U.val p + c.nat * W64 ^ (min (i1.val.toNat + (I.add k (I.of .i64 1)).val.toNat) 4) = _ + _ * (U.val b1 % W64 ^ (I.add k (I.of .i64 1)).val.toNat)
         rw [skn,bmod,Nat.mul_add]
         have e1:limb' a1 i1.val.toNat * W64 ^ i1.val.toNat * (W64 ^ k.val.toNat * limb' b1 k.val.toNat) = 0:=by
          have:limb' a1 i1.val.toNat * W64 ^ i1.val.toNat * (W64 ^ k.val.toNat * limb' b1 k.val.toNat) = W64 ^ i1.val.toNat * W64 ^ k.val.toNat * (limb' a1 i1.val.toNat * limb' b1 k.val.toNat):=by simp only [Nat.mul_comm,Nat.mul_left_comm,Nat.mul_assoc]
          rw [this,hz,Nat.mul_zero]
         rw [Nat.min_eq_right (by omega)] at hinv
         rw [e1,Nat.min_eq_right (by omega)]
         exact hinv
      ·
       have h:=niff_ltb.1 h
       have h:(I.add i1 k).val ≤ (I.of .i64 3).val:=h
       have inik:inB (I.add i1 k) 4 = true:=iff_inB.2 ⟨by omega,by omega⟩
       obtain ⟨z1,q1,ha1,hs1,hq1⟩:=add64_nat lo c (I.of .u64 0) (by decide)
       refine Wp.optF ha1 ?_
       refine Wp.brnT inik ?_
       obtain ⟨z2,q2,ha2,hs2,hq2⟩:=add64_nat (Arr.sel (I.of .u64 0) 4 p (I.nat (I.add i1 k))) z1 (I.of .u64 0) (by decide)
       refine Wp.optF ha2 ?_
       refine Wp.brnT inik ?_
       have z0:(I.of .u64 0).nat = 0:=rfl
       have en:I.nat (I.add i1 k) = i1.val.toNat + k.val.toNat:=by unfold I.nat; omega
       have hup:=upd_val p (i1.val.toNat + k.val.toNat) z2 (by omega)
       have hs2':z2.nat + W64 * q2.nat = limb' p (i1.val.toNat + k.val.toNat) + z1.nat:=by
        have:(Arr.sel (I.of .u64 0) 4 p (I.nat (I.add i1 k))).nat = limb' p (i1.val.toNat + k.val.toNat):=by rw [en]; rfl
        unfold W64
        omega
       have hcv:(I.add (I.add hi q1) q2).nat = hi.nat + q1.nat + q2.nat:=by
        have l1:=limb_lt a1 i1.val.toNat
        have l2:=limb_lt b1 k.val.toNat
        have l3:=limb_lt p (i1.val.toNat + k.val.toNat)
        have l4:=a2B c
        have l5:limb' a1 i1.val.toNat * limb' b1 k.val.toNat ≤ (W64 - 1) * (W64 - 1):=Nat.mul_le_mul (by omega) (by omega)
        rw [add_nat,add_nat]
        unfold W64 at *
        omega
       refine Wp.again ⟨rfl,rfl,?_,?_,rfl,rfl,?_⟩ hm
       ·
        show 0 ≤ (I.add k (I.of .i64 1)).val; omega
       ·
        show (I.add k (I.of .i64 1)).val ≤ 4; omega
       ·
        show U.val (Arr.upd 4 p (I.nat (I.add i1 k)) z2) + (I.add (I.add hi q1) q2).nat * W64 ^ (min (i1.val.toNat + (I.add k (I.of .i64 1)).val.toNat) 4) = _ + _ * (U.val b1 % W64 ^ (I.add k (I.of .i64 1)).val.toNat)
        rw [skn,bmod,en,Nat.min_eq_left (by omega)]
        rw [Nat.min_eq_left (by omega)] at hinv
        exact mul_round hinv hprod (by unfold W64; omega) hs2' hcv hup
     ·
      have h:=niff_ltb.1 h
      simp only [c4] at h
      have hk:k.val.toNat = 4:=by omega
      rw [hk,Nat.min_eq_right (by omega),top_W,Nat.mod_eq_of_lt (U.lt b1)] at hinv
      have amod:=limb_mod a1 i1.val.toNat (by omega)
      have hA:U.val p + c.nat * U.top = (U.val a1 % W64 ^ (i1.val.toNat + 1)) * U.val b1:=by
       rw [hinv,amod,Nat.add_mul]
       congr 1
       simp only [Nat.mul_comm,Nat.mul_left_comm,Nat.mul_assoc]
      refine Wp.done ?_
      refine Wp.brn (fun h2=>?_) (fun h2=>?_)
      ·
       refine Wp.done (over ?_)
       have h2:=iff_neb.1 h2
       have h2:c.val ≠ (I.of .u64 0).val:=h2
       have z0:(I.of .u64 0).val = 0:=rfl
       have hc1:1 ≤ c.nat:=by have:=nat_val c; omega
       have h3:=mod_mul_le a1 b1 (W64 ^ (i1.val.toNat + 1))
       have h4:1 * U.top ≤ c.nat * U.top:=Nat.mul_le_mul_right _ hc1
       omega
      ·
       have h2:=niff_neb.1 h2
       have h2:c.val = (I.of .u64 0).val:=h2
       have z0:(I.of .u64 0).val = 0:=rfl
       have hc1:c.nat = 0:=by have:=nat_val c; omega
       rw [hc1,Nat.zero_mul,Nat.add_zero] at hA
       refine Wp.again ⟨?_,?_,rfl,rfl,?_⟩ ?_
       ·
        show 0 ≤ (I.add i1 (I.of .i64 1)).val; omega
       ·
        show (I.add i1 (I.of .i64 1)).val ≤ 4; omega
       ·
        show U.val p = U.val a1 % W64 ^ (I.add i1 (I.of .i64 1)).val.toNat * U.val b1
        rw [sin]; exact hA
       ·
        show (4 - (I.add i1 (I.of .i64 1)).val).toNat < (4 - i1.val).toNat
        omega
    ·
     refine ⟨rfl,rfl,by show 0 ≤ (I.of .i64 0).val; decide,by show (I.of .i64 0).val ≤ 4; decide,rfl,rfl,?_⟩
     show U.val p0 + (I.of .u64 0).nat * _ = _ + _ * (U.val b' % W64 ^ (I.of .i64 0).val.toNat)
     have e1:(I.of .u64 0).nat = 0:=rfl
     have e2:(I.of .i64 0).val.toNat = 0:=rfl
     rw [e1,e2,Nat.zero_mul,Nat.pow_zero,Nat.mod_one,Nat.mul_zero,hp]
    ·
     exact K0_ge _ (by show (4 - (I.of .i64 0).val).toNat < _; decide)
   ·
    have h:=niff_ltb.1 h
    simp only [c4] at h
    have hi:i.val.toNat = 4:=by omega
    rw [hi,top_W,Nat.mod_eq_of_lt (U.lt a')] at hp
    refine Wp.done ?_
    show some ((p0,I.of .i64 0,()),()) = _
    have hlt:U.val a' * U.val b' < U.top:=by rw [← hp]; exact U.lt p0
    rw [show errS (U.val a' * U.val b') = (U.of (U.val a' * U.val b'),I.of .i64 0) from if_pos hlt]
    have hU:p0 = U.of (U.val a' * U.val b'):=by
     have:=U.of_val p0
     rw [hp] at this
     exact this.symm
    exact congrArg (fun z:U=>some ((z,I.of .i64 0,()),())) hU
  ·
   refine ⟨by show 0 ≤ (I.of .i64 0).val; decide,by show (I.of .i64 0).val ≤ 4; decide,rfl,rfl,?_⟩
   show U.val (I.of .u64 0,I.of .u64 0,I.of .u64 0,I.of .u64 0,()) = (a.val % W64 ^ (I.of .i64 0).val.toNat) * b.val
   have e2:(I.of .i64 0).val.toNat = 0:=rfl
   rw [e2,Nat.pow_zero,Nat.mod_one,Nat.zero_mul]
   rfl
  ·
   exact K0_ge _ (by show (4 - (I.of .i64 0).val).toNat < _; decide)
 exact key.out
end Sym

/- Equality and order of 256 bits. -/
namespace Sym
open Go
theorem eqb_u256 (a b:U):Ty.eqb (.arr 4 (.int .u64)) a b = decide (a.val = b.val):=by
 by_cases h:a.val = b.val
 ·
  have:=U.ext h
  subst this
  simp [Ty.eqb,Arr.eqb]
 ·
  simp only [h,decide_false]
  cases hb:Ty.eqb (.arr 4 (.int .u64)) a b with
  | false=>rfl
  | true =>
   exfalso
   apply h
   obtain ⟨a0,a1,a2,a3,⟨⟩⟩:=a
   obtain ⟨b0,b1,b2,b3,⟨⟩⟩:=b
   simp only [Ty.eqb,Arr.eqb,Bool.and_eq_true,decide_eq_true_eq,and_true] at hb
   obtain ⟨h0,h1,h2,h3⟩:=hb
   rw [I.ext' h0,I.ext' h1,I.ext' h2,I.ext' h3]
end Sym

/- Quotients of 512 by 256 bits. -/
namespace Sym
open Go
theorem a1Y (x:I .u64):a0Q K0 ((x,()),()) = some ((u64U x,()),()):=rfl
theorem SatSub_ok (a b:U):uint256_SaturatingSub K0 ((a,b,()),()) = some ((U.of (a.val - b.val),()),()):=by
 refine Wp.out (T:=fun o=>o = _) ?_
 unfold uint256_SaturatingSub
 refine Wp.optF (uint256_Sub_eq a b) ?_
 unfold subS
 by_cases h:b.val ≤ a.val
 ·
  rw [if_pos h]; rfl
 ·
  rw [if_neg h,show a.val - b.val = 0 by omega]; rfl
theorem or_add (x y:I .u64) (n:Nat) (hy:y.nat < 2 ^ n) (hx:x.nat % 2 ^ n = 0):(I.or x y).nat = x.nat + y.nat:=by
 have h1:(BitVec.ofInt 64 x.val).toNat = x.nat:=by have:=u64_range x; rw [BitVec.toNat_ofInt]; unfold I.nat; omega
 have h2:(BitVec.ofInt 64 y.val).toNat = y.nat:=by have:=u64_range y; rw [BitVec.toNat_ofInt]; unfold I.nat; omega
 have h3:(BitVec.ofInt IntKind.u64.bits x.val ||| BitVec.ofInt IntKind.u64.bits y.val).toNat = x.nat ||| y.nat:=by
  show (BitVec.ofInt 64 x.val ||| BitVec.ofInt 64 y.val).toNat = _
  rw [BitVec.toNat_or,h1,h2]
 have hlt:x.nat ||| y.nat < 2 ^ 64:=Nat.or_lt_two_pow (a2B x) (a2B y)
 have h4:x.nat ||| y.nat = x.nat + y.nat:=by
  have e:x.nat = (x.nat / 2 ^ n) <<< n:=by
   rw [Nat.shiftLeft_eq]
   have:=Nat.div_add_mod x.nat (2 ^ n)
   rw [hx,Nat.add_zero,Nat.mul_comm] at this
   exact this.symm
  rw [e]
  exact (Nat.shiftLeft_add_eq_or_of_lt hy _).symm
 unfold I.or
 rw [h3,of_nat (by omega),h4]
theorem shl1_nat (x:I .u64):(I.shl x (I.of .u64 1)).nat = 2 * x.nat % W64:=by
 have h1:=nat_val x
 have hm:min (I.of .u64 1).val.toNat IntKind.u64.bits = 1:=rfl
 unfold I.shl
 rw [hm]
 show (IntKind.u64.wrap (x.val * 2 ^ 1)).toNat = _ % 18446744073709551616
 rw [wrap_u64]
 have:(2:Int) ^ 1 = 2:=by decide
 rw [this]
 omega
theorem shr63_nat (x:I .u64):(I.shr x (I.of .u64 63)).nat = x.nat / 9223372036854775808:=by
 have c:(I.of .u64 63).nat = 63:=rfl
 rw [shr_nat _ _ (by decide),c]
theorem K0_four':∃ k,K0 = k + 4:=⟨2 ^ 64 - 4,by rw [K0_eq]⟩
theorem sh_limb (x y:I .u64):(I.or (I.shl x (I.of .u64 1)) (I.shr y (I.of .u64 63))).nat = 2 * x.nat % W64 + y.nat / 9223372036854775808:=by
 have hy:=a2B y
 rw [or_add _ _ 1 (by rw [shr63_nat]; omega) (by rw [shl1_nat]; unfold W64; omega),shl1_nat,shr63_nat]
theorem shiftLeft_ok (a:U) (bit:I .u64) (hb:bit.nat ≤ 1):∃ (r:U) (o:I .u64),muldiv_shiftLeft K0 ((a,bit,()),()) = some ((r,o,()),())∧r.val + U.top * o.nat = 2 * a.val + bit.nat:=by
 obtain ⟨k,hk⟩:=K0_four'
 obtain ⟨a0,a1,a2,a3,⟨⟩⟩:=a
 refine ⟨(I.or (I.shl a0 (I.of .u64 1)) bit,I.or (I.shl a1 (I.of .u64 1)) (I.shr a0 (I.of .u64 63)),I.or (I.shl a2 (I.of .u64 1)) (I.shr a1 (I.of .u64 63)),I.or (I.shl a3 (I.of .u64 1)) (I.shr a2 (I.of .u64 63)),()),I.shr a3 (I.of .u64 63),?_,?_⟩
 ·
  refine Wp.out (T:=fun o=>o = _) ?_
  unfold muldiv_shiftLeft
  rw [hk]
  refine Wp.unroll (Wp.brnT rfl (Wp.brnT rfl (Wp.brnT rfl (Wp.brnT rfl (Wp.next ?_)))))
  refine Wp.unroll (Wp.brnT rfl (Wp.brnT rfl (Wp.brnT rfl (Wp.brnT rfl (Wp.next ?_)))))
  refine Wp.unroll (Wp.brnT rfl (Wp.brnT rfl (Wp.brnT rfl (Wp.brnT rfl (Wp.next ?_)))))
  refine Wp.unroll (Wp.brnF rfl (Wp.stop rfl))
 ·
  have n0:=a2B a0
  have n1:=a2B a1
  have n2:=a2B a2
  have n3:=a2B a3
  unfold U.val U.top
  simp only
  rw [sh_limb,sh_limb,sh_limb,shr63_nat,or_add _ _ 1 (by omega) (by rw [shl1_nat]; unfold W64; omega),shl1_nat]
  unfold W64
  omega
end Sym

/- Quotients of 512 by 256 bits: the loop. -/
namespace Sym
open Go
theorem K0_five:∃ k,K0 = k + 5:=⟨2 ^ 64 - 5,by rw [K0_eq]⟩
theorem subWrap_ok (a b:U):∃ (r:U) (q:Nat),muldiv_subWrap K0 ((a,b,()),()) = some ((r,()),())∧r.val + b.val = a.val + U.top * q∧q ≤ 1:=by
 obtain ⟨k,hk⟩:=K0_five
 obtain ⟨a0,a1,a2,a3,⟨⟩⟩:=a
 obtain ⟨b0,b1,b2,b3,⟨⟩⟩:=b
 obtain ⟨z0,q0,h0,e0,l0⟩:=sub64_nat a0 b0 (I.of .u64 0) (by decide)
 obtain ⟨z1,q1,h1,e1,l1⟩:=sub64_nat a1 b1 q0 l0
 obtain ⟨z2,q2,h2,e2,l2⟩:=sub64_nat a2 b2 q1 l1
 obtain ⟨z3,q3,h3,e3,l3⟩:=sub64_nat a3 b3 q2 l2
 refine ⟨(z0,z1,z2,z3,()),q3.nat,?_,?_,l3⟩
 ·
  refine Wp.out (T:=fun o=>o = _) ?_
  unfold muldiv_subWrap
  rw [hk]
  refine Wp.unroll (Wp.brnT rfl (Wp.brnT rfl (Wp.brnT rfl (Wp.optF h0 (Wp.brnT rfl (Wp.next ?_))))))
  refine Wp.unroll (Wp.brnT rfl (Wp.brnT rfl (Wp.brnT rfl (Wp.optF h1 (Wp.brnT rfl (Wp.next ?_))))))
  refine Wp.unroll (Wp.brnT rfl (Wp.brnT rfl (Wp.brnT rfl (Wp.optF h2 (Wp.brnT rfl (Wp.next ?_))))))
  refine Wp.unroll (Wp.brnT rfl (Wp.brnT rfl (Wp.brnT rfl (Wp.optF h3 (Wp.brnT rfl (Wp.next ?_))))))
  refine Wp.unroll (Wp.brnF rfl (Wp.stop rfl))
 ·
  have z:(I.of .u64 0).nat = 0:=rfl
  unfold U.val U.top
  simp only
  omega
theorem two_pow_W (i:Nat):2 ^ i = W64 ^ (i / 64) * 2 ^ (i % 64):=by
 have:W64 = 2 ^ 64:=by decide
 rw [this,← Nat.pow_mul,← Nat.pow_add]
 congr 1
 omega
theorem div_W (a:U) (k:Nat) (hk:k < 4):∃ Y,a.val / W64 ^ k = limb' a k + W64 * Y:=by
 obtain ⟨a0,a1,a2,a3,⟨⟩⟩:=a
 have n0:=a2B a0
 have n1:=a2B a1
 have n2:=a2B a2
 have n3:=a2B a3
 have p0:W64 ^ 0 = 1:=by decide
 have p1:W64 ^ 1 = 18446744073709551616:=by decide
 have p2:W64 ^ 2 = 340282366920938463463374607431768211456:=by decide
 have p3:W64 ^ 3 = 6277101735386680763835789423207666416102355444464034512896:=by decide
 have hc:k = 0 ∨ k = 1 ∨ k = 2 ∨ k = 3:=by omega
 rcases hc with rfl | rfl | rfl | rfl
 ·
  refine ⟨a1.nat + 18446744073709551616 * (a2.nat + 18446744073709551616 * a3.nat),?_⟩
  show U.val _ / W64 ^ 0 = a0.nat + 18446744073709551616 * _
  rw [p0]; unfold U.val; simp only; omega
 ·
  refine ⟨a2.nat + 18446744073709551616 * a3.nat,?_⟩
  show U.val _ / W64 ^ 1 = a1.nat + 18446744073709551616 * _
  rw [p1]; unfold U.val; simp only; omega
 ·
  refine ⟨a3.nat,?_⟩
  show U.val _ / W64 ^ 2 = a2.nat + 18446744073709551616 * _
  rw [p2]; unfold U.val; simp only; omega
 ·
  refine ⟨0,?_⟩
  show U.val _ / W64 ^ 3 = a3.nat + 18446744073709551616 * _
  rw [p3]; unfold U.val; simp only; omega
theorem bit_of (a:U) (i:Nat) (hi:i < 256):a.val / 2 ^ i % 2 = limb' a (i / 64) / 2 ^ (i % 64) % 2:=by
 obtain ⟨Y,hY⟩:=div_W a (i / 64) (by omega)
 rw [two_pow_W i,← Nat.div_div_eq_div_mul,hY]
 have e:W64 = 2 ^ (i % 64) * (2 * 2 ^ (63 - i % 64)):=by
  have:2 * 2 ^ (63 - i % 64) = 2 ^ (64 - i % 64):=by rw [show 64 - i % 64 = (63 - i % 64) + 1 by omega,Nat.pow_succ,Nat.mul_comm]
  rw [this,← Nat.pow_add,show i % 64 + (64 - i % 64) = 64 by omega]
 rw [e,Nat.mul_assoc,Nat.add_mul_div_left _ _ (Nat.pow_pos (by decide)),Nat.mul_assoc,Nat.add_mul_mod_self_left]
theorem shr_i64 (x:I .u64) (s:I .i64) (h0:0 ≤ s.val) (hs:s.val < 64):(I.shr x s).nat = x.nat / 2 ^ s.val.toNat:=by
 have hx:=u64_range x
 have hm:min s.val.toNat IntKind.u64.bits = s.val.toNat:=by
  have:IntKind.u64.bits = 64:=rfl
  omega
 unfold I.shr
 rw [hm,fdiv_pos _ _ hx.1]
 have h1:((x.nat / 2 ^ s.val.toNat:Nat):Int) = x.val / (2:Int) ^ s.val.toNat:=by
  rw [Int.natCast_ediv,nat_val]
  simp
 rw [← h1]
 have:=Nat.div_le_self x.nat (2 ^ s.val.toNat)
 have:=a2B x
 exact of_nat (by omega)
theorem shl_one_i64 (s:I .i64) (h0:0 ≤ s.val) (hs:s.val < 64):(I.shl (I.of .u64 1) s).nat = 2 ^ s.val.toNat:=by
 have hm:min s.val.toNat IntKind.u64.bits = s.val.toNat:=by
  have:IntKind.u64.bits = 64:=rfl
  omega
 have h1:(I.of .u64 1).val = 1:=rfl
 have h3:2 ^ s.val.toNat ≤ 2 ^ 63:=Nat.pow_le_pow_right (by decide) (by omega)
 have h4:((2 ^ s.val.toNat:Nat):Int) = 2 ^ s.val.toNat:=by simp
 unfold I.shl
 rw [hm,h1,Int.one_mul,← h4]
 exact of_nat (by omega)
theorem set_bit (q:U) (i:Nat) (hi:i < 256) (b:I .u64) (hb:b.nat = 2 ^ (i % 64)) (hq:q.val % 2 ^ (i + 1) = 0) :
  U.val (Arr.upd 4 q (i / 64) (I.or (Arr.sel (I.of .u64 0) 4 q (i / 64)) b)) = q.val + 2 ^ i:=by
 obtain ⟨Y,hY⟩:=div_W q (i / 64) (by omega)
 have hl:limb' q (i / 64) % 2 ^ (i % 64 + 1) = 0:=by
  obtain ⟨Q,hQ⟩:∃ Q,q.val = 2 ^ (i + 1) * Q:=⟨q.val / 2 ^ (i + 1),by have:=Nat.div_add_mod q.val (2 ^ (i + 1)); omega⟩
  have e1:q.val / W64 ^ (i / 64) = 2 ^ (i % 64 + 1) * Q:=by
   rw [hQ,Nat.pow_succ,two_pow_W i,Nat.mul_assoc,Nat.mul_assoc,Nat.mul_div_cancel_left _ (Nat.pow_pos (by decide)),Nat.pow_succ,Nat.mul_assoc]
  have e2:W64 = 2 ^ (i % 64 + 1) * 2 ^ (63 - i % 64):=by
   rw [← Nat.pow_add,show i % 64 + 1 + (63 - i % 64) = 64 by omega]
  rw [e1,e2,Nat.mul_assoc] at hY
  have e3:limb' q (i / 64) = 2 ^ (i % 64 + 1) * Q - 2 ^ (i % 64 + 1) * (2 ^ (63 - i % 64) * Y):=by omega
  rw [e3,← Nat.mul_sub]
  exact Nat.mul_mod_right _ _
 have hor:(I.or (Arr.sel (I.of .u64 0) 4 q (i / 64)) b).nat = limb' q (i / 64) + 2 ^ (i % 64):=by
  rw [or_add _ b (i % 64 + 1) (by rw [hb,Nat.pow_succ]; have:=Nat.pow_pos (a:=2) (n:=i % 64) (by decide); omega) hl,hb]
  rfl
 have hup:=upd_val q (i / 64) (I.or (Arr.sel (I.of .u64 0) 4 q (i / 64)) b) (by omega)
 rw [hor,Nat.mul_add,← two_pow_W] at hup
 omega
end Sym

/- Quotients of 512 by 256 bits: what they are. -/
namespace Sym
open Go
theorem top_two:U.top = 2 ^ 256:=by decide
theorem half (N i:Nat):N / 2 ^ i = 2 * (N / 2 ^ (i + 1)) + N / 2 ^ i % 2:=by
 rw [Nat.pow_succ,← Nat.div_div_eq_div_mul]
 omega
theorem low_bit (a b:Nat) (i:Nat) (hi:i < 256):(U.top * b + a) / 2 ^ i % 2 = a / 2 ^ i % 2:=by
 have e:U.top * b = 2 ^ i * (2 * (2 ^ (255 - i) * b)):=by
  have:U.top = 2 ^ i * (2 * 2 ^ (255 - i)):=by
   rw [top_two,← Nat.pow_succ',← Nat.pow_add,show i + (255 - i + 1) = 256 by omega]
  rw [this]
  simp only [Nat.mul_assoc]
 rw [e,Nat.mul_add_div (Nat.pow_pos (by decide)),Nat.mul_add_mod]
structure DivInv (N c t:Nat) (q r:U):Prop where
 eq:N / 2 ^ t = q.val / 2 ^ t * c + r.val
 lt:r.val < c
 low:q.val % 2 ^ t = 0
theorem div_round {N c i:Nat} {q r q' r':U} (h:DivInv N c (i + 1) q r) (bit d:Nat) (hb:N / 2 ^ i % 2 = bit) (hd:d ≤ 1) (hq:q'.val = q.val + d * 2 ^ i) (hr:2 * r.val + bit = d * c + r'.val) (hlt:r'.val < c):DivInv N c i q' r':=by
 have h1:=half N i
 have e1:q.val / 2 ^ i = 2 * (q.val / 2 ^ (i + 1)):=by
  have:=half q.val i
  have h2:q.val / 2 ^ i % 2 = 0:=by
   have h3:=h.low
   rw [Nat.pow_succ] at h3
   have h4:=Nat.mod_mul (x:=q.val) (a:=2 ^ i) (b:=2)
   rw [h3] at h4
   have h5:0 < 2 ^ i:=Nat.pow_pos (by decide)
   rcases Nat.eq_zero_or_pos (q.val / 2 ^ i % 2) with h6 | h6
   ·
    exact h6
   ·
    have:2 ^ i * 1 ≤ 2 ^ i * (q.val / 2 ^ i % 2):=Nat.mul_le_mul_left _ h6
    omega
  omega
 have e2:q.val % 2 ^ i = 0:=by
  have h3:=h.low
  rw [Nat.pow_succ] at h3
  have h4:=Nat.mod_mul (x:=q.val) (a:=2 ^ i) (b:=2)
  omega
 have e3:q'.val / 2 ^ i = q.val / 2 ^ i + d:=by rw [hq,Nat.add_mul_div_right _ _ (Nat.pow_pos (by decide))]
 refine ⟨?_,hlt,?_⟩
 ·
  rw [h1,h.eq,hb,e3,e1,Nat.add_mul,Nat.mul_add,Nat.mul_assoc]
  omega
 ·
  rw [hq,Nat.add_mul_mod_self_right]; exact e2
theorem Div512_loop (a b c:U) (hbc:b.val < c.val):muldiv_Div512 K0 ((a,b,c,()),()) = some ((U.of ((U.top * b.val + a.val) / c.val),U.of ((U.top * b.val + a.val) % c.val),I.of .i64 0,()),()):=by
 have c0:(I.of .i64 0).val = 0:=rfl
 have c1:(I.of .i64 1).val = 1:=rfl
 have c64:(I.of .i64 64).val = 64:=rfl
 have hct:=U.lt c
 have key:Wp (fun o=>o = some ((U.of ((U.top * b.val + a.val) / c.val),U.of ((U.top * b.val + a.val) % c.val),I.of .i64 0,()),())) (muldiv_Div512 K0 ((a,b,c,()),())):=by
  unfold muldiv_Div512
  refine Wp.brnF ?_ ?_
  ·
   refine (eqb_u256 c _).trans (decide_eq_false ?_)
   intro hh
   have hh:c.val = 0:=hh
   omega
  refine Wp.optF (uint256_Cmp_eq b c) ?_
  refine Wp.brnF ?_ ?_
  ·
   show I.leb (I.of .i64 0) (cmpS b c) = false
   unfold cmpS
   rw [if_pos hbc]; rfl
  refine Wp.iter (fun x=>-1 ≤ x.1.1.val∧x.1.1.val ≤ 255∧x.2.1 = a∧x.2.2.1 = c∧DivInv (U.top * b.val + a.val) c.val (x.1.1.val + 1).toNat x.2.2.2.1 x.2.2.2.2.1) (fun x=>(x.1.1.val + 1).toNat) ?_ ?_ ?_
  ·
   rintro ⟨⟨i,⟨⟩⟩,a',c',q,r,⟨⟩⟩ ⟨hi0,hi1,e1,e2,hinv⟩
   simp only at hi0 hi1 e1 e2 hinv
   subst e1 e2
   refine Wp.brn (fun h=>?_) (fun h=>?_)
   ·
    have hge:=iff_leb.1 h
    simp only [c0] at hge
    clear h
    have ht:(i.val + 1).toNat = i.val.toNat + 1:=by omega
    rw [ht] at hinv
    have hq4:(I.quo i (I.of .i64 64)).val = i.val / 64:=quo_i64 hge (by decide)
    have hr4:(I.rem i (I.of .i64 64)).val = i.val % 64:=rem_i64 hge (by decide)
    have hin:inB (I.quo i (I.of .i64 64)) 4 = true:=iff_inB.2 ⟨by omega,by omega⟩
    have hnn:I.nn (I.rem i (I.of .i64 64)) = true:=iff_nn.2 (by omega)
    have hs:(I.sub i (I.of .i64 1)).val = i.val - 1:=by rw [sub_i64 (by omega)]; omega
    have hs1:((I.sub i (I.of .i64 1)).val + 1).toNat = i.val.toNat:=by omega
    have hm:((I.sub i (I.of .i64 1)).val + 1).toNat < (i.val + 1).toNat:=by omega
    have en:I.nat (I.quo i (I.of .i64 64)) = i.val.toNat / 64:=by unfold I.nat; omega
    have er:(I.rem i (I.of .i64 64)).val.toNat = i.val.toNat % 64:=by omega
    refine Wp.brnT hin (Wp.brnT hnn ?_)
    have hbit:(I.and (I.shr (Arr.sel (I.of .u64 0) 4 a' (I.nat (I.quo i (I.of .i64 64)))) (I.rem i (I.of .i64 64))) (I.of .u64 1)).nat = (U.top * b.val + U.val a') / 2 ^ i.val.toNat % 2:=by
     rw [and_low _ 1 _ (by decide) (by decide),shr_i64 _ _ (by omega) (by omega),er,en,low_bit _ _ _ (by omega),bit_of a' i.val.toNat (by omega)]
     rfl
    obtain ⟨r1,o,hsh,hsum⟩:=shiftLeft_ok r (I.and (I.shr (Arr.sel (I.of .u64 0) 4 a' (I.nat (I.quo i (I.of .i64 64)))) (I.rem i (I.of .i64 64))) (I.of .u64 1)) (by rw [hbit]; omega)
    rw [hbit] at hsum
    refine Wp.optF hsh ?_
    have hlt:=hinv.lt
    have hr1:=U.lt r1
    have hc1:U.val c' < U.top:=U.lt c'
    have setb:U.val (Arr.upd 4 q (I.nat (I.quo i (I.of .i64 64))) (I.or (Arr.sel (I.of .u64 0) 4 q (I.nat (I.quo i (I.of .i64 64)))) (I.shl (I.of .u64 1) (I.rem i (I.of .i64 64))))) = U.val q + 1 * 2 ^ i.val.toNat:=by
     rw [en,Nat.one_mul]
     exact set_bit q i.val.toNat (by omega) _ (by rw [shl_one_i64 _ (by omega) (by omega),er]) hinv.low
    generalize hB:(U.top * b.val + U.val a') / 2 ^ i.val.toNat % 2 = bit at hsum
    have hB1:bit ≤ 1:=by omega
    have ho:o.nat = 0 ∨ o.nat = 1:=by
     rcases Nat.lt_or_ge o.nat 2 with h1 | h1
     ·
      omega
     ·
      exfalso
      have:U.top * 2 ≤ U.top * o.nat:=Nat.mul_le_mul_left _ h1
      omega
    refine Wp.brn (fun h=>?_) (fun h=>?_)
    ·
     have h:=iff_eqb.1 h
     have h:o.val = (I.of .u64 1).val:=h
     have z1:(I.of .u64 1).val = 1:=rfl
     have ho1:o.nat = 1:=by have:=nat_val o; omega
     rw [ho1,Nat.mul_one] at hsum
     obtain ⟨r2,qq,hsub,hsv,hqq⟩:=subWrap_ok r1 c'
     refine Wp.optF hsub ?_
     refine Wp.brnT hin (Wp.brnT hnn (Wp.brnT hin ?_))
     have hr2:=U.lt r2
     have hqq1:qq = 1:=by
      rcases Nat.lt_or_ge qq 1 with h1 | h1
      ·
       exfalso
       have:qq = 0:=by omega
       rw [this,Nat.mul_zero] at hsv
       omega
      ·
       omega
     rw [hqq1,Nat.mul_one] at hsv
     refine Wp.again ⟨?_,?_,rfl,rfl,?_⟩ hm
     ·
      show -1 ≤ (I.sub i (I.of .i64 1)).val; omega
     ·
      show (I.sub i (I.of .i64 1)).val ≤ 255; omega
     ·
      show DivInv _ _ ((I.sub i (I.of .i64 1)).val + 1).toNat _ r2
      rw [hs1]
      exact div_round (r':=r2) hinv bit 1 hB (Nat.le_refl _) setb (by omega) (by omega)
    ·
     have h:=niff_eqb.1 h
     have h:o.val ≠ (I.of .u64 1).val:=h
     have z1:(I.of .u64 1).val = 1:=rfl
     have ho0:o.nat = 0:=by have:=nat_val o; omega
     rw [ho0,Nat.mul_zero,Nat.add_zero] at hsum
     refine Wp.optF (uint256_Cmp_eq r1 c') ?_
     by_cases hcmp:U.val r1 < U.val c'
     ·
      refine Wp.brnF ?_ ?_
      ·
       show I.leb (I.of .i64 0) (cmpS r1 c') = false
       unfold cmpS
       rw [if_pos hcmp]; rfl
      refine Wp.again ⟨?_,?_,rfl,rfl,?_⟩ hm
      ·
       show -1 ≤ (I.sub i (I.of .i64 1)).val; omega
      ·
       show (I.sub i (I.of .i64 1)).val ≤ 255; omega
      ·
       show DivInv _ _ ((I.sub i (I.of .i64 1)).val + 1).toNat q r1
       rw [hs1]
       exact div_round hinv bit 0 hB (by omega) (by omega) (by omega) hcmp
     ·
      refine Wp.brnT ?_ ?_
      ·
       show I.leb (I.of .i64 0) (cmpS r1 c') = true
       unfold cmpS
       rw [if_neg hcmp]
       split <;> rfl
      obtain ⟨r2,qq,hsub,hsv,hqq⟩:=subWrap_ok r1 c'
      refine Wp.optF hsub ?_
      refine Wp.brnT hin (Wp.brnT hnn (Wp.brnT hin ?_))
      have hr2:=U.lt r2
      have hqq0:qq = 0:=by
       rcases Nat.lt_or_ge qq 1 with h1 | h1
       ·
        omega
       ·
        exfalso
        have:qq = 1:=by omega
        rw [this,Nat.mul_one] at hsv
        omega
      rw [hqq0,Nat.mul_zero,Nat.add_zero] at hsv
      refine Wp.again ⟨?_,?_,rfl,rfl,?_⟩ hm
      ·
       show -1 ≤ (I.sub i (I.of .i64 1)).val; omega
      ·
       show (I.sub i (I.of .i64 1)).val ≤ 255; omega
      ·
       show DivInv _ _ ((I.sub i (I.of .i64 1)).val + 1).toNat _ r2
       rw [hs1]
       exact div_round (r':=r2) hinv bit 1 hB (Nat.le_refl _) setb (by omega) (by omega)
   ·
    have h:=niff_leb.1 h
    simp only [c0] at h
    have ht:(i.val + 1).toNat = 0:=by omega
    rw [ht] at hinv
    have heq:=hinv.eq
    simp only [Nat.pow_zero,Nat.div_one] at heq
    have hlt:=hinv.lt
    refine Wp.done ?_
    show some ((q,r,I.of .i64 0,()),()) = _
    have eq:(U.top * b.val + U.val a') / U.val c' = U.val q:=by
     rw [heq,Nat.mul_comm,Nat.mul_add_div (by omega),Nat.div_eq_of_lt hlt,Nat.add_zero]
    have er:(U.top * b.val + U.val a') % U.val c' = U.val r:=by
     rw [heq,Nat.mul_comm,Nat.mul_add_mod,Nat.mod_eq_of_lt hlt]
    have hq:q = U.of ((U.top * b.val + U.val a') / U.val c'):=by rw [eq]; exact (U.of_val q).symm
    have hr:r = U.of ((U.top * b.val + U.val a') % U.val c'):=by rw [er]; exact (U.of_val r).symm
    exact (congrArg (fun z:U=>some ((z,r,I.of .i64 0,()),())) hq).trans (congrArg (fun z:U=>some ((U.of ((U.top * b.val + U.val a') / U.val c'),z,I.of .i64 0,()),())) hr)
  ·
   refine ⟨by show -1 ≤ (I.of .i64 255).val; decide,by show (I.of .i64 255).val ≤ 255; decide,rfl,rfl,?_⟩
   show DivInv _ _ ((I.of .i64 255).val + 1).toNat (I.of .u64 0,I.of .u64 0,I.of .u64 0,I.of .u64 0,()) b
   have e:((I.of .i64 255).val + 1).toNat = 256:=rfl
   have ha:=U.lt a
   rw [e]
   refine ⟨?_,hbc,rfl⟩
   have z:U.val (I.of .u64 0,I.of .u64 0,I.of .u64 0,I.of .u64 0,()) = 0:=rfl
   rw [z,← top_two,Nat.zero_div,Nat.zero_mul,Nat.zero_add,Nat.mul_add_div (by decide),Nat.div_eq_of_lt ha,Nat.add_zero]
  ·
   exact K0_ge _ (by show ((I.of .i64 255).val + 1).toNat < _; decide)
 exact key.out
def divModS (a c:U):U × U × I .i64:=if c.val = 0 then (U.of 0,U.of 0,I.of .i64 5) else (U.of (a.val / c.val),U.of (a.val % c.val),I.of .i64 0)
theorem DivMod_ok (a c:U):muldiv_DivMod K0 ((a,c,()),()) = some (((divModS a c).1,(divModS a c).2.1,(divModS a c).2.2,()),()):=by
 refine Wp.out (T:=fun o=>o = _) ?_
 unfold muldiv_DivMod divModS
 by_cases h:c.val = 0
 ·
  rw [if_pos h]
  refine Wp.optF (y:=((U.of 0,U.of 0,I.of .i64 5,()),())) ?_ rfl
  refine Wp.out (T:=fun o=>o = _) ?_
  unfold muldiv_Div512
  refine Wp.brnT ?_ rfl
  exact (eqb_u256 c _).trans (decide_eq_true h)
 ·
  rw [if_neg h]
  have hz:U.val (U.of 0) = 0:=rfl
  have:=Div512_loop a (U.of 0) c (by omega)
  rw [hz,Nat.mul_zero,Nat.zero_add] at this
  exact Wp.optF this rfl
end Sym

/- The law of the gas price's bounds, of the plain functions. -/
namespace Sym
open Go
def minS (a b:U):U:=if b.val < a.val then b else a
theorem K0_two:∃ k,K0 = k + 2:=⟨2 ^ 64 - 2,by rw [K0_eq]⟩
theorem uint256_Min_eq (a b:U):uint256_Min K0 ((a,[b],()),()) = some ((minS a b,()),()):=by
 obtain ⟨k,hk⟩:=K0_two
 refine Wp.out (T:=fun o=>o = some ((minS a b,()),())) ?_
 unfold uint256_Min
 rw [hk]
 refine Wp.unroll ?_
 refine Wp.brnT rfl ?_
 refine Wp.brnT rfl ?_
 refine Wp.optF (uint256_Cmp_eq b a) ?_
 unfold cmpS minS
 by_cases h:b.val < a.val
 ·
  rw [if_pos h,if_pos h]
  refine Wp.brnT rfl ?_
  refine Wp.next (Wp.unroll ?_)
  refine Wp.brnF rfl ?_
  exact rfl
 ·
  rw [if_neg h,if_neg h]
  refine Wp.brnF ?_ ?_
  ·
   split <;> rfl
  ·
   refine Wp.next (Wp.unroll ?_)
   refine Wp.brnF rfl ?_
   exact rfl
def gasS (t:U × U) (base:U):U × I .i64 :=
 if base.val ≤ t.1.val then (U.of (base.val + min t.2.val (t.1.val - base.val)),I.of .i64 0) else (U.of 0,I.of .i64 12)
theorem neb00:I.neb (I.of .i64 0) (I.of .i64 0) = false:=rfl
theorem neb40:I.neb (I.of .i64 4) (I.of .i64 0) = true:=rfl
theorem minS_val (a b:U):(minS a b).val = min a.val b.val:=by
 unfold minS
 split <;> omega
theorem txfee_GasPrice_eq (f1 f2 f3 f5 f8 f9) (v c t base:U):txfee_GasPrice K0 (((f1,f2,f3,v,f5,c,t,f8,f9,()),base,()),()) = some (((gasS (c,t) base).1,(gasS (c,t) base).2,()),()):=by
 refine Wp.out (T:=fun o=>o = some (((gasS (c,t) base).1,(gasS (c,t) base).2,()),())) ?_
 unfold txfee_GasPrice gasS
 refine Wp.optF (uint256_Sub_eq c base) ?_
 unfold subS
 by_cases h:base.val ≤ c.val
 ·
  have hc:=c.lt
  rw [if_pos h,if_pos h]
  refine Wp.brnF rfl ?_
  refine Wp.optF (uint256_Min_eq t _) ?_
  refine Wp.optF (uint256_Add_eq base _) ?_
  have e:(minS t (U.of (c.val - base.val))).val = min t.val (c.val - base.val):=by
   rw [minS_val,U.val_of (by omega)]
  have h2:base.val + min t.val (c.val - base.val) < U.top:=by omega
  show _ = _
  dsimp only
  have h3:addS base (minS t (U.of (c.val - base.val))) = (U.of (base.val + min t.val (c.val - base.val)),I.of .i64 0):=by
   unfold addS
   rw [e,if_pos h2]
  rw [h3]
  rfl
 ·
  rw [if_neg h,if_neg h]
  refine Wp.brnT rfl ?_
  rfl
end Sym

/- The law of the charge's total. -/
namespace Sym
open Go
theorem errS_lt {n:Nat} (h:n < U.top):errS n = (U.of n,I.of .i64 0):=if_pos h
theorem errS_ge {n:Nat} (h:U.top ≤ n):errS n = (U.of 0,I.of .i64 4):=if_neg (by omega)
theorem Add_errS (a b:U):uint256_Add ((a,b,()),()) = some (((errS (a.val + b.val)).1,(errS (a.val + b.val)).2,()),()):=uint256_Add_eq a b
theorem Add_errS' {m:Nat} (h:m < U.top) (b:U):uint256_Add ((U.of m,b,()),()) = some (((errS (m + b.val)).1,(errS (m + b.val)).2,()),()):=by
 have:=Add_errS (U.of m) b
 rw [U.val_of h] at this
 exact this
end Sym

/- Products of 512 bits and shares of them. -/
namespace Sym
open Go
def av:(n:Nat)→Arr (I .u64) n→Nat
 | 0,_=>0
 | n + 1,x=>x.1.nat + W64 * av n x.2
def lb (n:Nat) (x:Arr (I .u64) n) (i:Nat):Nat:=(Arr.sel (I.of .u64 0) n x i).nat
theorem av_upd:∀ (n:Nat) (x:Arr (I .u64) n) (i:Nat) (z:I .u64),i < n→av n (Arr.upd n x i z) + W64 ^ i * lb n x i = av n x + W64 ^ i * z.nat
 | 0,_,i,_,h=>by omega
 | n + 1,x,0,z,_=>by
  show z.nat + W64 * av n x.2 + W64 ^ 0 * x.1.nat = x.1.nat + W64 * av n x.2 + W64 ^ 0 * z.nat
  rw [Nat.pow_zero]; omega
 | n + 1,x,i + 1,z,h=>by
  have ih:=av_upd n x.2 i z (by omega)
  show x.1.nat + W64 * av n (Arr.upd n x.2 i z) + W64 ^ (i + 1) * lb n x.2 i = x.1.nat + W64 * av n x.2 + W64 ^ (i + 1) * z.nat
  rw [Nat.pow_succ,Nat.mul_comm (W64 ^ i) W64,Nat.mul_assoc,Nat.mul_assoc,Nat.add_assoc,← Nat.mul_add,ih,Nat.mul_add,← Nat.add_assoc]
theorem lb_upd:∀ (n:Nat) (x:Arr (I .u64) n) (i j:Nat) (z:I .u64),i ≠ j→lb n (Arr.upd n x i z) j = lb n x j
 | 0,_,_,_,_,_=>rfl
 | n + 1,x,0,0,z,h=>absurd rfl h
 | n + 1,x,0,j + 1,z,h=>rfl
 | n + 1,x,i + 1,0,z,h=>rfl
 | n + 1,x,i + 1,j + 1,z,h=>lb_upd n x.2 i j z (by omega)
theorem lb_lt (n:Nat) (x:Arr (I .u64) n) (i:Nat):lb n x i < W64:=a2B _
abbrev A8:Type:=I .u64 × I .u64 × I .u64 × I .u64 × I .u64 × I .u64 × I .u64 × I .u64 × Unit
def lo4 (p:A8):U:=Arr.ofList (I.of .u64 0) 4 (subL (Arr.list 8 p) 0 4)
def hi4 (p:A8):U:=Arr.ofList (I.of .u64 0) 4 (subL (Arr.list 8 p) 4 4)
theorem split8 (p:A8):U.val (lo4 p) + U.top * U.val (hi4 p) = av 8 p:=by
 obtain ⟨p0,p1,p2,p3,p4,p5,p6,p7,⟨⟩⟩:=p
 show U.val (p0,p1,p2,p3,()) + U.top * U.val (p4,p5,p6,p7,()) = p0.nat + W64 * (p1.nat + W64 * (p2.nat + W64 * (p3.nat + W64 * (p4.nat + W64 * (p5.nat + W64 * (p6.nat + W64 * (p7.nat + W64 * 0)))))))
 unfold U.val U.top W64
 simp only
 omega
set_option maxHeartbeats 2000000 in
theorem Mul512_ok (a b:U):∃ l h:U,muldiv_Mul K0 ((a,b,()),()) = some ((l,h,()),())∧l.val + U.top * h.val = a.val * b.val:=by
 have c0:(I.of .i64 0).val = 0:=rfl
 have c1:(I.of .i64 1).val = 1:=rfl
 have c4:(I.of .i64 4).val = 4:=rfl
 have key:Wp (fun o=>∃ l h:U,o = some ((l,h,()),())∧l.val + U.top * h.val = a.val * b.val) (muldiv_Mul K0 ((a,b,()),())):=by
  unfold muldiv_Mul
  refine Wp.iter (fun x=>0 ≤ x.1.1.val∧x.1.1.val ≤ 4∧x.2.1 = a∧x.2.2.1 = b∧av 8 x.2.2.2.2.2.1 = (a.val % W64 ^ x.1.1.val.toNat) * b.val∧∀ j,x.1.1.val.toNat + 4 ≤ j→j < 8→lb 8 x.2.2.2.2.2.1 j = 0) (fun x=>(4 - x.1.1.val).toNat) ?_ ?_ ?_
  ·
   rintro ⟨⟨i,⟨⟩⟩,a',b',l0,h0,p0,⟨⟩⟩ ⟨hi0,hi1,e1,e2,hp,hz⟩
   simp only at hi0 hi1 e1 e2 hp hz
   subst e1 e2
   refine Wp.brn (fun h=>?_) (fun h=>?_)
   ·
    have hlt:=iff_ltb.1 h
    simp only [c4] at hlt
    clear h
    have si:(I.add i (I.of .i64 1)).val = i.val + 1:=by rw [add_i64 (by omega)]; omega
    have sin:(I.add i (I.of .i64 1)).val.toNat = i.val.toNat + 1:=by omega
    have ini:inB i 4 = true:=iff_inB.2 ⟨hi0,by omega⟩
    refine Wp.iter (fun x=>x.1.1 = i∧x.1.2.2.1 = i∧0 ≤ x.1.2.2.2.1.val∧x.1.2.2.2.1.val ≤ 4∧x.2.1 = a'∧x.2.2.1 = b' ∧
     av 8 x.2.2.2.2.2.1 + I.nat (k:=.u64) x.1.2.1 * W64 ^ (i.val.toNat + x.1.2.2.2.1.val.toNat) = (U.val a' % W64 ^ i.val.toNat) * U.val b' + limb' a' i.val.toNat * W64 ^ i.val.toNat * (U.val b' % W64 ^ x.1.2.2.2.1.val.toNat) ∧
     ∀ j,i.val.toNat + 4 ≤ j→j < 8→lb 8 x.2.2.2.2.2.1 j = 0) (fun x=>(4 - x.1.2.2.2.1.val).toNat) ?_ ?_ ?_
    ·
     rintro ⟨⟨i2,c,i1,k,⟨⟩⟩,a1,b1,l1,h1,p,⟨⟩⟩ ⟨e1,e2,hk0,hk1,e3,e4,hinv,hz1⟩
     simp only at e1 e2 hk0 hk1 e3 e4 hinv hz1
     subst e1 e2 e3 e4
     refine Wp.brn (fun h=>?_) (fun h=>?_)
     ·
      have hkl:=iff_ltb.1 h
      simp only [c4] at hkl
      clear h
      have sk:(I.add k (I.of .i64 1)).val = k.val + 1:=by rw [add_i64 (by omega)]; omega
      have skn:(I.add k (I.of .i64 1)).val.toNat = k.val.toNat + 1:=by omega
      have sik:(I.add i1 k).val = i1.val + k.val:=add_i64 (by omega)
      have hm:(4 - (I.add k (I.of .i64 1)).val).toNat < (4 - k.val).toNat:=by omega
      have bmod:=limb_mod b1 k.val.toNat (by omega)
      refine Wp.brnT ini (Wp.brnT (iff_inB.2 ⟨hk0,by show k.val < ((4:Nat):Int); omega⟩) ?_)
      obtain ⟨hi,lo,hmul,hprod⟩:=Mul64_ok (Arr.sel (I.of .u64 0) 4 a1 (I.nat i1)) (Arr.sel (I.of .u64 0) 4 b1 (I.nat k))
      have hprod:lo.nat + W64 * hi.nat = limb' a1 i1.val.toNat * limb' b1 k.val.toNat:=hprod
      refine Wp.optF hmul ?_
      have inik:inB (I.add i1 k) 8 = true:=iff_inB.2 ⟨by omega,by omega⟩
      obtain ⟨z1,q1,ha1,hs1,hq1⟩:=add64_nat lo c (I.of .u64 0) (by decide)
      refine Wp.optF ha1 ?_
      refine Wp.brnT inik ?_
      obtain ⟨z2,q2,ha2,hs2,hq2⟩:=add64_nat (Arr.sel (I.of .u64 0) 8 p (I.nat (I.add i1 k))) z1 (I.of .u64 0) (by decide)
      refine Wp.optF ha2 ?_
      refine Wp.brnT inik ?_
      have z0:(I.of .u64 0).nat = 0:=rfl
      have en:I.nat (I.add i1 k) = i1.val.toNat + k.val.toNat:=by unfold I.nat; omega
      have hup:=av_upd 8 p (i1.val.toNat + k.val.toNat) z2 (by omega)
      have hs2':z2.nat + W64 * q2.nat = lb 8 p (i1.val.toNat + k.val.toNat) + z1.nat:=by
       have:(Arr.sel (I.of .u64 0) 8 p (I.nat (I.add i1 k))).nat = lb 8 p (i1.val.toNat + k.val.toNat):=by rw [en]; rfl
       unfold W64
       omega
      have hcv:(I.add (I.add hi q1) q2).nat = hi.nat + q1.nat + q2.nat:=by
       have l1:=limb_lt a1 i1.val.toNat
       have l2:=limb_lt b1 k.val.toNat
       have l3:=lb_lt 8 p (i1.val.toNat + k.val.toNat)
       have l4:=a2B c
       have l5:limb' a1 i1.val.toNat * limb' b1 k.val.toNat ≤ (W64 - 1) * (W64 - 1):=Nat.mul_le_mul (by omega) (by omega)
       rw [add_nat,add_nat]
       unfold W64 at *
       omega
      refine Wp.again ⟨rfl,rfl,?_,?_,rfl,rfl,?_,?_⟩ hm
      ·
       show 0 ≤ (I.add k (I.of .i64 1)).val; omega
      ·
       show (I.add k (I.of .i64 1)).val ≤ 4; omega
      ·
       show av 8 (Arr.upd 8 p (I.nat (I.add i1 k)) z2) + (I.add (I.add hi q1) q2).nat * W64 ^ (i1.val.toNat + (I.add k (I.of .i64 1)).val.toNat) = _ + _ * (U.val b1 % W64 ^ (I.add k (I.of .i64 1)).val.toNat)
       rw [skn,bmod,en]
       exact mul_round hinv hprod (by unfold W64; omega) hs2' hcv hup
      ·
       intro j hj1 hj2
       show lb 8 (Arr.upd 8 p (I.nat (I.add i1 k)) z2) j = 0
       rw [en,lb_upd 8 p _ j z2 (by omega)]
       exact hz1 j hj1 hj2
     ·
      have h:=niff_ltb.1 h
      simp only [c4] at h
      have hk:k.val.toNat = 4:=by omega
      rw [hk,top_W,Nat.mod_eq_of_lt (U.lt b1)] at hinv
      have amod:=limb_mod a1 i1.val.toNat (by omega)
      have si4:(I.add i1 (I.of .i64 4)).val = i1.val + 4:=by rw [add_i64 (by omega)]; omega
      have en:I.nat (I.add i1 (I.of .i64 4)) = i1.val.toNat + 4:=by unfold I.nat; omega
      have hup:=av_upd 8 p (i1.val.toNat + 4) c (by omega)
      rw [hz1 _ (Nat.le_refl _) (by omega),Nat.mul_zero,Nat.add_zero] at hup
      refine Wp.done ?_
      have in8:inB (I.add i1 (I.of .i64 4)) 8 = true:=iff_inB.2 ⟨by omega,by omega⟩
      refine Wp.brnT in8 ?_
      refine Wp.again ⟨?_,?_,rfl,rfl,?_,?_⟩ ?_
      ·
       show 0 ≤ (I.add i1 (I.of .i64 1)).val; omega
      ·
       show (I.add i1 (I.of .i64 1)).val ≤ 4; omega
      ·
       show av 8 (Arr.upd 8 p (I.nat (I.add i1 (I.of .i64 4))) c) = U.val a1 % W64 ^ (I.add i1 (I.of .i64 1)).val.toNat * U.val b1
       rw [en,hup,sin,Nat.mul_comm (W64 ^ _) c.nat,hinv,amod,Nat.add_mul]
       congr 1
       simp only [Nat.mul_comm,Nat.mul_left_comm,Nat.mul_assoc]
      ·
       intro j hj1 hj2
       replace hj1:(I.add i1 (I.of .i64 1)).val.toNat + 4 ≤ j:=hj1
       show lb 8 (Arr.upd 8 p (I.nat (I.add i1 (I.of .i64 4))) c) j = 0
       rw [en,lb_upd 8 p _ j c (by omega)]
       exact hz1 j (by omega) hj2
      ·
       show (4 - (I.add i1 (I.of .i64 1)).val).toNat < (4 - i1.val).toNat
       omega
    ·
     refine ⟨rfl,rfl,by show 0 ≤ (I.of .i64 0).val; decide,by show (I.of .i64 0).val ≤ 4; decide,rfl,rfl,?_,hz⟩
     show av 8 p0 + (I.of .u64 0).nat * _ = _ + _ * (U.val b' % W64 ^ (I.of .i64 0).val.toNat)
     have e1:(I.of .u64 0).nat = 0:=rfl
     have e2:(I.of .i64 0).val.toNat = 0:=rfl
     rw [e1,e2,Nat.zero_mul,Nat.pow_zero,Nat.mod_one,Nat.mul_zero,hp]
    ·
     exact K0_ge _ (by show (4 - (I.of .i64 0).val).toNat < _; decide)
   ·
    have h:=niff_ltb.1 h
    simp only [c4] at h
    have hi:i.val.toNat = 4:=by omega
    rw [hi,top_W,Nat.mod_eq_of_lt (U.lt a')] at hp
    refine Wp.done ?_
    exact ⟨lo4 p0,hi4 p0,rfl,(split8 p0).trans hp⟩
  ·
   refine ⟨by show 0 ≤ (I.of .i64 0).val; decide,by show (I.of .i64 0).val ≤ 4; decide,rfl,rfl,?_,?_⟩
   ·
    show av 8 (I.of .u64 0,I.of .u64 0,I.of .u64 0,I.of .u64 0,I.of .u64 0,I.of .u64 0,I.of .u64 0,I.of .u64 0,()) = (a.val % W64 ^ (I.of .i64 0).val.toNat) * b.val
    have e2:(I.of .i64 0).val.toNat = 0:=rfl
    rw [e2,Nat.pow_zero,Nat.mod_one,Nat.zero_mul]
    rfl
   ·
    intro j hj1 hj2
    show lb 8 (I.of .u64 0,I.of .u64 0,I.of .u64 0,I.of .u64 0,I.of .u64 0,I.of .u64 0,I.of .u64 0,I.of .u64 0,()) j = 0
    match j,hj2 with
    | 0,_=>rfl
    | 1,_=>rfl
    | 2,_=>rfl
    | 3,_=>rfl
    | 4,_=>rfl
    | 5,_=>rfl
    | 6,_=>rfl
    | 7,_=>rfl
    | j + 8,h=>omega
  ·
   exact K0_ge _ (by show (4 - (I.of .i64 0).val).toNat < _; decide)
 exact key.out
theorem MulDiv_ok (a b c:U) (hc:c.val ≠ 0) (hb:b.val ≤ c.val):muldiv_MulDivFloor K0 ((a,b,c,()),()) = some ((U.of (a.val * b.val / c.val),I.of .i64 0,()),()):=by
 have key:Wp (fun o=>o = some ((U.of (a.val * b.val / c.val),I.of .i64 0,()),())) (muldiv_MulDivFloor K0 ((a,b,c,()),())):=by
  unfold muldiv_MulDivFloor
  obtain ⟨l,h,hm,hv⟩:=Mul512_ok a b
  refine Wp.optF hm ?_
  have hlt:h.val < c.val:=by
   have h1:a.val * b.val ≤ a.val * c.val:=Nat.mul_le_mul_left _ hb
   have h2:a.val * c.val < U.top * c.val:=Nat.mul_lt_mul_of_pos_right a.lt (by omega)
   have h3:U.top * h.val < U.top * c.val:=by omega
   exact Nat.lt_of_mul_lt_mul_left h3
  refine Wp.optF (Div512_loop l h c hlt) ?_
  rw [show U.top * h.val + l.val = a.val * b.val by omega]
  rfl
 exact key.out
theorem nat_10000:(u64U (I.of .u64 10000)).val = 10000:=rfl
theorem Scale_ok (n:U) (b:I .u64) (hb:b.nat ≤ 10000):bips_Scale K0 ((n,b,()),()) = some ((U.of (n.val * b.nat / 10000),I.of .i64 0,()),()):=by
 have key:Wp (fun o=>o = some ((U.of (n.val * b.nat / 10000),I.of .i64 0,()),())) (bips_Scale K0 ((n,b,()),())):=by
  unfold bips_Scale
  refine Wp.optF (a1Y b) (Wp.optF (a1Y _) ?_)
  have h:=MulDiv_ok n (u64U b) (u64U (I.of .u64 10000)) (by rw [nat_10000]; decide) (by rw [nat_10000,u64U_val]; exact hb)
  rw [nat_10000,u64U_val] at h
  exact Wp.optF h rfl
 exact key.out
theorem share_le (n b:Nat) (hb:b ≤ 10000):n * b / 10000 ≤ n:=by
 have h1:n * b ≤ n * 10000:=Nat.mul_le_mul_left _ hb
 exact Nat.div_le_of_le_mul (by rw [Nat.mul_comm 10000 n]; exact h1)
theorem Split_ok (n:U) (b:I .u64) (hb:b.nat ≤ 10000):bips_Split K0 ((n,b,()),()) = some ((U.of (n.val * b.nat / 10000),U.of (n.val - n.val * b.nat / 10000),I.of .i64 0,()),()):=by
 have key:Wp (fun o=>o = some ((U.of (n.val * b.nat / 10000),U.of (n.val - n.val * b.nat / 10000),I.of .i64 0,()),())) (bips_Split K0 ((n,b,()),())):=by
  unfold bips_Split
  refine Wp.brnF ?_ ?_
  ·
   rw [niff_ltb]
   have:=nat_val b
   show b.val ≤ 10000
   omega
  refine Wp.optF (Scale_ok n b hb) (Wp.brnF rfl ?_)
  have hs:=SatSub_ok n (U.of (n.val * b.nat / 10000))
  rw [U.val_of (Nat.lt_of_le_of_lt (share_le _ _ hb) n.lt)] at hs
  exact Wp.optF hs rfl
 exact key.out
theorem UUint64_eq (a:U):uint256_Uint64 K0 ((a,()),()) = some (if a.val < 18446744073709551616 then ((a.1,true,()),()) else ((I.of .u64 0,false,()),())):=by
 refine Wp.out (T:=fun o=>o = some (if a.val < 18446744073709551616 then ((a.1,true,()),()) else ((I.of .u64 0,false,()),()))) ?_
 have h0:=a2B a.1
 have hv:a.val = a.1.nat + 18446744073709551616 * (a.2.1.nat + 18446744073709551616 * (a.2.2.1.nat + 18446744073709551616 * a.2.2.2.1.nat)):=rfl
 have or_nat:∀ x y:I .u64,(I.or x y).nat = 0 ↔ x.nat = 0∧y.nat = 0:=by
  intro x y
  have h:=or_zero x y
  rw [niff_neb] at h
  have h1:=nat_val (I.or x y)
  have e0:(I.of .u64 0).val = 0:=rfl
  rw [e0] at h
  constructor
  ·
   intro h2; exact h.1 (by omega)
  ·
   intro h2; have:=h.2 h2; omega
 unfold uint256_Uint64
 refine Wp.brn (fun h=>?_) (fun h=>?_)
 ·
  rw [if_neg ?_]
  ·
   rfl
  ·
   intro hlt
   have h1:a.2.1.nat = 0:=by omega
   have h2:a.2.2.1.nat = 0:=by omega
   have h3:a.2.2.2.1.nat = 0:=by omega
   have:=(or_zero (I.or a.2.1 a.2.2.1) a.2.2.2.1).2 ⟨(or_nat _ _).2 ⟨h1,h2⟩,h3⟩
   exact absurd (h.symm.trans this) (by decide)
 ·
  have h1:=(or_zero (I.or a.2.1 a.2.2.1) a.2.2.2.1).1 h
  have h2:=(or_nat _ _).1 h1.1
  rw [if_pos (by omega)]
  rfl
end Sym

/- Sums that stop at the top; numbers by shape. -/
namespace Sym
open Go
theorem uint256_SaturatingAdd_ok (a b:U):a1T K0 ((a,b,()),()) = some ((U.of (min (a.val + b.val) (U.top - 1)),()),()):=by
 refine Wp.out (T:=fun o=>o = some ((U.of (min (a.val + b.val) (U.top - 1)),()),())) ?_
 unfold a1T
 refine Wp.optF (uint256_Add_eq a b) ?_
 unfold addS
 have ha:=a.lt
 by_cases h:a.val + b.val < U.top
 ·
  rw [if_pos h]
  refine Wp.brnT rfl ?_
  show _ = _
  rw [Nat.min_eq_left (by omega)]
  rfl
 ·
  rw [if_neg h]
  refine Wp.brnF rfl ?_
  refine Wp.optF rfl ?_
  show _ = _
  rw [Nat.min_eq_right (by omega)]
  kernel_rfl
end Sym

/- The law of the gas price's bounds: bytes, numbers, the law. -/
namespace Sym
open Go
end Sym

/- What is built of numbers; for the law of the gas price's bounds. -/
namespace Sym
open Go
end Sym

/- Natural numbers by digits of 65536: products, and quotients by one digit. -/
namespace Sym
open Go
end Sym

/- The law of the gas price and of cover. -/
namespace Sym
open Go
def coverB (lim:I .u64) (price value bal:U):Bool:=decide (lim.nat * price.val + value.val ≤ bal.val)
theorem cov_eq (f1 f2 f3 f5 f8:I .u64) (f9:List (I .u8)) (v c t price bal:U):txfee_Covers K0 (((f1,f2,f3,v,f5,c,t,f8,f9,()),price,bal,()),()) = some ((coverB f5 price v bal,()),()):=by
 have hbal:=bal.lt
 refine Wp.out (T:=fun o=>o = some ((coverB f5 price v bal,()),())) ?_
 unfold txfee_Covers coverB
 refine Wp.optF (a1Y f5) ?_
 refine Wp.optF (Mul_ok (u64U f5) price) ?_
 rw [u64U_val]
 unfold errS
 by_cases h:I.nat f5 * price.val < U.top
 ·
  rw [if_pos h]
  refine Wp.brnF rfl ?_
  refine Wp.optF (uint256_Add_eq (U.of (I.nat f5 * price.val)) v) ?_
  unfold addS
  rw [U.val_of h]
  by_cases h2:I.nat f5 * price.val + v.val < U.top
  ·
   rw [if_pos h2]
   refine Wp.brnT rfl ?_
   refine Wp.optF (uint256_Cmp_eq bal (U.of (I.nat f5 * price.val + v.val))) ?_
   show some ((I.leb (I.of .i64 0) (cmpS bal (U.of (I.nat f5 * price.val + v.val))),()),()) = _
   unfold cmpS
   rw [U.val_of h2]
   by_cases h3:I.nat f5 * price.val + v.val ≤ bal.val
   ·
    rw [if_neg (by omega),decide_eq_true h3]
    split <;> rfl
   ·
    rw [if_pos (by omega),decide_eq_false h3]; rfl
  ·
   rw [if_neg h2,decide_eq_false (by omega)]
   exact Wp.brnF rfl rfl
 ·
  rw [if_neg h,decide_eq_false (by omega)]
  exact Wp.brnT rfl rfl
end Sym

/- Signed numbers of 256 bits: what the program's functions compute, told of whole numbers. -/
namespace Sym
open Go
abbrev S:Type:=Bool × U × Unit
def S.int (x:S):Int:=if x.1 then -(x.2.1.val:Int) else x.2.1.val
def S.of (z:Int):S:=(decide (z < 0),U.of z.natAbs,())
def validB (x:S):Bool:=!(x.1 && decide (x.2.1.val = 0))
theorem S.abs (x:S):x.int.natAbs = x.2.1.val:=by
 unfold S.int
 split <;> omega
theorem S.of_int {x:S} (h:validB x = true):S.of x.int = x:=by
 obtain ⟨n,a,⟨⟩⟩:=x
 unfold S.of
 have e:=S.abs (n,a,())
 rw [e]
 have e2:decide (S.int (n,a,()) < 0) = n:=by
  unfold S.int
  unfold validB at h
  cases n with
  | false=>simp
  | true =>
   simp at h
   simp
   omega
 rw [e2]
 show (n,U.of a.val,()) = _
 rw [U.of_val]
theorem S.int_of {z:Int} (h:z.natAbs < U.top):(S.of z).int = z:=by
 unfold S.of S.int
 simp only [U.val_of h]
 by_cases hz:z < 0
 ·
  simp [hz]; omega
 ·
  simp [hz]; omega
theorem S.of_valid {z:Int} (h:z.natAbs < U.top):validB (S.of z) = true:=by
 unfold S.of validB
 simp only [U.val_of h]
 by_cases hz:z < 0
 ·
  simp [hz]; omega
 ·
  simp [hz]
theorem S.lt (x:S):x.int.natAbs < U.top:=by rw [S.abs]; exact U.lt _
def resS (z:Int):S × I .i64:=if z.natAbs < U.top then (S.of z,I.of .i64 0) else (S.of 0,I.of .i64 4)
theorem eqz (a:U):Ty.eqb (.arr 4 (.int .u64)) a (I.of .u64 0,I.of .u64 0,I.of .u64 0,I.of .u64 0,()) = decide (a.val = 0):=eqb_u256 a (U.of 0)
theorem Valid_eq (x:S):int256_Valid K0 ((x,()),()) = some ((validB x,()),()):=by
 obtain ⟨n,a,⟨⟩⟩:=x
 refine Wp.out (T:=fun o=>o = some ((validB (n,a,()),()),())) ?_
 unfold int256_Valid
 cases n with
 | false=>exact Wp.brnT rfl rfl
 | true =>
  refine Wp.brnF rfl ?_
  show some ((!(Ty.eqb (.arr 4 (.int .u64)) a (I.of .u64 0,I.of .u64 0,I.of .u64 0,I.of .u64 0,())),()),()) = some ((!(true && decide (a.val = 0)),()),())
  rw [eqz,Bool.true_and]
def sgn (n:Bool) (m:Nat):Int:=if n then -(m:Int) else m
theorem New_eq (n:Bool) (a:U):int256_New K0 ((n,a,()),()) = some ((S.of (sgn n a.val),()),()):=by
 refine Wp.out (T:=fun o=>o = some ((S.of (sgn n a.val),()),())) ?_
 unfold int256_New sgn S.of
 cases n with
 | false =>
  refine Wp.brnF rfl ?_
  show some (((false,a,()),()),()) = some (((decide (((a.val:Nat):Int) < 0),U.of ((a.val:Nat):Int).natAbs,()),()),())
  rw [Int.natAbs_natCast,U.of_val,decide_eq_false (by omega)]
 | true =>
  refine Wp.brnT rfl ?_
  show some (((!(Ty.eqb (.arr 4 (.int .u64)) a (I.of .u64 0,I.of .u64 0,I.of .u64 0,I.of .u64 0,())),a,()),()),()) = some (((decide (-((a.val:Nat):Int) < 0),U.of (-((a.val:Nat):Int)).natAbs,()),()),())
  rw [eqz,Int.natAbs_neg,Int.natAbs_natCast,U.of_val]
  by_cases h:a.val = 0
  ·
   rw [h]; rfl
  ·
   rw [decide_eq_false h,decide_eq_true (show -((a.val:Nat):Int) < 0 by omega)]; rfl
def negS (x:S):S × I .i64:=if validB x then (S.of (-x.int),I.of .i64 0) else (S.of 0,I.of .i64 2)
theorem Neg_eq (x:S):int256_Neg K0 ((x,()),()) = some (((negS x).1,(negS x).2,()),()):=by
 refine Wp.out (T:=fun o=>o = some (((negS x).1,(negS x).2,()),())) ?_
 unfold int256_Neg negS
 refine Wp.optF (Valid_eq x) ?_
 by_cases h:validB x = true
 ·
  rw [if_pos h]
  refine Wp.brnF (by show (!validB x) = false; rw [h]; rfl) ?_
  refine Wp.optF (New_eq (!x.1) x.2.1) ?_
  have:sgn (!x.1) x.2.1.val = -x.int:=by
   unfold sgn S.int
   cases x.1 <;> simp
  rw [this]; rfl
 ·
  rw [if_neg h]
  refine Wp.brnT (by show (!validB x) = true; simp [h]) rfl
theorem Diff_eq (a b:U):int256_Diff K0 ((a,b,()),()) = some ((S.of ((a.val:Int) - b.val),()),()):=by
 refine Wp.out (T:=fun o=>o = some ((S.of ((a.val:Int) - b.val),()),())) ?_
 have ha:=a.lt
 have hb:=b.lt
 unfold int256_Diff
 refine Wp.optF (uint256_Cmp_eq a b) ?_
 by_cases h:a.val < b.val
 ·
  refine Wp.brnF (by show I.leb (I.of .i64 0) (cmpS a b) = false; unfold cmpS; rw [if_pos h]; rfl) ?_
  refine Wp.optF (SatSub_ok b a) ?_
  refine Wp.optF (New_eq true (U.of (b.val - a.val))) ?_
  rw [U.val_of (by omega),show sgn true (b.val - a.val) = (a.val:Int) - b.val by unfold sgn; simp; omega]; rfl
 ·
  refine Wp.brnT (by show I.leb (I.of .i64 0) (cmpS a b) = true; unfold cmpS; rw [if_neg h]; split <;> rfl) ?_
  refine Wp.optF (SatSub_ok a b) ?_
  refine Wp.optF (New_eq false (U.of (a.val - b.val))) ?_
  rw [U.val_of (by omega),show sgn false (a.val - b.val) = (a.val:Int) - b.val by unfold sgn; simp; omega]; rfl
def binS (x y:S) (z:Int):S × I .i64:=if validB x && validB y then resS z else (S.of 0,I.of .i64 2)
theorem binS_t {x y:S} {z:Int} (h1:validB x = true) (h2:validB y = true):binS x y z = resS z:=by unfold binS; rw [h1,h2]; rfl
theorem binS_f1 {x y:S} {z:Int} (h1:validB x = false):binS x y z = (S.of 0,I.of .i64 2):=by unfold binS; rw [h1]; rfl
theorem binS_f2 {x y:S} {z:Int} (h2:validB y = false):binS x y z = (S.of 0,I.of .i64 2):=by unfold binS; rw [h2]; simp
theorem resS_lt {z:Int} (h:z.natAbs < U.top):resS z = (S.of z,I.of .i64 0):=if_pos h
theorem resS_ge {z:Int} (h:U.top ≤ z.natAbs):resS z = (S.of 0,I.of .i64 4):=if_neg (by omega)
theorem SAdd_eq (x y:S):int256_Add K0 ((x,y,()),()) = some (((binS x y (x.int + y.int)).1,(binS x y (x.int + y.int)).2,()),()):=by
 refine Wp.out (T:=fun o=>o = some (((binS x y (x.int + y.int)).1,(binS x y (x.int + y.int)).2,()),())) ?_
 unfold int256_Add
 refine Wp.jn (fun s=>validB x = true∧validB y = true∧s.2.1 = x∧s.2.2.1 = y) ?_ ?_
 ·
  rintro ⟨⟨⟩,x',y',r,⟨⟩⟩ ⟨h1,h2,e1,e2⟩
  simp only at e1 e2
  subst e1 e2
  rw [binS_t h1 h2]
  obtain ⟨n,a,⟨⟩⟩:=x'
  obtain ⟨m,b,⟨⟩⟩:=y'
  have ha:=U.lt a
  have hb:=U.lt b
  have hab:∀ (p q:U),((p.val:Int) - q.val).natAbs < U.top:=fun p q=>by have:=p.lt; have:=q.lt; omega
  have same:∀ (n:Bool),S.int (n,a,()) + S.int (n,b,()) = sgn n (U.val a + U.val b):=fun n=>by unfold S.int sgn; cases n <;> simp <;> omega
  have add:∀ (n:Bool),Wp (fun o=>o = some (((resS (S.int (n,a,()) + S.int (n,b,()))).1,(resS (S.int (n,a,()) + S.int (n,b,()))).2,()),()))
    (optF none (uint256_Add ((a,b,()),())) fun y1=>brn (I.neb y1.1.2.1 (I.of .i64 0)) (some (((false,(I.of .u64 0,I.of .u64 0,I.of .u64 0,I.of .u64 0,()),()),y1.1.2.1,()),())) (optF none (int256_New K0 ((n,y1.1.1,()),())) fun y2=>some ((y2.1.1,I.of .i64 0,()),()))):=by
   intro n
   rw [same]
   refine Wp.optF (uint256_Add_eq a b) ?_
   have e:(sgn n (U.val a + U.val b)).natAbs = U.val a + U.val b:=by unfold sgn; cases n <;> simp <;> omega
   unfold addS
   by_cases h:U.val a + U.val b < U.top
   ·
    rw [if_pos h,resS_lt (by rw [e]; exact h)]
    refine Wp.brnF rfl ?_
    refine Wp.optF (New_eq n (U.of (U.val a + U.val b))) ?_
    rw [U.val_of h]; rfl
   ·
    rw [if_neg h,resS_ge (by rw [e]; omega)]
    exact Wp.brnT rfl rfl
  cases n <;> cases m
  ·
   exact Wp.brnT rfl (add false)
  ·
   refine Wp.brnF rfl (Wp.brnF rfl ?_)
   refine Wp.optF (Diff_eq a b) ?_
   have:S.int (false,a,()) + S.int (true,b,()) = (U.val a:Int) - U.val b:=by unfold S.int; simp; omega
   rw [this,resS_lt (hab a b)]; rfl
  ·
   refine Wp.brnF rfl (Wp.brnT rfl ?_)
   refine Wp.optF (Diff_eq b a) ?_
   have:S.int (true,a,()) + S.int (false,b,()) = (U.val b:Int) - U.val a:=by unfold S.int; simp; omega
   rw [this,resS_lt (hab b a)]; rfl
  ·
   exact Wp.brnT rfl (add true)
 ·
  intro j hj
  refine Wp.optF (Valid_eq x) ?_
  cases h1:validB x with
  | false =>
   rw [binS_f1 h1]
   exact Wp.brnT rfl rfl
  | true =>
   refine Wp.brnF rfl ?_
   refine Wp.optF (Valid_eq y) ?_
   cases h2:validB y with
   | false =>
    rw [binS_f2 h2]
    exact Wp.brnT rfl rfl
   | true =>
    exact Wp.brnF rfl (hj _ ⟨h1,h2,rfl,rfl⟩)
end Sym

/- Signed numbers of 256 bits: differences, products, quotients, order. -/
namespace Sym
open Go
theorem SSub_eq (x y:S):int256_Sub K0 ((x,y,()),()) = some (((binS x y (x.int - y.int)).1,(binS x y (x.int - y.int)).2,()),()):=by
 refine Wp.out (T:=fun o=>o = some (((binS x y (x.int - y.int)).1,(binS x y (x.int - y.int)).2,()),())) ?_
 unfold int256_Sub
 refine Wp.optF (Neg_eq y) ?_
 refine Wp.jn (fun s=>validB x = true∧validB y = true∧s.2.1 = x∧s.2.2.2.1 = S.of (-y.int)) ?_ ?_
 ·
  rintro ⟨⟨⟩,x',r,y',⟨⟩⟩ ⟨h1,h2,e1,e2⟩
  simp only at e1 e2
  subst e1 e2
  refine Wp.optF (SAdd_eq x' (S.of (-y.int))) ?_
  have hy:=y.lt
  rw [binS_t h1 h2,binS_t h1 (S.of_valid (by omega)),S.int_of (by omega),show S.int x' + -y.int = S.int x' - y.int by omega]
  rfl
 ·
  intro j hj
  unfold negS
  cases h2:validB y with
  | false =>
   rw [binS_f2 h2]
   exact Wp.brnT rfl rfl
  | true =>
   refine Wp.brnF rfl ?_
   refine Wp.optF (Valid_eq x) ?_
   cases h1:validB x with
   | false =>
    rw [binS_f1 h1]
    exact Wp.brnT rfl rfl
   | true=>exact Wp.brnF rfl (hj _ ⟨h1,h2,rfl,rfl⟩)
theorem sgn_mul (n m:Bool) (a b:Nat):sgn n a * sgn m b = sgn (!(n == m)) (a * b):=by
 unfold sgn
 cases n <;> cases m <;> simp [Int.neg_mul,Int.mul_neg]
theorem sgn_abs (n:Bool) (a:Nat):(sgn n a).natAbs = a:=by unfold sgn; cases n <;> simp
theorem SMul_eq (x y:S):int256_Mul K0 ((x,y,()),()) = some (((binS x y (x.int * y.int)).1,(binS x y (x.int * y.int)).2,()),()):=by
 refine Wp.out (T:=fun o=>o = some (((binS x y (x.int * y.int)).1,(binS x y (x.int * y.int)).2,()),())) ?_
 unfold int256_Mul
 refine Wp.jn (fun s=>validB x = true∧validB y = true∧s.2.1 = x∧s.2.2.1 = y) ?_ ?_
 ·
  rintro ⟨⟨⟩,x',y',r,⟨⟩⟩ ⟨h1,h2,e1,e2⟩
  simp only at e1 e2
  subst e1 e2
  rw [binS_t h1 h2]
  obtain ⟨n,a,⟨⟩⟩:=x'
  obtain ⟨m,b,⟨⟩⟩:=y'
  have e:S.int (n,a,()) * S.int (m,b,()) = sgn (!(n == m)) (U.val a * U.val b):=sgn_mul n m _ _
  rw [e]
  refine Wp.optF (Mul_ok a b) ?_
  unfold errS
  by_cases h:U.val a * U.val b < U.top
  ·
   rw [if_pos h,resS_lt (by rw [sgn_abs]; exact h)]
   refine Wp.brnF rfl ?_
   refine Wp.optF (New_eq (!(n == m)) (U.of (U.val a * U.val b))) ?_
   rw [U.val_of h]; rfl
  ·
   rw [if_neg h,resS_ge (by rw [sgn_abs]; omega)]
   exact Wp.brnT rfl rfl
 ·
  intro j hj
  refine Wp.optF (Valid_eq x) ?_
  cases h1:validB x with
  | false =>
   rw [binS_f1 h1]
   exact Wp.brnT rfl rfl
  | true =>
   refine Wp.brnF rfl ?_
   refine Wp.optF (Valid_eq y) ?_
   cases h2:validB y with
   | false =>
    rw [binS_f2 h2]
    exact Wp.brnT rfl rfl
   | true =>
    exact Wp.brnF rfl (hj _ ⟨h1,h2,rfl,rfl⟩)
def divFS (x:S) (d:U):S × I .i64:=if validB x then (if d.val = 0 then (S.of 0,I.of .i64 5) else (S.of (x.int / (d.val:Int)),I.of .i64 0)) else (S.of 0,I.of .i64 2)
theorem neg_div (a d:Nat) (hd:0 < d):-(a:Int) / (d:Int) = if a % d = 0 then -((a / d:Nat):Int) else -((a / d + 1:Nat):Int):=by
 have h1:=Nat.div_add_mod a d
 have h2:=Nat.mod_lt a hd
 have h1':(d:Int) * ((a / d:Nat):Int) + ((a % d:Nat):Int) = (a:Int):=by rw [← Int.natCast_mul]; omega
 by_cases h:a % d = 0
 ·
  rw [if_pos h]
  refine ((Int.ediv_emod_unique (r:=0) (by omega)).2 ⟨?_,by omega,by omega⟩).1
  rw [h] at h1'
  rw [Int.mul_neg]
  simp only [Int.ofNat_zero] at h1'
  omega
 ·
  rw [if_neg h]
  refine ((Int.ediv_emod_unique (r:=(d:Int) - ((a % d:Nat):Int)) (by omega)).2 ⟨?_,by omega,by omega⟩).1
  rw [Int.natCast_add,Int.mul_neg,Int.mul_add,show ((1:Nat):Int) = 1 from rfl,Int.mul_one]
  omega
theorem DivFloor_eq (x:S) (d:U):int256_DivFloor K0 ((x,d,()),()) = some (((divFS x d).1,(divFS x d).2,()),()):=by
 refine Wp.out (T:=fun o=>o = some (((divFS x d).1,(divFS x d).2,()),())) ?_
 unfold int256_DivFloor divFS
 refine Wp.optF (Valid_eq x) ?_
 cases h1:validB x with
 | false=>exact Wp.brnT rfl rfl
 | true =>
  refine Wp.brnF rfl ?_
  refine Wp.optF (DivMod_ok x.2.1 d) ?_
  unfold divModS
  by_cases hd:d.val = 0
  ·
   rw [if_pos hd,if_pos rfl,if_pos hd]
   exact Wp.brnT rfl rfl
  ·
   rw [if_neg hd,if_pos rfl,if_neg hd]
   refine Wp.brnF rfl ?_
   obtain ⟨n,a,⟨⟩⟩:=x
   have ha:=U.lt a
   have hq:U.val a / d.val < U.top:=Nat.lt_of_le_of_lt (Nat.div_le_self _ _) ha
   have hr:U.val a % d.val < U.top:=Nat.lt_of_le_of_lt (Nat.mod_le _ _) ha
   refine Wp.jn (fun s=>s.2.1.1 = n∧s.2.2.2.1 = U.of (U.val a / d.val)∧s.1.1 = (n && !decide (U.val a % d.val = 0))) ?_ ?_
   ·
    rintro ⟨⟨b,⟨⟩⟩,⟨n',a',⟨⟩⟩,r,q,⟨⟩⟩ ⟨e1,e2,e3⟩
    simp only at e1 e2 e3
    subst e1 e2 e3
    cases n' with
    | false =>
     refine Wp.brnF rfl ?_
     refine Wp.optF (New_eq false (U.of (U.val a / d.val))) ?_
     rw [U.val_of hq]
     rfl
    | true =>
     have hz:S.int (true,a,()) / (d.val:Int) = if U.val a % d.val = 0 then -((U.val a / d.val:Nat):Int) else -((U.val a / d.val + 1:Nat):Int):=neg_div _ _ (by omega)
     rw [hz]
     by_cases hm:U.val a % d.val = 0
     ·
      rw [if_pos hm]
      refine Wp.brnF (by show (true && !decide (U.val a % d.val = 0)) = false; rw [hm]; rfl) ?_
      refine Wp.optF (New_eq true (U.of (U.val a / d.val))) ?_
      rw [U.val_of hq]
      rfl
     ·
      rw [if_neg hm]
      refine Wp.brnT (by show (true && !decide (U.val a % d.val = 0)) = true; simp [hm]) ?_
      refine Wp.optF (a1Y _) ?_
      refine Wp.optF (uint256_Add_eq (U.of (U.val a / d.val)) (u64U (I.of .u64 1))) ?_
      have hlt:U.val a / d.val + 1 < U.top:=by
       have h2:d.val ≠ 1:=by intro e; rw [e,Nat.mod_one] at hm; exact hm rfl
       have h3:U.val a / d.val ≤ U.val a / 2:=Nat.div_le_div_left (by omega) (by decide)
       have:U.top = 115792089237316195423570985008687907853269984665640564039457584007913129639936:=rfl
       omega
      have h1v:(u64U (I.of .u64 1)).val = 1:=rfl
      unfold addS
      rw [U.val_of hq,h1v,if_pos hlt]
      refine Wp.optF (New_eq true (U.of (U.val a / d.val + 1))) ?_
      rw [U.val_of hlt]
      rfl
   ·
    intro j hj
    have hbit:(!(Ty.eqb (.arr 4 (.int .u64)) (U.of (U.val a % d.val)) (I.of .u64 0,I.of .u64 0,I.of .u64 0,I.of .u64 0,()))) = !decide (U.val a % d.val = 0):=by rw [eqz,U.val_of hr]
    cases n with
    | false=>exact Wp.brnF rfl (hj _ ⟨rfl,rfl,rfl⟩)
    | true=>exact Wp.brnT rfl (hj _ ⟨rfl,rfl,hbit⟩)
def clampS (a:U) (y:S):U × I .i64:=if validB y then (if (a.val:Int) + y.int < 0 then (U.of 0,I.of .i64 0) else errS ((a.val:Int) + y.int).toNat) else (U.of 0,I.of .i64 2)
theorem AddClamped_eq (a:U) (y:S):int256_AddClamped K0 ((a,y,()),()) = some (((clampS a y).1,(clampS a y).2,()),()):=by
 refine Wp.out (T:=fun o=>o = some (((clampS a y).1,(clampS a y).2,()),())) ?_
 unfold int256_AddClamped clampS
 refine Wp.optF (Valid_eq y) ?_
 cases h1:validB y with
 | false=>exact Wp.brnT rfl rfl
 | true =>
  refine Wp.brnF rfl ?_
  rw [if_pos rfl]
  obtain ⟨n,b,⟨⟩⟩:=y
  have ha:=U.lt a
  have hb:=U.lt b
  cases n with
  | false =>
   refine Wp.brnF rfl ?_
   refine Wp.optF (uint256_Add_eq a b) ?_
   have e:S.int (false,b,()) = (U.val b:Int):=rfl
   rw [e,if_neg (by omega),show ((U.val a:Int) + U.val b).toNat = U.val a + U.val b by omega]
   rfl
  | true =>
   refine Wp.brnT rfl ?_
   refine Wp.optF (SatSub_ok a b) ?_
   have e:S.int (true,b,()) = -(U.val b:Int):=rfl
   rw [e]
   by_cases h:U.val a < U.val b
   ·
    rw [if_pos (by omega),show U.val a - U.val b = 0 by omega]
    rfl
   ·
    rw [if_neg (by omega),show ((U.val a:Int) + -(U.val b:Int)).toNat = U.val a - U.val b by omega]
    rw [show errS (U.val a - U.val b) = (U.of (U.val a - U.val b),I.of .i64 0) from if_pos (by omega)]
    rfl
end Sym

/- Signed numbers: what the reference's functions compute; two laws. -/
namespace Sym
open Go
end Sym

/- Signed numbers: the laws of order, negation and algebra. -/
namespace Sym
open Go
theorem Neg_t {x:S} (h:validB x = true):int256_Neg K0 ((x,()),()) = some ((S.of (-x.int),I.of .i64 0,()),()):=by
 have:=Neg_eq x
 unfold negS at this
 rw [h] at this
 exact this
theorem SSub_t {x y:S} (h1:validB x = true) (h2:validB y = true):int256_Sub K0 ((x,y,()),()) = some (((resS (x.int - y.int)).1,(resS (x.int - y.int)).2,()),()):=by
 have:=SSub_eq x y
 rw [binS_t h1 h2] at this
 exact this
theorem SMul_t {x y:S} (h1:validB x = true) (h2:validB y = true):int256_Mul K0 ((x,y,()),()) = some (((resS (x.int * y.int)).1,(resS (x.int * y.int)).2,()),()):=by
 have:=SMul_eq x y
 rw [binS_t h1 h2] at this
 exact this
end Sym

/- Signed numbers: the law of algebra. -/
namespace Sym
open Go
theorem top_u64 (c:I .u64):c.nat < U.top:=by
 have:=a2B c
 have:U.top = 115792089237316195423570985008687907853269984665640564039457584007913129639936:=rfl
 omega
theorem floor_abs (z:Int) (d:Nat) (hd:d ≠ 0):(z / (d:Int)).natAbs ≤ z.natAbs:=by
 have h1:=Int.mul_ediv_add_emod z d
 have h2:=Int.emod_nonneg z (b:=(d:Int)) (by omega)
 have h3:=Int.emod_lt_of_pos z (b:=(d:Int)) (by omega)
 rcases Int.lt_or_le z 0 with h | h
 ·
  have h4:z / (d:Int) < 0:=by
   rcases Int.lt_or_le (z / (d:Int)) 0 with h7 | h7
   ·
    exact h7
   ·
    have:=Int.mul_nonneg (show (0:Int) ≤ (d:Int) by omega) h7
    omega
  have h5:z ≤ z / (d:Int):=by
   have:(d:Int) * (z / (d:Int)) ≤ 1 * (z / (d:Int)):=Int.mul_le_mul_of_nonpos_right (by omega) (by omega)
   have h6:z - (z % d) = (d:Int) * (z / (d:Int)):=by omega
   rcases Int.lt_or_le (z / (d:Int)) z with h7 | h7
   ·
    exfalso
    have:(d:Int) * (z / (d:Int) + 1) ≤ (d:Int) * z:=Int.mul_le_mul_of_nonneg_left (by omega) (by omega)
    rw [Int.mul_add,Int.mul_one] at this
    have h8:(d:Int) * z ≤ 1 * z:=Int.mul_le_mul_of_nonpos_right (by omega) (by omega)
    omega
   ·
    exact h7
  omega
 ·
  have h4:0 ≤ z / (d:Int):=Int.ediv_nonneg h (by omega)
  have h5:z / (d:Int) ≤ z:=Int.ediv_le_self _ h
  omega
end Sym

/- Signed numbers: the laws of arithmetic. -/
namespace Sym
open Go
end Sym

/- Natural numbers by digits of 65536: quotients. -/
namespace Sym
open Go
end Sym

/- Natural numbers by digits of 65536: the long division. -/
namespace Sym
open Go
end Sym

/- Signed numbers: the law of quotients. -/
namespace Sym
open Go
end Sym

/- Parameters: which are valid. -/
namespace Sym
open Go
abbrev Prm:Type:=I .u64 × I .u64 × I .u64 × U × I .u64 × U × I .u64 × U × I .u64 × I .u64 × I .u64 × I .u64 × Unit
def getK (p:Prm):Nat→U
 | 1=>u64U p.1
 | 2=>u64U p.2.1
 | 3=>u64U p.2.2.1
 | 4=>p.2.2.2.1
 | 5=>u64U p.2.2.2.2.1
 | 6=>p.2.2.2.2.2.1
 | 7=>u64U p.2.2.2.2.2.2.1
 | 8=>p.2.2.2.2.2.2.2.1
 | 9=>u64U p.2.2.2.2.2.2.2.2.1
 | 10=>u64U p.2.2.2.2.2.2.2.2.2.1
 | 11=>u64U p.2.2.2.2.2.2.2.2.2.2.1
 | _=>u64U p.2.2.2.2.2.2.2.2.2.2.2.1
def loK (p:Prm):Nat→I .u64
 | 1=>I.of .u64 1
 | 2=>I.of .u64 0
 | 3=>I.of .u64 1
 | 4=>I.of .u64 1
 | 5=>I.of .u64 1
 | 6=>I.of .u64 0
 | 7=>I.of .u64 0
 | 8=>I.of .u64 0
 | 9=>I.of .u64 1
 | 10=>I.of .u64 1
 | 11=>I.of .u64 0
 | _=>p.2.2.2.2.2.2.2.2.2.2.1
def hiK:Nat→I .u64
 | 1=>I.of .u64 1099511627776
 | 2=>I.of .u64 1048576
 | 3=>I.of .u64 1048576
 | 4=>I.of .u64 18446744073709551615
 | 5=>I.of .u64 1099511627776
 | 6=>I.of .u64 18446744073709551615
 | 7=>I.of .u64 10000
 | 8=>I.of .u64 18446744073709551615
 | 9=>I.of .u64 1099511627776
 | 10=>I.of .u64 1048576
 | 11=>I.of .u64 1048576
 | _=>I.of .u64 16777216
theorem Get_eq (p:Prm) (k:Nat) (h1:1 ≤ k) (h2:k ≤ 12):params_Get K0 ((p,I.of .i64 (k:Int),()),()) = some ((getK p k,I.of .i64 0,()),()):=by
 match k,h1,h2 with
 | 1,_,_=>rfl
 | 2,_,_=>rfl
 | 3,_,_=>rfl
 | 4,_,_=>rfl
 | 5,_,_=>rfl
 | 6,_,_=>rfl
 | 7,_,_=>rfl
 | 8,_,_=>rfl
 | 9,_,_=>rfl
 | 10,_,_=>rfl
 | 11,_,_=>rfl
 | 12,_,_=>rfl
 | k + 13,_,h=>omega
theorem bounds_eq (p:Prm) (k:Nat) (h1:1 ≤ k) (h2:k ≤ 12):params_bounds K0 ((p,I.of .i64 (k:Int),()),()) = some ((loK p k,hiK k,()),()):=by
 match k,h1,h2 with
 | 1,_,_=>rfl
 | 2,_,_=>rfl
 | 3,_,_=>rfl
 | 4,_,_=>rfl
 | 5,_,_=>rfl
 | 6,_,_=>rfl
 | 7,_,_=>rfl
 | 8,_,_=>rfl
 | 9,_,_=>rfl
 | 10,_,_=>rfl
 | 11,_,_=>rfl
 | 12,_,_=>rfl
 | k + 13,_,h=>omega
def okK (p:Prm) (k:Nat):Bool:=decide ((loK p k).nat ≤ (getK p k).val∧(getK p k).val ≤ (hiK k).nat)
def fiF (p:Prm):Nat→Nat→I .i64
 | 0,_=>I.of .i64 0
 | n + 1,k=>if okK p k = true then fiF p n (k + 1) else I.of .i64 (k:Int)
def fiS (p:Prm):I .i64:=fiF p 12 1
theorem cmp_ltb (a b:U):I.ltb (cmpS a b) (I.of .i64 0) = decide (a.val < b.val):=by
 unfold cmpS
 by_cases h:a.val < b.val
 ·
  rw [if_pos h]; simp [h]; rfl
 ·
  rw [if_neg h]
  by_cases h2:b.val < a.val
  ·
   rw [if_pos h2]; simp [h]; rfl
  ·
   rw [if_neg h2]; simp [h]; rfl
theorem cmp_gtb (a b:U):I.ltb (I.of .i64 0) (cmpS a b) = decide (b.val < a.val):=by
 unfold cmpS
 by_cases h:a.val < b.val
 ·
  rw [if_pos h]; simp [show ¬ b.val < a.val by omega]; rfl
 ·
  rw [if_neg h]
  by_cases h2:b.val < a.val
  ·
   rw [if_pos h2]; simp [h2]; rfl
  ·
   rw [if_neg h2]; simp [h2]; rfl
theorem FirstInvalid_eq (p:Prm):params_FirstInvalid K0 ((p,()),()) = some ((fiS p,()),()):=by
 refine Wp.out (T:=fun o=>o = some ((fiS p,()),())) ?_
 unfold params_FirstInvalid
 refine Wp.iter (Inv:=fun x=>∃ k:Nat,1 ≤ k∧k ≤ 13∧x = ((I.of .i64 (k:Int),()),(p,()))∧fiF p (13 - k) k = fiS p) (fun x=>14 - x.1.1.val.toNat) ?_ ⟨1,by omega,by omega,rfl,rfl⟩ ?_
 ·
  rintro x ⟨k,hk1,hk2,rfl,hf⟩
  have hkv:(I.of .i64 (k:Int)).val = k:=of_i64 ⟨by omega,by omega⟩
  refine Wp.brn (fun hc=>?_) (fun hc=>?_)
  ·
   rw [iff_leb] at hc
   replace hc:(I.of .i64 (k:Int)).val ≤ 12:=hc
   have hk:k ≤ 12:=by omega
   refine Wp.optF (Get_eq p k hk1 hk) (Wp.optF (bounds_eq p k hk1 hk) (Wp.optF (a1Y _) (Wp.optF (uint256_Cmp_eq _ _) ?_)))
   obtain ⟨n,hn⟩:∃ n,13 - k = n + 1:=⟨12 - k,by omega⟩
   rw [hn] at hf
   have hf':(if okK p k = true then fiF p n (k + 1) else I.of .i64 (k:Int)) = fiS p:=hf
   refine Wp.brn (fun h1=>?_) (fun h1=>?_)
   ·
    rw [cmp_ltb] at h1
    replace h1:=of_decide_eq_true h1
    refine Wp.done ?_
    rw [if_neg (by unfold okK; rw [u64U_val] at h1; simp; intro h; omega)] at hf'
    show some ((I.of .i64 (k:Int),()),()) = _
    rw [hf']
   ·
    rw [cmp_ltb] at h1
    replace h1:=of_decide_eq_false h1
    refine Wp.optF (a1Y _) (Wp.optF (uint256_Cmp_eq _ _) ?_)
    refine Wp.brn (fun h2=>?_) (fun h2=>?_)
    ·
     rw [cmp_gtb] at h2
     replace h2:=of_decide_eq_true h2
     refine Wp.done ?_
     rw [if_neg (by unfold okK; rw [u64U_val] at h2; simp; intro h; exact h2)] at hf'
     show some ((I.of .i64 (k:Int),()),()) = _
     rw [hf']
    ·
     rw [cmp_gtb] at h2
     replace h2:=of_decide_eq_false h2
     rw [u64U_val] at h1 h2
     rw [if_pos (by unfold okK; simp; omega)] at hf'
     have hv2:(I.of .i64 ((k + 1:Nat):Int)).val = ((k + 1:Nat):Int):=of_i64 ⟨by omega,by omega⟩
     have ha:I.add (I.of .i64 (k:Int)) (I.of .i64 1) = I.of .i64 ((k + 1:Nat):Int):=by
      apply I.ext'
      rw [add_i64 (by rw [hkv]; show _ ≤ (k:Int) + 1∧(k:Int) + 1 < _; omega),hkv,hv2]
      show (k:Int) + 1 = ((k + 1:Nat):Int)
      omega
     refine Wp.again ⟨k + 1,by omega,by omega,?_,?_⟩ ?_
     ·
      show ((I.add (I.of .i64 (k:Int)) (I.of .i64 1),()),(p,())) = _
      rw [ha]
     ·
      rw [show 13 - (k + 1) = n by omega]; exact hf'
     ·
      show 14 - (I.add (I.of .i64 (k:Int)) (I.of .i64 1)).val.toNat < 14 - (I.of .i64 (k:Int)).val.toNat
      rw [ha,hkv,hv2]
      omega
  ·
   rw [niff_leb] at hc
   replace hc:12 < (I.of .i64 (k:Int)).val:=hc
   have hk:k = 13:=by omega
   subst hk
   refine Wp.done ?_
   show some ((I.of .i64 0,()),()) = _
   rw [← hf]; rfl
 ·
  show 14 - (1:Int).toNat < K0
  rw [K0_eq]; decide
def validP (p:Prm):Bool:=I.eqb (fiS p) (I.of .i64 0)
theorem PrmValid_eq (p:Prm):params_Valid K0 ((p,()),()) = some ((validP p,()),()):=by
 refine Wp.out (T:=fun o=>o = some ((validP p,()),())) ?_
 unfold params_Valid
 exact Wp.optF (FirstInvalid_eq p) rfl
theorem fiF_zero (p:Prm):∀ (n k:Nat),1 ≤ k→k + n ≤ 14→(I.eqb (fiF p n k) (I.of .i64 0) = true ↔ ∀ j,k ≤ j→j < k + n→okK p j = true)
 | 0,k,h1,h2=>⟨fun _ j _ _=>by omega,fun _=>rfl⟩
 | n + 1,k,h1,h2=>by
  show I.eqb (if okK p k = true then fiF p n (k + 1) else I.of .i64 (k:Int)) (I.of .i64 0) = true ↔ _
  by_cases h:okK p k = true
  ·
   rw [if_pos h,fiF_zero p n (k + 1) (by omega) (by omega)]
   constructor
   ·
    intro hj j h3 h4
    by_cases hjk:j = k
    ·
     subst hjk; exact h
    ·
     exact hj j (by omega) (by omega)
   ·
    intro hj j h3 h4
    exact hj j (by omega) (by omega)
  ·
   rw [if_neg h,iff_eqb,of_i64 ⟨by omega,by omega⟩]
   constructor
   ·
    intro h3
    replace h3:(k:Int) = 0:=h3
    omega
   ·
    intro hj
    exact absurd (hj k (by omega) (by omega)) h
theorem validP_iff (p:Prm):validP p = true ↔ ∀ j,1 ≤ j→j < 13→okK p j = true:=fiF_zero p 12 1 (by omega) (by omega)
theorem validP_div {p:Prm} (h:validP p = true):1 ≤ p.2.2.2.2.2.2.2.2.1.nat∧p.2.2.2.2.2.2.2.2.1.nat ≤ 1099511627776∧1 ≤ p.2.2.2.2.2.2.2.2.2.1.nat:=by
 rw [validP_iff] at h
 have h9:=of_decide_eq_true (h 9 (by omega) (by omega))
 have h10:=of_decide_eq_true (h 10 (by omega) (by omega))
 replace h9:(I.of .u64 1).nat ≤ (u64U p.2.2.2.2.2.2.2.2.1).val∧(u64U p.2.2.2.2.2.2.2.2.1).val ≤ (I.of .u64 1099511627776).nat:=h9
 replace h10:(I.of .u64 1).nat ≤ (u64U p.2.2.2.2.2.2.2.2.2.1).val∧(u64U p.2.2.2.2.2.2.2.2.2.1).val ≤ (I.of .u64 1048576).nat:=h10
 rw [u64U_val] at h9 h10
 have e1:(I.of .u64 1).nat = 1:=rfl
 have e2:(I.of .u64 1099511627776).nat = 1099511627776:=rfl
 rw [e1] at h9 h10
 rw [e2] at h9
 exact ⟨h9.1,h9.2,h10.1⟩
end Sym

/- The price of a unit: what the program computes. -/
namespace Sym
open Go
theorem SatAdd_eq (a b:U):a1T K0 ((a,b,()),()) = some ((U.of (min (a.val + b.val) (U.top - 1)),()),()):=by
 refine Wp.out (T:=fun o=>o = some ((U.of (min (a.val + b.val) (U.top - 1)),()),())) ?_
 unfold a1T
 refine Wp.optF (uint256_Add_eq a b) ?_
 unfold addS
 have ha:=a.lt
 by_cases h:a.val + b.val < U.top
 ·
  rw [if_pos h]
  refine Wp.brnT rfl ?_
  show _ = _
  rw [Nat.min_eq_left (by omega)]
  rfl
 ·
  rw [if_neg h]
  refine Wp.brnF rfl ?_
  refine Wp.optF rfl ?_
  show _ = _
  rw [Nat.min_eq_right (by omega)]
  kernel_rfl
theorem DivFloor_u {z:Int} (d:U) (hz:z.natAbs < U.top) (hd:d.val ≠ 0):int256_DivFloor K0 ((S.of z,d,()),()) = some ((S.of (z / (d.val:Int)),I.of .i64 0,()),()):=by
 have:=DivFloor_eq (S.of z) d
 unfold divFS at this
 rw [S.of_valid hz,if_pos rfl,if_neg hd,S.int_of hz] at this
 exact this
theorem DivFloor_i {z:Int} (c:I .u64) (hz:z.natAbs < U.top) (hc:c.nat ≠ 0):int256_DivFloor K0 ((S.of z,u64U c,()),()) = some ((S.of (z / (c.nat:Int)),I.of .i64 0,()),()):=by
 have:=DivFloor_u (u64U c) hz (by rw [u64U_val]; exact hc)
 rw [u64U_val] at this
 exact this
theorem SSub_i {z w:Int} (hz:z.natAbs < U.top) (hw:w.natAbs < U.top):int256_Sub K0 ((S.of z,S.of w,()),()) = some (((resS (z - w)).1,(resS (z - w)).2,()),()):=by
 have:=SSub_t (S.of_valid hz) (S.of_valid hw)
 rw [S.int_of hz,S.int_of hw] at this
 exact this
theorem SMul_i {z w:Int} (hz:z.natAbs < U.top) (hw:w.natAbs < U.top):int256_Mul K0 ((S.of z,S.of w,()),()) = some (((resS (z * w)).1,(resS (z * w)).2,()),()):=by
 have:=SMul_t (S.of_valid hz) (S.of_valid hw)
 rw [S.int_of hz,S.int_of hw] at this
 exact this
theorem posS (c:I .u64):((false,u64U c,()):S) = S.of (c.nat:Int):=by
 have h:S.of (S.int (false,u64U c,())) = (false,u64U c,()):=S.of_int rfl
 have h2:S.int (false,u64U c,()) = (c.nat:Int):=by
  show (((u64U c).val:Nat):Int) = _
  rw [u64U_val]
 rw [← h,h2]
theorem quo_nat (a b:I .u64):(I.quo a b).nat = a.nat / b.nat:=by
 have h:((I.quo a b).nat:Int) = ((a.nat / b.nat:Nat):Int):=by
  rw [nat_val,quo_u64,← nat_val a,← nat_val b]
  exact (Int.natCast_ediv _ _).symm
 exact Int.ofNat_inj.1 h
def deltaZ (n o:Int) (u E J:Nat):S × I .i64 :=
 if (n - o).natAbs < U.top then
  if (-n / (E:Int) - (n - o) / (u:Int)).natAbs < U.top then
   if ((-n / (E:Int) - (n - o) / (u:Int)) * (u:Int)).natAbs < U.top then (S.of ((-n / (E:Int) - (n - o) / (u:Int)) * (u:Int) / ((E / J + u:Nat):Int)),I.of .i64 0)
   else (S.of 0,I.of .i64 4)
  else (S.of 0,I.of .i64 4)
 else (S.of 0,I.of .i64 4)
theorem bnot_t {c:Bool} (h:bnot c = true):c = false:=by
 cases c
 ·
  rfl
 ·
  cases h
theorem bnot_f {c:Bool} (h:bnot c = false):c = true:=by
 cases c
 ·
  cases h
 ·
  rfl
def Prm.eq (p:Prm):I .u64:=p.2.2.2.2.2.2.2.2.1
def Prm.inertia (p:Prm):I .u64:=p.2.2.2.2.2.2.2.2.2.1
def deltaS (a b:S) (u:I .u64) (p:Prm):S × I .i64 :=
 if validP p = true then
  if validB a = true then
   if validB b = true then
    if u.nat = 0 then (S.of 0,I.of .i64 2)
    else deltaZ a.int b.int u.nat (Prm.eq p).nat (Prm.inertia p).nat
   else (S.of 0,I.of .i64 2)
  else (S.of 0,I.of .i64 2)
 else (S.of 0,I.of .i64 15)
theorem deltaS_t {a b:S} {u:I .u64} {p:Prm} (hp:validP p = true) (ha:validB a = true) (hb:validB b = true) (hu:u.nat ≠ 0):deltaS a b u p = deltaZ a.int b.int u.nat (Prm.eq p).nat (Prm.inertia p).nat:=by
 unfold deltaS
 rw [if_pos hp,if_pos ha,if_pos hb,if_neg hu]
theorem u64_zero (u:I .u64):I.eqb u (I.of .u64 0) = true ↔ u.nat = 0:=by
 rw [iff_eqb]
 have:=nat_val u
 have e0:(I.of .u64 0).val = 0:=rfl
 omega
theorem Delta_eq (a b:S) (u:I .u64) (p:Prm):l1price_Delta K0 ((a,b,u,p,()),()) = some (((deltaS a b u p).1,(deltaS a b u p).2,()),()):=by
 refine Wp.out (T:=fun o=>o = some (((deltaS a b u p).1,(deltaS a b u p).2,()),())) ?_
 unfold l1price_Delta
 refine Wp.jn (fun s=>s.1.1 = u∧s.2.1 = a∧s.2.2.1 = b∧s.2.2.2.1 = p∧validP p = true∧validB a = true∧validB b = true∧u.nat ≠ 0) ?_ ?_
 ·
  rintro ⟨⟨u',⟨⟩⟩,a',b',p',z',⟨⟩⟩ ⟨e0,e1,e2,e3,hp,ha,hb,hu⟩
  simp only at e0 e1 e2 e3
  subst e0 e1 e2 e3
  obtain ⟨hE1,hE2,hJ⟩:1 ≤ (Prm.eq p').nat∧(Prm.eq p').nat ≤ 1099511627776∧1 ≤ (Prm.inertia p').nat:=validP_div hp
  rw [deltaS_t hp ha hb hu]
  have hx:=S.lt a'
  have hy:=S.lt b'
  have hxn:(-S.int a').natAbs < U.top:=by omega
  refine Wp.optF (Neg_t ha) (Wp.optF (a1Y _) ?_)
  refine Wp.optF (DivFloor_i (Prm.eq p') hxn (by omega)) ?_
  have hq:=floor_abs (-S.int a') (Prm.eq p').nat (by omega)
  refine Wp.optF (SSub_t (x:=a') (y:=b') ha hb) ?_
  unfold deltaZ
  by_cases h1:(S.int a' - S.int b').natAbs < U.top
  ·
   rw [resS_lt h1,if_pos h1]
   refine Wp.brnF rfl (Wp.optF (a1Y _) ?_)
   refine Wp.optF (DivFloor_i u' h1 hu) ?_
   have hq2:=floor_abs (S.int a' - S.int b') u'.nat hu
   refine Wp.optF (SSub_i (z:=-S.int a' / ((Prm.eq p').nat:Int)) (w:=(S.int a' - S.int b') / (u'.nat:Int)) (by omega) (by omega)) ?_
   generalize hd:-S.int a' / ((Prm.eq p').nat:Int) - (S.int a' - S.int b') / (u'.nat:Int) = d
   by_cases h2:d.natAbs < U.top
   ·
    rw [resS_lt h2,if_pos h2]
    refine Wp.brnF rfl (Wp.optF (a1Y _) ?_)
    have hun:=top_u64 u'
    have hm:=SMul_i (z:=d) (w:=(u'.nat:Int)) h2 (by omega)
    rw [← posS] at hm
    refine Wp.optF hm ?_
    by_cases h3:(d * (u'.nat:Int)).natAbs < U.top
    ·
     rw [resS_lt h3,if_pos h3]
     refine Wp.brnF rfl ?_
     refine Wp.brnT ?_ ?_
     ·
      rw [iff_nz]
      have:=nat_val (Prm.inertia p')
      show (Prm.inertia p').val ≠ 0
      omega
     refine Wp.optF (a1Y _) (Wp.optF (a1Y _) (Wp.optF (SatAdd_eq (u64U (I.quo (Prm.eq p') (Prm.inertia p'))) (u64U u')) ?_))
     have hn1:=a2B (I.quo (Prm.eq p') (Prm.inertia p'))
     have hn2:=a2B u'
     have hsum:(U.of (min ((u64U (I.quo (Prm.eq p') (Prm.inertia p'))).val + (u64U u').val) (U.top - 1))).val = (Prm.eq p').nat / (Prm.inertia p').nat + u'.nat:=by
      rw [u64U_val,u64U_val,Nat.min_eq_left (by unfold U.top; omega),U.val_of (by unfold U.top; omega),quo_nat]
     refine Wp.optF (DivFloor_u (U.of (min ((u64U (I.quo (Prm.eq p') (Prm.inertia p'))).val + (u64U u').val) (U.top - 1))) h3 (by rw [hsum]; exact Nat.ne_of_gt (Nat.lt_of_lt_of_le (Nat.pos_of_ne_zero hu) (Nat.le_add_left _ _)))) ?_
     rw [hsum]
     rfl
    ·
     rw [resS_ge (by omega),if_neg h3]
     exact Wp.brnT rfl rfl
   ·
    rw [resS_ge (by omega),if_neg h2]
    exact Wp.brnT rfl rfl
  ·
   rw [resS_ge (by omega),if_neg h1]
   exact Wp.brnT rfl rfl
 ·
  intro j hj
  refine Wp.optF (PrmValid_eq p) ?_
  refine Wp.brn (fun h=>?_) (fun h=>?_)
  ·
   have hp:validP p = false:=bnot_t h
   unfold deltaS
   rw [hp]
   rfl
  ·
   have hp:validP p = true:=bnot_f h
   refine Wp.optF (Valid_eq a) ?_
   refine Wp.brn (fun h=>?_) (fun h=>?_)
   ·
    have ha:validB a = false:=bnot_t h
    unfold deltaS
    rw [if_pos hp,ha]
    rfl
   ·
    have ha:validB a = true:=bnot_f h
    refine Wp.optF (Valid_eq b) ?_
    refine Wp.brn (fun h=>?_) (fun h=>?_)
    ·
     have hb:validB b = false:=bnot_t h
     unfold deltaS
     rw [if_pos hp,if_pos ha,hb]
     rfl
    ·
     have hb:validB b = true:=bnot_f h
     refine Wp.brn (fun h=>?_) (fun h=>?_)
     ·
      have hu:=(u64_zero u).1 h
      unfold deltaS
      rw [if_pos hp,if_pos ha,if_pos hb,if_pos hu]
      rfl
     ·
      have hu:u.nat ≠ 0:=fun h0=>by
       rw [(u64_zero u).2 h0] at h; cases h
      exact hj _ ⟨rfl,rfl,rfl,rfl,hp,ha,hb,hu⟩
def nextS (c:U) (a b:S) (u:I .u64) (p:Prm):U × I .i64 :=
 if validP p = true then
  if validB a = true then
   if validB b = true then
    if u.nat = 0 then (c,I.of .i64 0)
    else if I.neb (deltaS a b u p).2 (I.of .i64 0) = true then (U.of 0,(deltaS a b u p).2) else clampS c (deltaS a b u p).1
   else (U.of 0,I.of .i64 2)
  else (U.of 0,I.of .i64 2)
 else (U.of 0,I.of .i64 15)
theorem Next_eq (c:U) (a b:S) (u:I .u64) (p:Prm):l1price_Next K0 ((c,a,b,u,p,()),()) = some (((nextS c a b u p).1,(nextS c a b u p).2,()),()):=by
 refine Wp.out (T:=fun o=>o = some (((nextS c a b u p).1,(nextS c a b u p).2,()),())) ?_
 unfold l1price_Next
 refine Wp.jn (fun s=>s.1.1 = u∧s.2.1 = c∧s.2.2.1 = a∧s.2.2.2.1 = b∧s.2.2.2.2.1 = p∧validP p = true∧validB a = true∧validB b = true∧u.nat ≠ 0) ?_ ?_
 ·
  rintro ⟨⟨u',⟨⟩⟩,c',a',b',p',z',⟨⟩⟩ ⟨e0,e1,e2,e3,e4,hp,ha,hb,hu⟩
  simp only at e0 e1 e2 e3 e4
  subst e0 e1 e2 e3 e4
  refine Wp.optF (Delta_eq _ _ _ _) ?_
  unfold nextS
  rw [if_pos hp,if_pos ha,if_pos hb,if_neg hu]
  refine Wp.brn (fun h=>?_) (fun h=>?_)
  ·
   rw [if_pos h]
   rfl
  ·
   rw [if_neg (by rw [h]; decide)]
   exact Wp.optF (AddClamped_eq _ _) rfl
 ·
  intro j hj
  refine Wp.optF (PrmValid_eq p) ?_
  refine Wp.brn (fun h=>?_) (fun h=>?_)
  ·
   have hp:validP p = false:=bnot_t h
   unfold nextS
   rw [hp]
   rfl
  ·
   have hp:validP p = true:=bnot_f h
   refine Wp.jn (fun s=>s.1.1 = u∧s.1.2.1 = (!(validB a && validB b))∧s.2.1 = c∧s.2.2.1 = a∧s.2.2.2.1 = b∧s.2.2.2.2.1 = p) ?_ ?_
   ·
    rintro ⟨⟨u',v',⟨⟩⟩,c',a',b',p',z',⟨⟩⟩ ⟨e0,e00,e1,e2,e3,e4⟩
    simp only at e0 e00 e1 e2 e3 e4
    subst e0 e00 e1 e2 e3 e4
    refine Wp.brn (fun h=>?_) (fun h=>?_)
    ·
     replace h:(!(validB a' && validB b')) = true:=h
     unfold nextS
     rw [if_pos hp]
     by_cases ha:validB a' = true
     ·
      rw [if_pos ha]
      have hb:validB b' = false:=by rw [ha] at h; simpa using h
      rw [hb]
      rfl
     ·
      rw [if_neg ha]
      rfl
    ·
     replace h:(!(validB a' && validB b')) = false:=h
     have hab:validB a' = true∧validB b' = true:=by simpa using h
     refine Wp.brn (fun h=>?_) (fun h=>?_)
     ·
      have hu:=(u64_zero u').1 h
      unfold nextS
      rw [if_pos hp,if_pos hab.1,if_pos hab.2,if_pos hu]
      rfl
     ·
      have hu:u'.nat ≠ 0:=fun h0=>by
       rw [(u64_zero u').2 h0] at h; cases h
      exact hj _ ⟨rfl,rfl,rfl,rfl,rfl,hp,hab.1,hab.2,hu⟩
   ·
    intro j2 hj2
    refine Wp.optF (Valid_eq a) ?_
    refine Wp.brn (fun h=>?_) (fun h=>?_)
    ·
     have ha:validB a = false:=bnot_t h
     exact hj2 _ ⟨rfl,by rw [ha]; rfl,rfl,rfl,rfl,rfl⟩
    ·
     have ha:validB a = true:=bnot_f h
     refine Wp.optF (Valid_eq b) ?_
     exact hj2 _ ⟨rfl,by rw [ha]; rfl,rfl,rfl,rfl,rfl⟩
end Sym

/- The price of a unit: the laws over valid parameters. -/
namespace Sym
open Go
theorem add_nat_lt (a b:I .u64) (h:a.nat + b.nat < 18446744073709551616):(I.add a b).nat = a.nat + b.nat:=by
 rw [add_nat]; exact Nat.mod_eq_of_lt h
end Sym

/- What the fees rest on. -/

/- The compression: what both programs compute. -/
namespace Sym
open Go
abbrev B8:Type:=I .u8
def at8 (b:List B8) (i:Nat):B8:=rdL (I.of .u8 0) b i
def mLen (b:List B8) (p d:Nat):Nat→Nat→Nat
 | 0,n=>n
 | f + 1,n=>if I.eqb (at8 b (p + n)) (at8 b (p + n - d)) = true then mLen b p d f (n + 1) else n
theorem mLen_le (b:List B8) (p d:Nat):∀ f n,n ≤ mLen b p d f n∧mLen b p d f n ≤ n + f
 | 0,n=>⟨Nat.le_refl _,Nat.le_refl _⟩
 | f + 1,n=>by
  have:=mLen_le b p d f (n + 1)
  show n ≤ (if I.eqb (at8 b (p + n)) (at8 b (p + n - d)) = true then mLen b p d f (n + 1) else n)∧(if I.eqb (at8 b (p + n)) (at8 b (p + n - d)) = true then mLen b p d f (n + 1) else n) ≤ _
  split <;> omega
theorem matchLen_eq (b:List B8) (p d m:Nat) (hb:b.length ≤ 1073741824) (hm:p + m ≤ b.length) (hd:1 ≤ d) (hdp:d ≤ p):lz_matchLen K0 ((b,i6 p,i6 d,i6 m,()),()) = some ((i6 (mLen b p d m 0),()),()):=by
 refine Wp.out (T:=fun o=>o = some ((i6 (mLen b p d m 0),()),())) ?_
 unfold lz_matchLen
 refine Wp.iter (fun x=>∃ n,n ≤ m∧x = ((b,i6 p,i6 d,i6 m,i6 n,()),())∧mLen b p d (m - n) n = mLen b p d m 0) (fun x=>m - x.1.2.2.2.2.1.val.toNat) ?_ ⟨0,by omega,rfl,rfl⟩ ?_
 ·
  rintro x ⟨n,hn,rfl,hf⟩
  simp only [i6_ltb (show n < 9223372036854775808 by omega) (show m < 9223372036854775808 by omega)]
  refine Wp.brn (fun h=>?_) (fun h=>?_)
  ·
   have h:=of_decide_eq_true h
   simp only [i6_add (show p + n < 9223372036854775808 by omega),i6_sub (show p + n < 9223372036854775808 by omega) (show d ≤ p + n by omega),i6_nat (show p + n < 9223372036854775808 by omega),i6_nat (show p + n - d < 9223372036854775808 by omega)]
   refine Wp.brnT (i6_inB (by show p + n < b.length; omega) (by omega)) (Wp.brnT (i6_inB (by show p + n - d < b.length; omega) (by omega)) ?_)
   obtain ⟨k,hk⟩:∃ k,m - n = k + 1:=⟨m - n - 1,by omega⟩
   rw [hk] at hf
   have hf':(if I.eqb (at8 b (p + n)) (at8 b (p + n - d)) = true then mLen b p d k (n + 1) else n) = mLen b p d m 0:=hf
   refine Wp.brn (fun h2=>?_) (fun h2=>?_)
   ·
    rw [if_pos (show I.eqb (at8 b (p + n)) (at8 b (p + n - d)) = true from h2)] at hf'
    refine Wp.again ⟨n + 1,by omega,?_,by rw [show m - (n + 1) = k by omega]; exact hf'⟩ ?_
    ·
     show ((b,i6 p,i6 d,i6 m,I.add (i6 n) (i6 1),()),()) = _
     rw [i6_add (by omega)]
    ·
     show m - (I.add (i6 n) (i6 1)).val.toNat < m - (i6 n).val.toNat
     rw [i6_add (by omega),a1J (by omega),a1J (by omega)]
     omega
   ·
    rw [if_neg (show ¬ I.eqb (at8 b (p + n)) (at8 b (p + n - d)) = true by rw [show I.eqb (at8 b (p + n)) (at8 b (p + n - d)) = false from h2]; simp)] at hf'
    refine Wp.done ?_
    show some ((i6 n,()),()) = _
    rw [hf']
  ·
   have h:=of_decide_eq_false h
   refine Wp.done ?_
   show some ((i6 n,()),()) = _
   rw [← hf,show m - n = 0 by omega]
   rfl
 ·
  exact K0_ge _ (by show m - (i6 0).val.toNat < _; omega)
def bst (b:List B8) (p m:Nat):Nat→Nat→Nat × Nat→Nat × Nat
 | 0,_,r=>r
 | f + 1,d,r=>bst b p m f (d + 1) (if r.1 < mLen b p d m 0 then (mLen b p d m 0,d) else r)
theorem bst_full (b:List B8) (p m:Nat):∀ f d r,r.1 = m→bst b p m f d r = r
 | 0,d,r,h=>rfl
 | f + 1,d,r,h=>by
  show bst b p m f (d + 1) (if r.1 < mLen b p d m 0 then (mLen b p d m 0,d) else r) = r
  have:=(mLen_le b p d m 0).2
  rw [if_neg (by omega),bst_full b p m f (d + 1) r h]
theorem bst_ok (b:List B8) (p m:Nat):∀ f d r,r.1 ≤ m→1 ≤ d→d + f ≤ 1025→(1 ≤ r.1→1 ≤ r.2∧r.2 ≤ 1024)→r.2 ≤ 1024→(bst b p m f d r).1 ≤ m∧(bst b p m f d r).2 ≤ 1024∧(1 ≤ (bst b p m f d r).1→1 ≤ (bst b p m f d r).2∧(bst b p m f d r).2 ≤ 1024)
 | 0,d,r,h,_,_,h1,h2=>⟨h,h2,h1⟩
 | f + 1,d,r,h,hd,hf,h1,h2=>by
  have h3:=(mLen_le b p d m 0).2
  refine bst_ok b p m f (d + 1) _ ?_ (by omega) (by omega) ?_ ?_
  ·
   split <;> omega
  ·
   split
   ·
    intro _; simp only; omega
   ·
    exact h1
  ·
   split <;> omega
def bestS (b:List B8) (p:Nat):Nat × Nat:=bst b p (min 131 (b.length - p)) (min 1024 p) 1 (0,0)
theorem bestS_ok (b:List B8) (p:Nat):(bestS b p).1 ≤ min 131 (b.length - p)∧(bestS b p).2 ≤ 1024∧(1 ≤ (bestS b p).1→1 ≤ (bestS b p).2∧(bestS b p).2 ≤ 1024) :=
 bst_ok b p _ _ 1 (0,0) (by simp) (by omega) (by omega) (by simp) (by simp)
theorem longest_eq (b:List B8) (p:Nat) (hb:b.length ≤ 1073741824) (hp:p ≤ b.length):lz_longestMatch K0 ((b,i6 p,()),()) = some ((i6 (bestS b p).1,i6 (bestS b p).2,()),()):=by
 obtain ⟨m,em⟩:∃ m,m = min 131 (b.length - p):=⟨_,rfl⟩
 obtain ⟨D,eD⟩:∃ D,D = min 1024 p:=⟨_,rfl⟩
 have eS:bestS b p = bst b p m D 1 (0,0):=by rw [em,eD]; rfl
 rw [eS]
 refine Wp.out (T:=fun o=>o = some ((i6 (bst b p m D 1 (0,0)).1,i6 (bst b p m D 1 (0,0)).2,()),())) ?_
 unfold lz_longestMatch
 refine Wp.iter (fun x=>∃ d r,1 ≤ d∧d ≤ D + 1∧r.1 ≤ m∧r.2 ≤ D∧x = ((b,i6 p,i6 r.1,i6 r.2,i6 m,i6 d,()),())∧bst b p m (D + 1 - d) d r = bst b p m D 1 (0,0)) (fun x=>D + 1 - x.1.2.2.2.2.2.1.val.toNat) ?_ ⟨1,(0,0),by omega,by omega,by simp,by simp,?_,by rw [show D + 1 - 1 = D by omega]⟩ ?_
 ·
  rintro x ⟨d,r,h1,h2,h3,h4,rfl,hf⟩
  refine Wp.jn (fun x1=>d ≤ D∧x1.1.1 = b∧x1.1.2.1 = i6 p∧x1.1.2.2.1 = i6 r.1∧x1.1.2.2.2.1 = i6 r.2∧x1.1.2.2.2.2.1 = i6 m∧x1.1.2.2.2.2.2.1 = i6 d) ?_ ?_
  ·
   rintro ⟨⟨y1,y2,y3,y4,y5,y6,y7,y8,y9,⟨⟩⟩,⟨⟩⟩ ⟨hd,e1,e2,e3,e4,e5,e6⟩
   simp only at e1 e2 e3 e4 e5 e6
   subst e1 e2 e3 e4 e5 e6
   refine Wp.optF (matchLen_eq y1 p d m hb (by omega) h1 (by omega)) ?_
   have hml:=(mLen_le y1 p d m 0).2
   obtain ⟨k,hk⟩:∃ k,D + 1 - d = k + 1:=⟨D - d,by omega⟩
   rw [hk] at hf
   have hf':bst y1 p m k (d + 1) (if r.1 < mLen y1 p d m 0 then (mLen y1 p d m 0,d) else r) = bst y1 p m D 1 (0,0):=hf
   have hmu:D + 1 - (I.add (i6 d) (i6 1)).val.toNat < D + 1 - (i6 d).val.toNat:=by
    rw [i6_add (by omega),a1J (by omega),a1J (by omega)]
    omega
   refine Wp.brn (fun h=>?_) (fun h=>?_)
   ·
    have h:I.ltb (i6 r.1) (i6 (mLen y1 p d m 0)) = true:=h
    rw [i6_ltb (by omega) (by omega)] at h
    have h:=of_decide_eq_true h
    rw [if_pos h] at hf'
    refine Wp.again ⟨d + 1,(mLen y1 p d m 0,d),by omega,by omega,by simp only; omega,by simp only; omega,?_,by rw [show D + 1 - (d + 1) = k by omega]; exact hf'⟩ hmu
    show ((y1,i6 p,i6 (mLen y1 p d m 0),i6 d,i6 m,I.add (i6 d) (i6 1),()),()) = _
    rw [i6_add (by omega)]
   ·
    have h:I.ltb (i6 r.1) (i6 (mLen y1 p d m 0)) = false:=h
    rw [i6_ltb (by omega) (by omega)] at h
    have h:=of_decide_eq_false h
    rw [if_neg h] at hf'
    refine Wp.again ⟨d + 1,r,by omega,by omega,h3,h4,?_,by rw [show D + 1 - (d + 1) = k by omega]; exact hf'⟩ hmu
    show ((y1,i6 p,i6 r.1,i6 r.2,i6 m,I.add (i6 d) (i6 1),()),()) = _
    rw [i6_add (by omega)]
  ·
   intro j hj
   have eD':I.mn (i6 1024) (i6 p) = i6 D:=by rw [i6_mn (by omega) (by omega),eD]
   refine Wp.brn (fun h=>?_) (fun h=>?_)
   ·
    have h:I.leb (i6 d) (I.mn (i6 1024) (i6 p)) = true:=h
    rw [eD',i6_leb (by omega) (by omega)] at h
    have h:=of_decide_eq_true h
    refine Wp.brn (fun h=>?_) (fun h5=>?_)
    ·
     exact hj _ ⟨by omega,rfl,rfl,rfl,rfl,rfl,rfl⟩
    ·
     have h5:I.ltb (i6 r.1) (i6 m) = false:=h5
     rw [i6_ltb (by omega) (by omega)] at h5
     have h5:=of_decide_eq_false h5
     refine Wp.done ?_
     show some ((i6 r.1,i6 r.2,()),()) = _
     rw [← hf,bst_full b p m _ _ r (by omega)]
   ·
    have h:I.leb (i6 d) (I.mn (i6 1024) (i6 p)) = false:=h
    rw [eD',i6_leb (by omega) (by omega)] at h
    have h:=of_decide_eq_false h
    refine Wp.done ?_
    show some ((i6 r.1,i6 r.2,()),()) = _
    rw [← hf,show D + 1 - d = 0 by omega]
    rfl
 ·
  show ((b,i6 p,i6 0,i6 0,I.mn (i6 131) (I.sub (i6 b.length) (i6 p)),i6 1,()),()) = _
  rw [i6_sub (by omega) hp,i6_mn (by omega) (by omega),em]
 ·
  exact K0_ge _ (by show D + 1 - (i6 1).val.toNat < _; omega)
end Sym

/- The compression: both programs answer alike. -/
namespace Sym
open Go
def lits:Nat→List B8→List B8→List B8
 | 0,out,_=>out
 | f + 1,out,s=>if s.length = 0 then out else lits f ((out ++ [I.of .u8 ((min s.length 127:Nat):Int)]) ++ s.take (min s.length 127)) (s.drop (min s.length 127))
theorem lits_fuel:∀ f g out (s:List B8),s.length ≤ f→s.length ≤ g→lits f out s = lits g out s
 | 0,0,_,_,_,_=>rfl
 | 0,g + 1,out,s,h,_=>by
  show out = if s.length = 0 then out else _
  rw [if_pos (by omega)]
 | f + 1,0,out,s,_,h=>by
  show (if s.length = 0 then out else _) = out
  rw [if_pos (by omega)]
 | f + 1,g + 1,out,s,h,h'=>by
  show (if s.length = 0 then out else lits f _ _) = if s.length = 0 then out else lits g _ _
  by_cases h0:s.length = 0
  ·
   rw [if_pos h0,if_pos h0]
  ·
   rw [if_neg h0,if_neg h0]
   exact lits_fuel f g _ _ (by rw [List.length_drop]; omega) (by rw [List.length_drop]; omega)
def litS (out s:List B8):List B8:=lits s.length out s
theorem litS_nil (out:List B8) {s:List B8} (h:s.length = 0):litS out s = out:=by
 unfold litS
 rw [h]
 rfl
theorem litS_step (out:List B8) {s:List B8} (h:s.length ≠ 0):litS out s = litS ((out ++ [I.of .u8 ((min s.length 127:Nat):Int)]) ++ s.take (min s.length 127)) (s.drop (min s.length 127)):=by
 unfold litS
 obtain ⟨k,hk⟩:∃ k,s.length = k + 1:=⟨s.length - 1,by omega⟩
 have:lits s.length out s = lits (k + 1) out s:=by rw [hk]
 rw [this]
 show (if s.length = 0 then out else lits k _ _) = _
 rw [if_neg h]
 exact lits_fuel _ _ _ _ (by rw [List.length_drop]; omega) (Nat.le_refl _)
def tok (r:Nat × Nat):List B8:=[I.of .u8 ((r.1 + 124:Nat):Int),I.of .u8 (((r.2 - 1) / 256:Nat):Int),I.of .u8 (((r.2 - 1) % 256:Nat):Int)]
def cmpr (b:List B8):Nat→Nat→Nat→List B8→List B8
 | 0,fr,_,out=>litS out (b.drop fr)
 | f + 1,fr,p,out=>if p < b.length then (if (bestS b p).1 < 4 then cmpr b f fr (p + 1) out else cmpr b f (p + (bestS b p).1) (p + (bestS b p).1) (litS out (subL b fr (p - fr)) ++ tok (bestS b p))) else litS out (b.drop fr)
def compS (b:List B8):List B8:=cmpr b b.length 0 0 []
theorem cmpr_end {b:List B8} {f fr p:Nat} {out:List B8} (h:b.length ≤ p):cmpr b f fr p out = litS out (b.drop fr):=by
 cases f with
 | zero=>rfl
 | succ f =>
  show (if p < b.length then _ else litS out (b.drop fr)) = _
  rw [if_neg (by omega)]
theorem conv_i6z {n:Nat} (h:n < 9223372036854775808):I.conv (k:=.i64) .u8 (i6 n) = I.of .u8 (n:Int):=by
 unfold I.conv
 rw [a1J h]
theorem u8_mod (n:Nat):I.of .u8 (n:Int) = I.of .u8 ((n % 256:Nat):Int):=by
 apply I.ext'
 show IntKind.u8.wrap _ = IntKind.u8.wrap _
 simp only [IntKind.wrap,IntKind.bits,IntKind.signed,Bool.false_and,Bool.false_eq_true,if_false]
 omega
theorem shr8 {n:Nat} (h:n < 9223372036854775808):I.shr (i6 n) (I.of .u64 8) = i6 (n / 256):=by
 unfold I.shr
 have e:min (I.of .u64 8).val.toNat IntKind.i64.bits = 8:=by decide
 rw [e,a1J h,Int.fdiv_eq_ediv_of_nonneg _ (by decide)]
 show I.of .i64 _ = I.of .i64 _
 congr 1
theorem Compress_eq (b:List B8) (hb:b.length ≤ 100000000):lz_Compress K0 ((b,()),()) = some ((compS b,()),())∧(compS b).length ≤ 2 * b.length:=by
 refine Wp.out (T:=fun o=>o = some ((compS b,()),())∧(compS b).length ≤ 2 * b.length) ?_
 unfold lz_Compress
 refine Wp.iter (fun x=>∃ fr p out f,fr ≤ p∧p ≤ b.length∧out.length ≤ 2 * fr∧b.length - p ≤ f∧x = ((b,i6 fr,i6 p,()),(out,()))∧cmpr b f fr p out = compS b) (fun x=>b.length - x.1.2.2.1.val.toNat) ?_ ⟨0,0,[],b.length,by omega,by omega,by simp,by omega,rfl,rfl⟩ ?_
 ·
  rintro x ⟨fr,p,out,f,h1,h2,h3,h4,rfl,hf⟩
  refine Wp.brn (fun h=>?_) (fun h=>?_)
  ·
   have h:I.ltb (i6 p) (i6 b.length) = true:=h
   rw [i6_ltb (by omega) (by omega)] at h
   have h:=of_decide_eq_true h
   obtain ⟨k,rfl⟩:∃ k,f = k + 1:=⟨f - 1,by omega⟩
   have hf':(if p < b.length then (if (bestS b p).1 < 4 then cmpr b k fr (p + 1) out else cmpr b k (p + (bestS b p).1) (p + (bestS b p).1) (litS out (subL b fr (p - fr)) ++ tok (bestS b p))) else litS out (b.drop fr)) = compS b:=hf
   rw [if_pos h] at hf'
   refine Wp.optF (longest_eq b p (by omega) h2) ?_
   obtain ⟨q1,q2,q3⟩:=bestS_ok b p
   refine Wp.brn (fun h5=>?_) (fun h5=>?_)
   ·
    have h5:I.ltb (i6 (bestS b p).1) (i6 4) = true:=h5
    rw [i6_ltb (by omega) (by omega)] at h5
    have h5:=of_decide_eq_true h5
    rw [if_pos h5] at hf'
    refine Wp.again ⟨fr,p + 1,out,k,by omega,by omega,h3,by omega,?_,hf'⟩ ?_
    ·
     show ((b,i6 fr,I.add (i6 p) (i6 1),()),(out,())) = _
     rw [i6_add (by omega)]
    ·
     show b.length - (I.add (i6 p) (i6 1)).val.toNat < b.length - (i6 p).val.toNat
     rw [i6_add (by omega),a1J (by omega),a1J (by omega)]
     omega
   ·
    have h5:I.ltb (i6 (bestS b p).1) (i6 4) = false:=h5
    rw [i6_ltb (by omega) (by omega)] at h5
    have h5:=of_decide_eq_false h5
    rw [if_neg h5] at hf'
    have ep:I.nat (i6 p) = p:=i6_nat (by omega)
    have ef:I.nat (i6 fr) = fr:=i6_nat (by omega)
    simp only [ep,ef]
    refine Wp.brnT (i6_inB' (by omega) (by omega)) (Wp.brnT (i6_inB' h2 (by omega)) ?_)
    generalize hs0:subL b fr (p - fr) = s0 at hf' ⊢
    have hs0l:s0.length = p - fr:=by rw [← hs0]; simp [subL]; omega
    refine Wp.iter (fun y=>∃ s o,y = ((s,b,i6 p,i6 (bestS b p).1,i6 (bestS b p).2,()),(o,()))∧litS o s = litS out s0∧o.length + 2 * s.length ≤ 2 * p) (fun y=>y.1.1.length) ?_ ⟨s0,out,rfl,rfl,by omega⟩ (K0_ge _ (by show s0.length < _; omega))
    rintro y ⟨s,o,rfl,hl,hlen⟩
    refine Wp.brn (fun h6=>?_) (fun h6=>?_)
    ·
     have h6:I.ltb (i6 0) (i6 s.length) = true:=h6
     rw [i6_ltb (by omega) (by omega)] at h6
     have h6:=of_decide_eq_true h6
     have em:I.mn (i6 s.length) (i6 127) = i6 (min s.length 127):=i6_mn (by omega) (by omega)
     have em':I.mn (I.ofNat .i64 (a1I s)) (I.of .i64 127) = i6 (min s.length 127):=em
     simp only [em',i6_nat (show min s.length 127 < 9223372036854775808 by omega),conv_i6z (show min s.length 127 < 9223372036854775808 by omega),subL_take,subL_drop]
     refine Wp.brnT (iff_fits.2 (by simp [appL,a1I]; omega)) (Wp.brnT (i6_inB' (by show min s.length 127 ≤ s.length; omega) (by omega)) (Wp.brnT (iff_fits.2 (by simp [appL,a1I]; omega)) (Wp.brnT (i6_inB' (by show min s.length 127 ≤ s.length; omega) (by omega)) ?_)))
     refine Wp.again ⟨s.drop (min s.length 127),(o ++ [I.of .u8 ((min s.length 127:Nat):Int)]) ++ s.take (min s.length 127),rfl,?_,?_⟩ ?_
     ·
      rw [← hl,litS_step o (by omega)]
     ·
      simp only [List.length_append,List.length_cons,List.length_nil,List.length_take,List.length_drop]
      omega
     ·
      show (s.drop (min s.length 127)).length < s.length
      rw [List.length_drop]; omega
    ·
     have h6:I.ltb (i6 0) (i6 s.length) = false:=h6
     rw [i6_ltb (by omega) (by omega)] at h6
     have h6:=of_decide_eq_false h6
     rw [litS_nil o (by omega)] at hl
     have et:appL o ((I.conv (k:=.i64) .u8 (I.add (i6 (bestS b p).1) (I.of .i64 124))) :: ((I.conv (k:=.i64) .u8 (I.shr (I.sub (i6 (bestS b p).2) (I.of .i64 1)) (I.of .u64 8))) :: ((I.conv (k:=.i64) .u8 (I.sub (i6 (bestS b p).2) (I.of .i64 1))) :: []))) = o ++ tok (bestS b p):=by
      have e1:I.add (i6 (bestS b p).1) (I.of .i64 124) = i6 ((bestS b p).1 + 124):=i6_add (m:=124) (by omega)
      have e2:I.sub (i6 (bestS b p).2) (I.of .i64 1) = i6 ((bestS b p).2 - 1):=i6_sub (m:=1) (by omega) (by omega)
      rw [e1,e2,shr8 (by omega),conv_i6z (by omega),conv_i6z (by omega),conv_i6z (by omega),u8_mod ((bestS b p).2 - 1)]
      rfl
     refine Wp.done ?_
     rw [et]
     have hlt:(tok (bestS b p)).length = 3:=rfl
     refine Wp.brnT (iff_fits.2 (by simp only [a1I,List.length_append,hlt]; omega)) ?_
     have ea:I.add (i6 p) (i6 (bestS b p).1) = i6 (p + (bestS b p).1):=i6_add (by omega)
     rw [ea]
     refine Wp.again ⟨p + (bestS b p).1,p + (bestS b p).1,o ++ tok (bestS b p),k,by omega,by omega,?_,by omega,rfl,?_⟩ ?_
     ·
      simp only [List.length_append,hlt]; omega
     ·
      rw [hl]; exact hf'
     ·
      show b.length - (i6 (p + (bestS b p).1)).val.toNat < b.length - (i6 p).val.toNat
      rw [a1J (by omega),a1J (by omega)]
      omega
  ·
   have h:I.ltb (i6 p) (i6 b.length) = false:=h
   rw [i6_ltb (by omega) (by omega)] at h
   have h:=of_decide_eq_false h
   rw [cmpr_end (by omega)] at hf
   refine Wp.done ?_
   have ef:I.nat (i6 fr) = fr:=i6_nat (by omega)
   simp only [ef,subL_drop]
   refine Wp.brnT (i6_inB' (by show fr ≤ b.length; omega) (by omega)) ?_
   have hs0l:(b.drop fr).length = b.length - fr:=List.length_drop
   generalize b.drop fr = s0 at hf hs0l ⊢
   refine Wp.iter (fun y=>∃ s o,y = ((s,()),(o,()))∧litS o s = litS out s0∧o.length + 2 * s.length ≤ 2 * b.length) (fun y=>y.1.1.length) ?_ ⟨s0,out,rfl,rfl,by omega⟩ (K0_ge _ (by show s0.length < _; omega))
   rintro y ⟨s,o,rfl,hl,hlen⟩
   refine Wp.brn (fun h6=>?_) (fun h6=>?_)
   ·
    have h6:I.ltb (i6 0) (i6 s.length) = true:=h6
    rw [i6_ltb (by omega) (by omega)] at h6
    have h6:=of_decide_eq_true h6
    have em:I.mn (i6 s.length) (i6 127) = i6 (min s.length 127):=i6_mn (by omega) (by omega)
    have em':I.mn (I.ofNat .i64 (a1I s)) (I.of .i64 127) = i6 (min s.length 127):=em
    simp only [em',i6_nat (show min s.length 127 < 9223372036854775808 by omega),conv_i6z (show min s.length 127 < 9223372036854775808 by omega),subL_take,subL_drop]
    refine Wp.brnT (iff_fits.2 (by simp [appL,a1I]; omega)) (Wp.brnT (i6_inB' (by show min s.length 127 ≤ s.length; omega) (by omega)) (Wp.brnT (iff_fits.2 (by simp [appL,a1I]; omega)) (Wp.brnT (i6_inB' (by show min s.length 127 ≤ s.length; omega) (by omega)) ?_)))
    refine Wp.again ⟨s.drop (min s.length 127),(o ++ [I.of .u8 ((min s.length 127:Nat):Int)]) ++ s.take (min s.length 127),rfl,?_,?_⟩ ?_
    ·
     rw [← hl,litS_step o (by omega)]
    ·
     simp only [List.length_append,List.length_cons,List.length_nil,List.length_take,List.length_drop]
     omega
    ·
     show (s.drop (min s.length 127)).length < s.length
     rw [List.length_drop]; omega
   ·
    have h6:I.ltb (i6 0) (i6 s.length) = false:=h6
    rw [i6_ltb (by omega) (by omega)] at h6
    have h6:=of_decide_eq_false h6
    rw [litS_nil o (by omega)] at hl
    refine Wp.done ?_
    rw [← hf,← hl]
    exact ⟨rfl,by omega⟩
 ·
  exact K0_ge _ (by show b.length - (i6 0).val.toNat < _; omega)
end Sym

/- The compression of the reference. -/
namespace Sym
open Go
end Sym
