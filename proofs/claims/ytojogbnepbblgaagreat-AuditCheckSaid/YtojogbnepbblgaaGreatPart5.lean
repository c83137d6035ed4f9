/- The contracts of the given functions. -/
import Derived.Test.YtojogbnepbblgaaGreatProg
import Derived.Test.YtojogbnepbblgaaGreatPart4
import Derived.Test.YtojogbnepbblgaaGreatPart3
namespace Sym
open Go Go.Proofs
set_option maxRecDepth 100000
noncomputable abbrev tp:Program:=Tryz.prog
def tys:List (Nat × Ty):=[(2,(.int .i64)),(3,(.int .i64)),(4,.bool),(5,(.int .u8)),(6,(.int .u8)),(7,a9E),(8,a9E),(9,.str),(10,.str),(11,.str),(22,(.sl a1K)),(23,(.sl a1R)),(24,(.sl (.int .i64))),(25,(.int .u64)),(27,a1U),(29,(.int .i64)),(31,a3T),(32,(.sl a0Q)),(34,a1R),(35,.opq),(40,a1E),(45,a0S),(47,a1T),(49,a1Z),(50,(.sl a1B)),(52,a1C),(53,(.sl a0Z)),(54,(.arr 4 a1U)),(55,(.sl .bool)),(56,(.sl a1A)),(58,a1X),(60,(.int .u64)),(62,a0Q),(64,a1B),(68,(.sl (.int .u8))),(70,a1Y),(72,a0Q),(73,(.sl (.arr 32 (.int .u8)))),(75,a7M),(77,a1K),(78,(.arr 5 (.int .u64))),(86,(.int .u64)),(88,(.cons .bool .nil)),(90,.opq),(91,.opq),(92,(.sl (.int .i64))),(93,(.arr 8 (.sl (.int .i64)))),(95,a4I),(98,.opq),(99,.opq),(101,a1N),(104,a0O),(105,(.sl (.int .u64))),(107,a0U),(110,(.arr 5 (.int .u64))),(121,(.sl a1U)),(123,.opq),(140,.opq),(143,a0Z),(146,a1A),(165,a2E),(178,(.arr 12 (.int .u64))),(184,(.arr 32 (.int .u8))),(187,(.arr 6 (.int .u64))),(219,(.arr 12 a1U)),(237,.opq),(243,a1D),(261,(.arr 12 .bool)),(267,(.int .u32)),(268,(.arr 8 (.int .u32))),(272,(.arr 64 (.int .u32)))]
def eqs:List (Nat × Ty):=[(2,(.int .i64)),(3,(.int .i64)),(4,.bool),(5,(.int .u8)),(6,(.int .u8)),(7,a9E),(8,a9E),(25,(.int .u64)),(27,a1U),(29,(.int .i64)),(31,a3T),(35,.opq),(40,a1E),(45,a0S),(47,a1T),(49,a1Z),(54,(.arr 4 a1U)),(60,(.int .u64)),(62,a0Q),(64,a1B),(72,a0Q),(78,(.arr 5 (.int .u64))),(86,(.int .u64)),(88,(.cons .bool .nil)),(90,.opq),(91,.opq),(98,.opq),(99,.opq),(110,(.arr 5 (.int .u64))),(123,.opq),(140,.opq),(143,a0Z),(146,a1A),(178,(.arr 12 (.int .u64))),(184,(.arr 32 (.int .u8))),(187,(.arr 6 (.int .u64))),(219,(.arr 12 a1U)),(237,.opq),(261,(.arr 12 .bool)),(267,(.int .u32)),(268,(.arr 8 (.int .u32))),(272,(.arr 64 (.int .u32)))]
theorem g5M:tys.all (fun x=>tiB tp x.1 x.2) = true:=by kernel_rfl
theorem g6E:eqs.all (fun x=>g6R tp x.1 x.2) = true:=by kernel_rfl
theorem follows:tp.follows .mixedOrders = true:=by kernel_rfl
theorem f7X:f2U tp:=f5D (by kernel_rfl)
def owns:List Nat:=[34,58,101,104,107]
def meths:List (Nat × String × FuncId × Option Nat):=[]
theorem e9A:meths.all (fun x=>e9F tp x.1 x.2.1 x.2.2.1 x.2.2.2) = true:=by kernel_rfl
theorem a3Z {C:Con} {n k:Nat} {hs:List (Nat × How)} {A:g1X} (h:HowsOk tp hs) (e:∀ x,f2V (e8J tp tys eqs hs owns meths) A n C.In C.Out k K0 x = C.F x) (hko:c5R C.In.heap C.Out.heap = true:=by rfl):a1Q tp n C:=e8P (E:=e8J tp tys eqs hs owns meths) (g5Q g5M g6E h follows e9A) f7X (fun x _ h=>⟨A,k,K0,(e x).trans h⟩) hko
theorem e9J {C:Con} {n k:Nat} {hs:List (Nat × How)} {A:g1X} (h:HowsOk tp hs) (e:∀ x,d1Z (e8J tp tys eqs hs owns meths) A n C.In C.Out k K0 x = C.F x):c0K tp n C:=e2C (E:=e8J tp tys eqs hs owns meths) (g5Q g5M g6E h follows e9A) f7X fun x _ h=>⟨A,k,K0,(e x).trans h⟩
noncomputable section
def b6V:Con:=⟨⟨[],[]⟩,⟨[.pl a0S],[]⟩,b7X K0⟩
theorem h2O:a1Q tp 41 b6V:=a3Z (n:=41) (k:=60) (hs:=[]) (A:=fun _ _=>none) trivial (by intro x; kernel_rfl)
def a1O:Con:=⟨⟨[.pl (.sl (.int .i64))],[]⟩,⟨[.pl a1U],[]⟩,a0K K0⟩
theorem e0Q:a1Q tp 24 a1O:=a3Z (n:=24) (k:=60) (hs:=[]) (A:=b0Y [([1000000,24],6,.join ⟨(.pl (.sl (.int .i64))::dd 1 (.ptr 0 []::.ptr 1 []::.pl (.int .i64)::dd 5 (.pl (.int .i64)::.pl .bool::dd 22 []))),[.box a1U (.pl a1U),.box a1U (.pl a1U)]⟩),([24],0,.tmpl ⟨(.pl (.sl (.int .i64))::dd 1 (.ptr 0 []::.ptr 1 []::.pl (.int .i64)::dd 29 [])),[.box a1U (.pl a1U),.box a1U (.pl a1U)]⟩)]) trivial (by intro x; kernel_rfl)
def a3N:Con:=⟨⟨[.pl (.sl (.int .i64)),.pl (.sl (.int .i64))],[]⟩,⟨[.pl (.int .i64)],[]⟩,a2L K0⟩
theorem e8X:a1Q tp 36 a3N:=a3Z (n:=36) (k:=60) (hs:=[]) (A:=b0Y [([36],0,.tmpl ⟨(.pl (.sl (.int .i64))::.pl (.sl (.int .i64))::dd 3 (.pl (.int .i64)::dd 35 [])),[]⟩)]) trivial (by intro x; kernel_rfl)
def a8T:Con:=⟨⟨[.pl (.sl (.int .i64)),.pl (.sl (.int .i64))],[]⟩,⟨[.pl (.sl (.int .i64))],[]⟩,a4K K0⟩
theorem g4O:a1Q tp 83 a8T:=a3Z (n:=83) (k:=60) (hs:=[(36,.con a3N)]) (A:=fun _ _=>none) ⟨e8X,trivial⟩ (by intro x; kernel_rfl)
def b2T:Con:=⟨⟨[.pl (.sl (.int .i64))],[]⟩,⟨[.pl (.sl (.int .i64))],[]⟩,a6C K0⟩
theorem g7J:a1Q tp 58 b2T:=a3Z (n:=58) (k:=60) (hs:=[]) (A:=b0Y [([58],0,.tmpl ⟨(.pl (.sl (.int .i64))::dd 2 (.pl (.int .i64)::dd 17 [])),[]⟩)]) trivial (by intro x; kernel_rfl)
def a0R:Con:=⟨⟨[.pl a1U],[]⟩,⟨[.pl (.sl (.int .i64))],[]⟩,a0B K0⟩
theorem c7D:a1Q tp 35 a0R:=a3Z (n:=35) (k:=60) (hs:=[(58,.con b2T)]) (A:=b0Y [([35],0,.tmpl ⟨(dd 1 (.ptr 0 []::dd 1 (.whole 1::.pl (.int .i64)::dd 21 []))),[.box a1U (.pl a1U),.row (.int .i64)]⟩)]) ⟨g7J,trivial⟩ (by intro x; kernel_rfl)
def a1W:Con:=⟨⟨[.pl (.int .u64)],[]⟩,⟨[.pl (.sl (.int .i64))],[]⟩,a0J K0⟩
theorem e6H:a1Q tp 84 a1W:=a3Z (n:=84) (k:=60) (hs:=[(35,.con a0R)]) (A:=fun _ _=>none) ⟨c7D,trivial⟩ (by intro x; kernel_rfl)
def a3M:Con:=⟨⟨[.pl (.sl (.int .i64)),.pl (.sl (.int .i64))],[]⟩,⟨[.pl (.sl (.int .i64))],[]⟩,a2C K0⟩
theorem f0D:a1Q tp 88 a3M:=a3Z (n:=88) (k:=60) (hs:=[(58,.con b2T)]) (A:=b0Y [([88],0,.tmpl ⟨(.pl (.sl (.int .i64))::.pl (.sl (.int .i64))::dd 3 (.whole 0::.pl (.int .i64)::dd 56 [])),[.row (.int .i64)]⟩),([88],2,.tmpl ⟨(.pl (.sl (.int .i64))::.pl (.sl (.int .i64))::dd 3 (.whole 0::.pl (.int .i64)::.pl (.int .i64)::.pl (.int .i64)::dd 54 [])),[.row (.int .i64)]⟩)]) ⟨g7J,trivial⟩ (by intro x; kernel_rfl)
def a6E:Con:=⟨⟨[.pl (.sl (.int .i64)),.pl (.sl (.int .i64))],[]⟩,⟨[.pl (.sl (.int .i64))],[]⟩,a2S K0⟩
theorem e1X:c0K tp 97 a6E:=e9J (n:=97) (k:=80) (hs:=[(58,.inl)]) (A:=b0Y [([1000000,97],10,.join ⟨(.pl (.sl (.int .i64)) :: .pl (.sl (.int .i64)) :: dd 3 (.whole 0 :: dd 1 (.pl (.int .i64) :: .pl (.int .i64) :: dd 35 []))),[.row (.int .i64)]⟩),([58,14,1,97],0,.tmpl ⟨(.whole 0 :: dd 2 (.pl (.int .i64) :: dd 61 [])),[.row (.int .i64)]⟩),([97],0,.tmpl ⟨(.pl (.sl (.int .i64)) :: .pl (.sl (.int .i64)) :: dd 3 (.whole 0 :: .pl (.int .i64) :: .pl (.int .i64) :: dd 36 [])),[.row (.int .i64)]⟩)]) trivial (by intro x; kernel_rfl)
def c0E:Con:=⟨⟨[.pl (.sl (.int .i64)),.pl (.int .i64)],[]⟩,⟨[.pl (.sl (.int .i64)),.pl (.sl (.int .i64))],[]⟩,a9X K0⟩
theorem g8Y:a1Q tp 131 c0E:=a3Z (n:=131) (k:=60) (hs:=[(58,.con b2T)]) (A:=b0Y [([131],0,.tmpl ⟨(.pl (.sl (.int .i64))::.pl (.int .i64)::dd 4 (.whole 0::.pl (.int .i64)::.pl (.int .i64)::dd 32 [])),[.row (.int .i64)]⟩)]) ⟨g7J,trivial⟩ (by intro x; kernel_rfl)
def a5D:Con:=⟨⟨[.pl (.sl (.int .i64)),.pl (.sl (.int .i64))],[]⟩,⟨[.pl (.sl (.int .i64)),.pl (.sl (.int .i64))],[]⟩,a3O K0⟩
theorem f7Q:a1Q tp 98 a5D:=a3Z (n:=98) (k:=90) (hs:=[(36,.con a3N),(58,.inl),(97,.fresh a6E),(131,.con c0E)]) (A:=b0Y [([58,18,1,98],0,.tmpl ⟨(.whole 0::dd 2 (.pl (.int .i64)::dd 17 (.pl (.sl (.int .i64))::.pl (.sl (.int .i64))::dd 4 (.whole 1::.whole 0::.pl (.int .i64)::.pl (.int .i64)::dd 104 [])))),[.row (.int .i64),.row (.int .i64)]⟩),([58,19,1,98],0,.tmpl ⟨(.whole 0::dd 2 (.pl (.int .i64)::dd 17 (.pl (.sl (.int .i64))::.pl (.sl (.int .i64))::dd 4 (.whole 1::.whole 0::.pl (.int .i64)::.pl (.int .i64)::dd 104 [])))),[.row (.int .i64),.row (.int .i64)]⟩),([58,27,1,98],0,.tmpl ⟨(.whole 0::dd 2 (.pl (.int .i64)::dd 24 (.whole 1::dd 106 []))),[.row (.int .i64),.row (.int .i64)]⟩),([58,27,3,98],0,.tmpl ⟨(.whole 0::dd 2 (.pl (.int .i64)::dd 128 (.pl (.sl (.int .i64))::dd 2 []))),[.row (.int .i64)]⟩),([98],0,.tmpl ⟨(.pl (.sl (.int .i64))::.pl (.sl (.int .i64))::dd 4 (.whole 0::.whole 1::.pl (.int .i64)::dd 105 [])),[.row (.int .i64),.row (.int .i64)]⟩),([98],2,.tmpl ⟨(.pl (.sl (.int .i64))::.pl (.sl (.int .i64))::dd 4 (.whole 0::.whole 1::.pl (.int .i64)::.pl (.int .i64)::dd 104 [])),[.row (.int .i64),.row (.int .i64)]⟩),([98],4,.tmpl ⟨(.pl (.sl (.int .i64))::.pl (.sl (.int .i64))::dd 4 (.whole 0::.whole 1::.pl (.int .i64)::.pl (.int .i64)::.pl (.int .i64)::.pl (.int .i64)::dd 102 [])),[.row (.int .i64),.row (.int .i64)]⟩),([98],6,.tmpl ⟨(.pl (.sl (.int .i64))::.pl (.sl (.int .i64))::dd 4 (.whole 0::.whole 1::.pl (.int .i64)::.pl (.int .i64)::dd 2 (.pl (.sl (.int .i64))::.pl (.int .i64)::dd 100 []))),[.row (.int .i64),.row (.int .i64)]⟩)]) ⟨e8X,e1X,g8Y,trivial⟩ (by intro x; kernel_rfl)
def c3H:Con:=⟨⟨[.pl (.int .u64),.pl (.int .u64),.pl (.int .u64)],[]⟩,⟨[.pl .bool],[]⟩,a3P K0⟩
theorem g8S:a1Q tp 157 c3H:=a3Z (n:=157) (k:=60) (hs:=[]) (A:=fun _ _=>none) trivial (by intro x; kernel_rfl)
def b0W:Con:=⟨⟨[.pl a1U],[]⟩,⟨[.pl (.int .u64),.pl .bool],[]⟩,a7J K0⟩
theorem g0T:a1Q tp 102 b0W:=a3Z (n:=102) (k:=60) (hs:=[]) (A:=fun _ _=>none) trivial (by intro x; kernel_rfl)
def b6R:Con:=⟨⟨[.pl a1U,.pl (.int .u64)],[]⟩,⟨[.pl .bool],[]⟩,a6A K0⟩
theorem g8D:a1Q tp 158 b6R:=a3Z (n:=158) (k:=60) (hs:=[(102,.con b0W)]) (A:=fun _ _=>none) ⟨g0T,trivial⟩ (by intro x; kernel_rfl)
def b3G:Con:=⟨⟨[.pl a0S],[]⟩,⟨[.pl (.int .i64)],[]⟩,a6X K0⟩
theorem g9V:a1Q tp 144 b3G:=a3Z (n:=144) (k:=90) (hs:=[(157,.con c3H),(158,.con b6R)]) (A:=fun p _=>match p with | 1000000::_=>none | _=>some (.unroll 14)) ⟨g8S,g8D,trivial⟩ (by intro x; kernel_rfl)
def a5G:Con:=⟨⟨[.pl a0S],[]⟩,⟨[.pl .bool],[]⟩,a3Q K0⟩
theorem e7B:a1Q tp 116 a5G:=a3Z (n:=116) (k:=60) (hs:=[(144,.con b3G)]) (A:=fun _ _=>none) ⟨g9V,trivial⟩ (by intro x; kernel_rfl)
def b5B:Con:=⟨⟨[.pl (.int .u64),.pl (.int .u64),.pl (.int .u64)],[]⟩,⟨[.pl (.int .u64)],[]⟩,b0A K0⟩
theorem g3Q:a1Q tp 115 b5B:=a3Z (n:=115) (k:=60) (hs:=[(24,.con a1O),(36,.con a3N),(84,.con a1W),(88,.con a3M),(97,.fresh a6E)]) (A:=fun _ _=>none) ⟨e0Q,e8X,e6H,f0D,e1X,trivial⟩ (by intro x; kernel_rfl)
def b7S:Con:=⟨⟨[.pl (.int .u64),.pl (.int .u64),.pl (.int .u64)],[]⟩,⟨[.pl (.int .u64)],[]⟩,b0Q K0⟩
theorem g8N:a1Q tp 127 b7S:=a3Z (n:=127) (k:=60) (hs:=[(115,.con b5B)]) (A:=fun _ _=>none) ⟨g3Q,trivial⟩ (by intro x; kernel_rfl)
def b5P:Con:=⟨⟨[.pl (.int .u64),.pl a0S],[]⟩,⟨[.pl (.int .u64),.pl (.int .i64)],[]⟩,a9B K0⟩
theorem h1R:a1Q tp 90 b5P:=a3Z (n:=90) (k:=60) (hs:=[(24,.con a1O),(83,.con a8T),(84,.con a1W),(88,.con a3M),(98,.con a5D),(116,.con a5G),(127,.con b7S)]) (A:=fun _ _=>none) ⟨e0Q,g4O,e6H,f0D,f7Q,e7B,g8N,trivial⟩ (by intro x; kernel_rfl)
def a1S:Con:=⟨⟨[.pl (.sl (.int .i64)),.pl (.sl (.int .i64))],[]⟩,⟨[.pl (.sl (.int .i64))],[]⟩,a0T K0⟩
theorem d2M:a1Q tp 34 a1S:=a3Z (n:=34) (k:=60) (hs:=[]) (A:=b0Y [([1000000,34],7,.join ⟨(.pl (.sl (.int .i64))::.pl (.sl (.int .i64))::dd 3 (.whole 0::.pl (.int .i64)::.pl (.int .i64)::dd 44 [])),[.row (.int .i64)]⟩),([1000000,34],9,.join ⟨(.pl (.sl (.int .i64))::.pl (.sl (.int .i64))::dd 3 (.whole 0::.pl (.int .i64)::.pl (.int .i64)::dd 44 [])),[.row (.int .i64)]⟩),([34],0,.tmpl ⟨(.pl (.sl (.int .i64))::.pl (.sl (.int .i64))::dd 3 (.whole 0::.pl (.int .i64)::.pl (.int .i64)::dd 44 [])),[.row (.int .i64)]⟩)]) trivial (by intro x; kernel_rfl)
def c2Z:Con:=⟨⟨[.pl (.int .u64),.pl (.int .i64)],[]⟩,⟨[.pl (.int .u64),.pl (.int .i64)],[]⟩,b5G K0⟩
theorem g8I:a1Q tp 128 c2Z:=a3Z (n:=128) (k:=60) (hs:=[(24,.con a1O),(34,.con a1S),(84,.con a1W),(88,.con a3M),(98,.con a5D)]) (A:=b0Y [([1000000,128],4,.join ⟨(.pl (.int .u64)::.pl (.int .i64)::dd 43 []),[]⟩),([128],0,.tmpl ⟨(.pl (.int .u64)::dd 5 (.pl (.sl (.int .i64))::.pl (.int .i64)::dd 37 [])),[]⟩)]) ⟨e0Q,d2M,e6H,f0D,f7Q,trivial⟩ (by intro x; kernel_rfl)
def a4P:Con:=⟨⟨[.pl (.sl (.int .i64))],[]⟩,⟨[.pl .bool],[]⟩,a1L K0⟩
theorem f8I:a1Q tp 60 a4P:=a3Z (n:=60) (k:=60) (hs:=[]) (A:=fun _ _=>none) trivial (by intro x; kernel_rfl)
def a3L:Con:=⟨⟨[.pl (.sl (.int .i64))],[]⟩,⟨[.pl a1U,.pl (.int .i64)],[]⟩,a2O K0⟩
theorem f7D:a1Q tp 40 a3L:=a3Z (n:=40) (k:=60) (hs:=[(24,.con a1O),(60,.con a4P)]) (A:=fun _ _=>none) ⟨e0Q,f8I,trivial⟩ (by intro x; kernel_rfl)
def c0F:Con:=⟨⟨[.pl a1U,.pl (.int .u64)],[]⟩,⟨[.pl a1U,.pl (.int .i64)],[]⟩,b3C K0⟩
theorem g9L:a1Q tp 129 c0F:=a3Z (n:=129) (k:=60) (hs:=[(35,.con a0R),(40,.con a3L),(84,.con a1W),(88,.con a3M),(98,.con a5D)]) (A:=fun _ _=>none) ⟨c7D,f7D,e6H,f0D,f7Q,trivial⟩ (by intro x; kernel_rfl)
def b7B:Con:=⟨⟨[.pl a1U,.pl (.int .u64),.pl (.int .i64)],[]⟩,⟨[.pl a1U,.pl (.int .i64)],[]⟩,a9S K0⟩
theorem h1D:a1Q tp 91 b7B:=a3Z (n:=91) (k:=60) (hs:=[(128,.con c2Z),(129,.con c0F)]) (A:=fun _ _=>none) ⟨g8I,g9L,trivial⟩ (by intro x; kernel_rfl)
def b6C:Con:=⟨⟨[.pl (.int .u64),.pl a0S],[]⟩,⟨[.pl a1U,.pl (.int .i64)],[]⟩,b0Z K0⟩
theorem h0D:a1Q tp 61 b6C:=a3Z (n:=61) (k:=60) (hs:=[(90,.con b5P),(91,.con b7B)]) (A:=fun _ _=>none) ⟨h1R,h1D,trivial⟩ (by intro x; kernel_rfl)
def b6P:Con:=⟨⟨[.pl a0S],[]⟩,⟨[.pl a1T,.pl (.int .i64)],[]⟩,b7Z K0⟩
theorem h2Q:a1Q tp 42 b6P:=a3Z (n:=42) (k:=60) (hs:=[(61,.con b6C)]) (A:=fun _ _=>none) ⟨h0D,trivial⟩ (by intro x; kernel_rfl)
def b6N:Con:=⟨⟨[],[]⟩,⟨[.pl a1C],[]⟩,b7M K0⟩
theorem h2Y:a1Q tp 43 b6N:=a3Z (n:=43) (k:=60) (hs:=[]) (A:=fun _ _=>none) trivial (by intro x; kernel_rfl)
def c1C:Con:=⟨⟨[],[]⟩,⟨[.ptr 0 []],a0N⟩,c3A K0⟩
theorem h2L:a1Q tp 44 c1C:=a3Z (n:=44) (k:=140) (hs:=[]) (A:=fun _ _=>none) trivial (by intro x; kernel_rfl)
def c1N:Con:=⟨⟨[],[]⟩,⟨[.ptr 0 []],a2U⟩,c3I K0⟩
theorem h2W:a1Q tp 45 c1N:=a3Z (n:=45) (k:=140) (hs:=[]) (A:=fun _ _=>none) trivial (by intro x; kernel_rfl)
def b5X:Con:=⟨⟨[],[]⟩,⟨[.ptr 0 []],a0H⟩,b3Z K0⟩
theorem g9X:a1Q tp 18 b5X:=a3Z (n:=18) (k:=140) (hs:=[(41,.con b6V),(42,.con b6P),(43,.con b6N),(44,.con c1C),(45,.con c1N)]) (A:=fun _ _=>none) ⟨h2O,h2Q,h2Y,h2L,h2W,trivial⟩ (by intro x; kernel_rfl)
def b5C:Con:=⟨⟨[],[]⟩,⟨[.whole 0],[.row a1K]⟩,b1J K0⟩
theorem h0R:a1Q tp 19 b5C:=a3Z (n:=19) (k:=140) (hs:=[]) (A:=b0Y [([19],0,.tmpl ⟨(dd 1 (.whole 0::.pl (.int .u64)::dd 24 [])),[.row a1K]⟩),([19],2,.tmpl ⟨(dd 1 (.whole 0::dd 1 (.pl (.int .u64)::dd 23 []))),[.row a1K]⟩)]) trivial (by intro x; kernel_rfl)
def b5A:Con:=⟨⟨[.pl (.int .i64)],[]⟩,⟨[.pl .bool],[]⟩,a8I K0⟩
theorem h2X:a1Q tp 46 b5A:=a3Z (n:=46) (k:=60) (hs:=[]) (A:=fun _ _=>none) trivial (by intro x; kernel_rfl)
def a2X:Con:=⟨⟨[.pl a1U],[]⟩,⟨[.pl .bool],[]⟩,a2I K0⟩
theorem f3B:a1Q tp 56 a2X:=a3Z (n:=56) (k:=60) (hs:=[]) (A:=fun _ _=>none) trivial (by intro x; kernel_rfl)
def b0T:Con:=⟨⟨[.bp a0O,.pl (.int .u64)],[]⟩,⟨[.pl (.int .i64)],[]⟩,a6L K0⟩
theorem g4Y:a1Q tp 126 b0T:=a3Z (n:=126) (k:=140) (hs:=[]) (A:=b0Y [([126],0,.tmpl ⟨(.bp a0O::.pl (.int .u64)::dd 3 (.pl (.int .i64)::dd 20 [])),[]⟩)]) trivial (by intro x; kernel_rfl)
def a4F:Con:=⟨⟨[.bp a0O,.pl (.int .u64)],[]⟩,⟨[.pl a0Z],[]⟩,a3A K0⟩
theorem g5P:a1Q tp 87 a4F:=a3Z (n:=87) (k:=140) (hs:=[(126,.con b0T)]) (A:=fun _ _=>none) ⟨g4Y,trivial⟩ (by intro x; kernel_rfl)
def b6H:Con:=⟨⟨[.pl a1Y,.pl a1U],[]⟩,⟨[.pl (.sl (.int .i64))],[]⟩,a8Y K0⟩
theorem h0N:a1Q tp 96 b6H:=a3Z (n:=96) (k:=60) (hs:=[(35,.con a0R),(83,.con a8T),(97,.fresh a6E)]) (A:=fun _ _=>none) ⟨c7D,g4O,e1X,trivial⟩ (by intro x; kernel_rfl)
def b5Q:Con:=⟨⟨[.pl a1Y,.pl a1U],[]⟩,⟨[.pl a1U,.pl (.int .i64)],[]⟩,a9N K0⟩
theorem h2R:a1Q tp 92 b5Q:=a3Z (n:=92) (k:=60) (hs:=[(34,.con a1S),(35,.con a0R),(36,.con a3N),(40,.con a3L),(96,.con b6H)]) (A:=fun _ _=>none) ⟨d2M,c7D,e8X,f7D,h0N,trivial⟩ (by intro x; kernel_rfl)
def b3E:Con:=⟨⟨[.pl a1T,.pl a0S],[]⟩,⟨[.pl (.int .u64)],[]⟩,a6W K0⟩
theorem h0U:a1Q tp 93 b3E:=a3Z (n:=93) (k:=60) (hs:=[]) (A:=fun _ _=>none) trivial (by intro x; kernel_rfl)
def b7W:Con:=⟨⟨[.pl a1Y,.pl a1U,.pl a1U],[]⟩,⟨[.pl .bool],[]⟩,b0L K0⟩
theorem h2N:a1Q tp 94 b7W:=a3Z (n:=94) (k:=60) (hs:=[(34,.con a1S),(35,.con a0R),(36,.con a3N),(84,.con a1W),(88,.con a3M)]) (A:=fun _ _=>none) ⟨d2M,c7D,e8X,e6H,f0D,trivial⟩ (by intro x; kernel_rfl)
def b2G:Con:=⟨⟨[.ptr 0 [],.pl a1Y],a0H⟩,⟨[.pl a1U,.pl (.int .i64)],a0H⟩,a6J K0⟩
theorem h2T:a1Q tp 62 b2G:=a3Z (n:=62) (k:=140) (hs:=[(87,.con a4F),(92,.con b5Q),(93,.con b3E),(94,.con b7W)]) (A:=b0Y [([1000000,62],7,.join ⟨(.ptr 0 []::dd 2 (.ptr 8 []::.ptr 9 []::dd 1 (.ptr 10 []::dd 75 (.ptr 0 []::.ptr 1 []::.ptr 4 []::[])))),[.box a1N ((.pair (.pl (.int .u64)) ((.pair (.pl a0S) ((.pair (.pl a1T) ((.pair (.pl (.int .u64)) ((.pair (.pl a1C) ((.pair (.ptr 1 []) ((.pair (.whole 3) ((.pair (.ptr 4 []) (.pl .nil))))))))))))))))),.box a0O ((.pair (.whole 2) (.pl (.cons (.arr 4 a1U) .nil)))),.row a0Z,.row a0Q,.box a0U ((.pair (.pl a1U) ((.pair (.whole 5) ((.pair (.whole 6) ((.pair (.whole 7) (.pl .nil))))))))),.row (.arr 32 (.int .u8)),.row (.int .u64),.row a1A,.box a1Y (.pl a1Y),.box a1U (.pl a1U),.box a1U (.pl a1U)]⟩)]) ⟨g5P,h2R,h0U,h2N,trivial⟩ (by intro x; kernel_rfl)
def b4W:Con:=⟨⟨[.pl (.sl (.int .u8)),.pl (.int .i64),.pl (.int .i64)],[]⟩,⟨[.pl (.int .i64)],[]⟩,a7U K0⟩
theorem g9G:a1Q tp 165 b4W:=a3Z (n:=165) (k:=60) (hs:=[]) (A:=b0Y [([165],0,.tmpl ⟨(.pl (.sl (.int .u8))::.pl (.int .i64)::.pl (.int .i64)::dd 4 (.pl (.int .i64)::dd 30 [])),[]⟩)]) trivial (by intro x; kernel_rfl)
def c1G:Con:=⟨⟨[.pl (.sl (.int .u8)),.pl (.int .i64)],[]⟩,⟨[.pl (.int .i64),.pl (.int .i64)],[]⟩,b4G K0⟩
theorem g7X:a1Q tp 161 c1G:=a3Z (n:=161) (k:=60) (hs:=[(165,.con b4W)]) (A:=b0Y [([1000000,161],6,.join ⟨(.pl (.sl (.int .u8))::.pl (.int .i64)::dd 4 (.pl (.int .i64)::.pl (.int .i64)::.pl (.int .i64)::dd 4 (.pl (.int .i64)::.pl (.int .i64)::.pl .bool::dd 14 []))),[]⟩),([161],0,.tmpl ⟨(.pl (.sl (.int .u8))::.pl (.int .i64)::dd 4 (.pl (.int .i64)::.pl (.int .i64)::.pl (.int .i64)::dd 21 [])),[]⟩)]) ⟨g9G,trivial⟩ (by intro x; kernel_rfl)
def b6O:Con:=⟨⟨[.pl (.sl (.int .u8))],[]⟩,⟨[.pl (.sl (.int .u8))],[]⟩,a9R K0⟩
theorem g6Y:a1Q tp 149 b6O:=a3Z (n:=149) (k:=90) (hs:=[(161,.con c1G),(162,.inl)]) (A:=b0Y [([149],0,.tmpl ⟨(.pl (.sl (.int .u8))::dd 2 (.whole 0::.pl (.int .i64)::.pl (.int .i64)::dd 45 [])),[.row (.int .u8)]⟩),([162,11,4,149],0,.tmpl ⟨(.whole 0::.pl (.sl (.int .u8))::dd 75 []),[.row (.int .u8)]⟩),([162,7,5,149],0,.tmpl ⟨(.whole 0::.pl (.sl (.int .u8))::dd 24 (.pl (.sl (.int .u8))::dd 4 (.pl (.int .i64)::.pl (.int .i64)::.pl (.int .i64)::dd 43 []))),[.row (.int .u8)]⟩)]) ⟨g7X,trivial⟩ (by intro x; kernel_rfl)
def b8S:Con:=⟨⟨[.pl (.sl (.int .u8)),.pl (.int .u64),.pl (.int .u64)],[]⟩,⟨[.pl (.int .u64),.pl (.int .i64)],[]⟩,b1O K0⟩
theorem g9N:a1Q tp 130 b8S:=a3Z (n:=130) (k:=60) (hs:=[(149,.con b6O)]) (A:=b0Y [([1000000,130],9,.join ⟨(dd 2 (.pl (.int .u64)::dd 5 (.pl (.int .u64)::dd 20 []))),[]⟩)]) ⟨g6Y,trivial⟩ (by intro x; kernel_rfl)
def c1F:Con:=⟨⟨[.pl a1Y,.pl a1U,.pl a1U,.pl a0S],[]⟩,⟨[.pl (.int .u64),.pl (.int .u64),.pl (.int .i64)],[]⟩,b4H K0⟩
theorem h1N:a1Q tp 95 c1F:=a3Z (n:=95) (k:=60) (hs:=[(24,.con a1O),(35,.con a0R),(36,.con a3N),(56,.con a2X),(60,.con a4P),(84,.con a1W),(88,.con a3M),(98,.con a5D),(116,.con a5G),(130,.con b8S)]) (A:=fun _ _=>none) ⟨e0Q,c7D,e8X,f3B,f8I,e6H,f0D,f7Q,e7B,g9N,trivial⟩ (by intro x; kernel_rfl)
def b6W:Con:=⟨⟨[.pl a1Y,.pl a1U,.pl a1U,.pl a0S],[]⟩,⟨[.pl a3T,.pl (.int .i64)],[]⟩,a9T K0⟩
theorem h0T:a1Q tp 63 b6W:=a3Z (n:=63) (k:=60) (hs:=[(24,.con a1O),(34,.con a1S),(35,.con a0R),(60,.con a4P),(83,.con a8T),(84,.con a1W),(88,.con a3M),(95,.con c1F),(96,.con b6H),(97,.fresh a6E),(98,.con a5D)]) (A:=b0Y [([1000000,63],20,.join ⟨(dd 8 (.ptr 0 []::dd 4 (.ptr 1 []::dd 1 (.pl (.sl (.int .i64))::.pl (.sl (.int .i64))::dd 1 (.pl (.sl (.int .i64))::dd 1 (.pl (.sl (.int .i64))::dd 1 (.pl (.sl (.int .i64))::dd 111 []))))))),[.box a3T (.pl a3T),.box a3T (.pl a3T)]⟩),([1000000,63],9,.join ⟨(dd 4 (.ptr 0 []::.ptr 1 []::dd 1 (.ptr 2 []::.ptr 3 []::dd 2 (.pl (.int .u64)::dd 1 (.ptr 4 []::dd 120 []))))),[.box a1Y (.pl a1Y),.box a1U (.pl a1U),.box a0S (.pl a0S),.box a3T (.pl a3T),.box a3T (.pl a3T)]⟩)]) ⟨e0Q,d2M,c7D,f8I,g4O,e6H,f0D,h1N,h0N,e1X,f7Q,trivial⟩ (by intro x; kernel_rfl)
def b3U:Con:=⟨⟨[.pl a1B],[]⟩,⟨[.pl .bool],[]⟩,a7K K0⟩
theorem g8H:a1Q tp 150 b3U:=a3Z (n:=150) (k:=60) (hs:=[(34,.con a1S),(35,.con a0R),(36,.con a3N),(56,.con a2X)]) (A:=fun _ _=>none) ⟨d2M,c7D,e8X,f3B,trivial⟩ (by intro x; kernel_rfl)
def a5F:Con:=⟨⟨[.pl (.sl a1B)],[]⟩,⟨[.pl .bool],[]⟩,a4B K0⟩
theorem e7H:a1Q tp 132 a5F:=a3Z (n:=132) (k:=60) (hs:=[(150,.con b3U)]) (A:=b0Y [([132],0,.tmpl ⟨(.pl (.sl a1B)::dd 2 (.pl (.int .i64)::dd 33 [])),[]⟩)]) ⟨g8H,trivial⟩ (by intro x; kernel_rfl)
def a9A:Con:=⟨⟨[.pl a1Z],[]⟩,⟨[.pl .bool],[]⟩,a4Q K0⟩
theorem f6J:a1Q tp 133 a9A:=a3Z (n:=133) (k:=60) (hs:=[(56,.con a2X)]) (A:=fun _ _=>none) ⟨f3B,trivial⟩ (by intro x; kernel_rfl)
def b0N:Con:=⟨⟨[.pl a1C],[]⟩,⟨[.pl .bool],[]⟩,a7F K0⟩
theorem g9P:a1Q tp 99 b0N:=a3Z (n:=99) (k:=60) (hs:=[(132,.con a5F),(133,.con a9A)]) (A:=b0Y [([1000000,99],4,.join ⟨(dd 1 (.ptr 0 []::dd 28 [])),[.box a1C (.pl a1C)]⟩),([99],0,.tmpl ⟨(dd 1 (.ptr 0 []::dd 1 (.pl (.int .i64)::dd 26 []))),[.box a1C (.pl a1C)]⟩)]) ⟨e7H,f6J,trivial⟩ (by intro x; kernel_rfl)
def b5O:Con:=⟨⟨[.pl a1C,.pl (.int .u64)],[]⟩,⟨[.pl a1C,.pl (.int .i64)],[]⟩,a9J K0⟩
theorem h2F:a1Q tp 64 b5O:=a3Z (n:=64) (k:=60) (hs:=[(99,.con b0N)]) (A:=fun _ _=>none) ⟨g9P,trivial⟩ (by intro x; kernel_rfl)
def a7G:Con:=⟨⟨[.ptr 0 [],.pl a0Z],a0N⟩,⟨[],a0N⟩,a4O K0⟩
theorem f8W:a1Q tp 101 a7G:=a3Z (n:=101) (k:=140) (hs:=[(126,.con b0T)]) (A:=fun _ _=>none) ⟨g4Y,trivial⟩ (by intro x; kernel_rfl)
def a6Q:Con:=⟨⟨[.pl a1U,.pl a1U],[]⟩,⟨[.pl a1U,.pl (.int .i64)],[]⟩,a4X K0⟩
theorem e9Q:a1Q tp 111 a6Q:=a3Z (n:=111) (k:=60) (hs:=[(24,.con a1O),(35,.con a0R),(36,.con a3N),(97,.fresh a6E)]) (A:=fun _ _=>none) ⟨e0Q,c7D,e8X,e1X,trivial⟩ (by intro x; kernel_rfl)
def a6I:Con:=⟨⟨[.ptr 0 [],.pl (.int .u64),.pl a1U],a0N⟩,⟨[.pl .bool],a0N⟩,a3Y K0⟩
theorem g0P:a1Q tp 100 a6I:=a3Z (n:=100) (k:=140) (hs:=[(87,.con a4F),(101,.con a7G),(111,.con a6Q)]) (A:=fun _ _=>none) ⟨g5P,f8W,e9Q,trivial⟩ (by intro x; kernel_rfl)
def b1H:Con:=⟨⟨[.ptr 0 [],.pl (.int .u64),.pl (.int .i64),.pl a1U],a0N⟩,⟨[.pl (.int .i64)],a0N⟩,a2T K0⟩
theorem h0Q:a1Q tp 65 b1H:=a3Z (n:=65) (k:=140) (hs:=[(24,.con a1O),(34,.con a1S),(35,.con a0R),(100,.con a6I)]) (A:=b0Y [([1000000,65],4,.join ⟨(.ptr 0 []::.pl (.int .u64)::.pl (.int .i64)::dd 4 (.ptr 2 []::dd 34 (.ptr 0 []::[]))),[.box a0O ((.pair (.whole 1) (.pl (.cons (.arr 4 a1U) .nil)))),.row a0Z,.box a1U (.pl a1U)]⟩)]) ⟨e0Q,d2M,c7D,g0P,trivial⟩ (by intro x; kernel_rfl)
def a8F:Con:=⟨⟨[.ptr 0 [],.pl (.int .u64)],a0N⟩,⟨[.pl (.int .i64)],a0N⟩,a3X K0⟩
theorem h1I:a1Q tp 66 a8F:=a3Z (n:=66) (k:=140) (hs:=[(87,.con a4F),(101,.con a7G)]) (A:=fun _ _=>none) ⟨g5P,f8W,trivial⟩ (by intro x; kernel_rfl)
def c1U:Con:=⟨⟨[.pl (.int .u64),.pl (.int .u64)],[]⟩,⟨[.pl (.int .u64)],[]⟩,a8V K0⟩
theorem h0Z:a1Q tp 67 c1U:=a3Z (n:=67) (k:=60) (hs:=[(24,.con a1O),(34,.con a1S),(84,.con a1W),(102,.con b0W)]) (A:=fun _ _=>none) ⟨e0Q,d2M,e6H,g0T,trivial⟩ (by intro x; kernel_rfl)
def a8D:Con:=⟨⟨[.ptr 0 [],.pl (.int .u64),.pl a1U],a0N⟩,⟨[],a0N⟩,a4R K0⟩
theorem g4L:a1Q tp 103 a8D:=a3Z (n:=103) (k:=140) (hs:=[(24,.con a1O),(34,.con a1S),(35,.con a0R),(87,.con a4F),(101,.con a7G)]) (A:=fun _ _=>none) ⟨e0Q,d2M,c7D,g5P,f8W,trivial⟩ (by intro x; kernel_rfl)
def b1A:Con:=⟨⟨[.ptr 0 [],.pl (.int .u64),.pl (.int .u64),.pl a1U],a0N⟩,⟨[.pl (.int .i64)],a0N⟩,a5P K0⟩
theorem h2G:a1Q tp 68 b1A:=a3Z (n:=68) (k:=140) (hs:=[(100,.con a6I),(103,.con a8D)]) (A:=b0Y [([1000000,68],4,.join ⟨(.ptr 0 []::.pl (.int .u64)::.pl (.int .u64)::dd 4 (.ptr 2 []::dd 16 (.ptr 0 []::[]))),[.box a0O ((.pair (.whole 1) (.pl (.cons (.arr 4 a1U) .nil)))),.row a0Z,.box a1U (.pl a1U)]⟩)]) ⟨g0P,g4L,trivial⟩ (by intro x; kernel_rfl)
def b1D:Con:=⟨⟨[.ptr 0 [],.pl (.int .u64),.pl a1U],a0N⟩,⟨[.pl (.int .i64)],a0N⟩,a5O K0⟩
theorem h1A:a1Q tp 69 b1D:=a3Z (n:=69) (k:=140) (hs:=[(100,.con a6I)]) (A:=fun _ _=>none) ⟨g0P,trivial⟩ (by intro x; kernel_rfl)
def b9Z:Con:=⟨⟨[],[]⟩,⟨[.pl (.arr 64 (.int .u32))],[]⟩,c1O K0⟩
theorem g9R:a1Q tp 166 b9Z:=a3Z (n:=166) (k:=60) (hs:=[]) (A:=fun _ _=>none) trivial (by intro x; kernel_rfl)
def c0O:Con:=⟨⟨[.pl (.int .u32),.pl (.int .u64)],[]⟩,⟨[.pl (.int .u32)],[]⟩,a2W K0⟩
theorem g9I:a1Q tp 167 c0O:=a3Z (n:=167) (k:=60) (hs:=[]) (A:=fun _ _=>none) trivial (by intro x; kernel_rfl)
def c0D:Con:=⟨⟨[.pl (.arr 8 (.int .u32)),.pl (.sl (.int .u8))],[]⟩,⟨[.pl (.arr 8 (.int .u32))],[]⟩,b3B K0⟩
theorem g9H:a1Q tp 163 c0D:=a3Z (n:=163) (k:=60) (hs:=[(166,.con b9Z),(167,.con c0O)]) (A:=b0Y [([163],0,.tmpl ⟨(dd 1 (.pl (.sl (.int .u8))::.ptr 0 []::dd 1 (.ptr 1 []::.ptr 2 []::.ptr 3 []::.pl (.int .i64)::dd 183 []))),[.box (.arr 8 (.int .u32)) (.pl (.arr 8 (.int .u32))),.box (.arr 8 (.int .u32)) (.pl (.arr 8 (.int .u32))),.box (.arr 64 (.int .u32)) (.pl (.arr 64 (.int .u32))),.box (.arr 64 (.int .u32)) (.pl (.arr 64 (.int .u32)))]⟩),([163],2,.tmpl ⟨(dd 2 (.ptr 0 []::dd 1 (.ptr 1 []::.ptr 2 []::.ptr 3 []::dd 3 (.ptr 4 []::.pl (.int .i64)::dd 179 [])))),[.box (.arr 8 (.int .u32)) (.pl (.arr 8 (.int .u32))),.box (.arr 8 (.int .u32)) (.pl (.arr 8 (.int .u32))),.box (.arr 64 (.int .u32)) (.pl (.arr 64 (.int .u32))),.box (.arr 64 (.int .u32)) (.pl (.arr 64 (.int .u32))),.box (.arr 8 (.int .u32)) (.pl (.arr 8 (.int .u32)))]⟩),([163],4,.tmpl ⟨(dd 2 (.ptr 0 []::dd 1 (.ptr 1 []::dd 5 (.ptr 2 []::dd 5 (.pl (.int .i64)::dd 174 []))))),[.box (.arr 8 (.int .u32)) (.pl (.arr 8 (.int .u32))),.box (.arr 8 (.int .u32)) (.pl (.arr 8 (.int .u32))),.box (.arr 8 (.int .u32)) (.pl (.arr 8 (.int .u32)))]⟩)]) ⟨g9R,g9I,trivial⟩ (by intro x; kernel_rfl)
def b4C:Con:=⟨⟨[.pl (.sl (.int .u8))],[]⟩,⟨[.pl (.arr 32 (.int .u8))],[]⟩,a9U K0⟩
theorem f9Q:a1Q tp 151 b4C:=a3Z (n:=151) (k:=60) (hs:=[(163,.con c0D)]) (A:=b0Y [([151],0,.tmpl ⟨(.pl (.sl (.int .u8))::dd 1 (.ptr 0 []::.whole 1::dd 67 [])),[.box (.arr 32 (.int .u8)) (.pl (.arr 32 (.int .u8))),.row (.int .u8)]⟩),([151],2,.tmpl ⟨(dd 2 (.ptr 0 []::.whole 1::.pl (.int .u64)::.pl (.int .i64)::dd 65 [])),[.box (.arr 32 (.int .u8)) (.pl (.arr 32 (.int .u8))),.row (.int .u8)]⟩),([151],4,.tmpl ⟨(dd 2 (.ptr 0 []::.whole 1::dd 2 (.ptr 2 []::.pl (.int .i64)::dd 63 []))),[.box (.arr 32 (.int .u8)) (.pl (.arr 32 (.int .u8))),.row (.int .u8),.box (.arr 8 (.int .u32)) (.pl (.arr 8 (.int .u32)))]⟩),([151],6,.tmpl ⟨(dd 2 (.ptr 0 []::dd 3 (.ptr 1 []::dd 1 (.ptr 2 []::.pl (.int .i64)::dd 61 [])))),[.box (.arr 32 (.int .u8)) (.pl (.arr 32 (.int .u8))),.box (.arr 8 (.int .u32)) (.pl (.arr 8 (.int .u32))),.box (.arr 32 (.int .u8)) (.pl (.arr 32 (.int .u8)))]⟩)]) ⟨g9H,trivial⟩ (by intro x; kernel_rfl)
def c1I:Con:=⟨⟨[.pl (.sl (.int .u8))],[]⟩,⟨[.pl (.arr 32 (.int .u8))],[]⟩,b4D K0⟩
theorem g6Z:a1Q tp 146 c1I:=a3Z (n:=146) (k:=60) (hs:=[(151,.con b4C)]) (A:=fun _ _=>none) ⟨f9Q,trivial⟩ (by intro x; kernel_rfl)
def b8V:Con:=⟨⟨[.pl a1U],[]⟩,⟨[.pl (.sl (.int .u8))],[]⟩,b1P K0⟩
theorem g7R:a1Q tp 164 b8V:=a3Z (n:=164) (k:=60) (hs:=[]) (A:=b0Y [([164],0,.tmpl ⟨(dd 1 (.ptr 0 []::dd 1 (.whole 1::.pl (.int .i64)::dd 27 []))),[.box a1U (.pl a1U),.row (.int .u8)]⟩)]) trivial (by intro x; kernel_rfl)
def a8P:Con:=⟨⟨[.pl (.sl (.int .u8)),.pl a1U],[]⟩,⟨[.pl (.sl (.int .u8))],[]⟩,a5A K0⟩
theorem g3O:a1Q tp 159 a8P:=a3Z (n:=159) (k:=60) (hs:=[(164,.con b8V)]) (A:=fun _ _=>none) ⟨g7R,trivial⟩ (by intro x; kernel_rfl)
def b3V:Con:=⟨⟨[.pl (.sl (.int .u8)),.pl (.int .u64)],[]⟩,⟨[.pl (.sl (.int .u8))],[]⟩,a5J K0⟩
theorem g8R:a1Q tp 160 b3V:=a3Z (n:=160) (k:=60) (hs:=[(159,.con a8P)]) (A:=fun _ _=>none) ⟨g3O,trivial⟩ (by intro x; kernel_rfl)
def b7L:Con:=⟨⟨[.pl a0Q],[]⟩,⟨[.pl (.sl (.int .u8))],[]⟩,b0P K0⟩
theorem g9E:a1Q tp 147 b7L:=a3Z (n:=147) (k:=60) (hs:=[(159,.con a8P),(160,.con b3V)]) (A:=fun _ _=>none) ⟨g3O,g8R,trivial⟩ (by intro x; kernel_rfl)
def b5E:Con:=⟨⟨[.pl a0Q],[]⟩,⟨[.pl (.arr 32 (.int .u8))],[]⟩,a6T K0⟩
theorem g2W:a1Q tp 122 b5E:=a3Z (n:=122) (k:=60) (hs:=[(146,.con c1I),(147,.con b7L)]) (A:=fun _ _=>none) ⟨g6Z,g9E,trivial⟩ (by intro x; kernel_rfl)
def b3L:Con:=⟨⟨[.pl (.sl a0Q),.pl (.int .i64)],[]⟩,⟨[.pl (.sl (.arr 32 (.int .u8)))],[]⟩,a8G K0⟩
theorem g6B:a1Q tp 125 b3L:=a3Z (n:=125) (k:=60) (hs:=[(122,.con b5E)]) (A:=b0Y [([125],0,.tmpl ⟨(.pl (.sl a0Q)::.pl (.int .i64)::dd 3 (.whole 0::.pl (.int .i64)::dd 14 [])),[.row (.arr 32 (.int .u8))]⟩)]) ⟨g2W,trivial⟩ (by intro x; kernel_rfl)
def a7Z:Con:=⟨⟨[.pl (.int .i64)],[]⟩,⟨[.pl (.int .i64)],[]⟩,a4Z K0⟩
theorem f8U:a1Q tp 148 a7Z:=a3Z (n:=148) (k:=60) (hs:=[]) (A:=b0Y [([148],0,.tmpl ⟨(.pl (.int .i64)::dd 2 (.pl (.int .i64)::dd 8 [])),[]⟩)]) trivial (by intro x; kernel_rfl)
def b6E:Con:=⟨⟨[.pl (.arr 32 (.int .u8)),.pl (.arr 32 (.int .u8))],[]⟩,⟨[.pl (.arr 32 (.int .u8))],[]⟩,a8X K0⟩
theorem g4S:a1Q tp 152 b6E:=a3Z (n:=152) (k:=60) (hs:=[(151,.con b4C)]) (A:=fun _ _=>none) ⟨f9Q,trivial⟩ (by intro x; kernel_rfl)
def b4L:Con:=⟨⟨[.pl (.sl (.arr 32 (.int .u8)))],[]⟩,⟨[.pl (.arr 32 (.int .u8))],[]⟩,a4W K0⟩
def b8R (k0:Nat):Con:=⟨⟨[.pl (.sl (.arr 32 (.int .u8)))],[]⟩,⟨[.pl (.arr 32 (.int .u8))],[]⟩,a3G K0 k0⟩
theorem f7W:∀ k0,a1Q tp 134 (b8R k0)
 | 0=>fun x y h=>by cases h
 | k0 + 1=>a3Z (n:=134) (k:=60) (hs:=[(134,.con (b8R k0)),(148,.con a7Z),(151,.con b4C),(152,.con b6E)]) (A:=fun _ _=>none) ⟨(f7W k0),f8U,f9Q,g4S,trivial⟩ (by intro x; kernel_rfl)
theorem g3V:a1Q tp 134 b4L:=f7W K0
def c0L:Con:=⟨⟨[.pl (.sl a0Q),.pl (.int .i64)],[]⟩,⟨[.pl (.arr 32 (.int .u8)),.pl .bool],[]⟩,a9V K0⟩
theorem g6V:a1Q tp 104 c0L:=a3Z (n:=104) (k:=60) (hs:=[(125,.con b3L),(134,.con b4L)]) (A:=b0Y [([1000000,104],4,.join ⟨(.pl (.sl a0Q)::.pl (.int .i64)::dd 2 (.ptr 0 []::dd 14 [])),[.box (.arr 32 (.int .u8)) (.pl (.arr 32 (.int .u8)))]⟩)]) ⟨g6B,g3V,trivial⟩ (by intro x; kernel_rfl)
def a8Q:Con:=⟨⟨[.ptr 0 [],.pl (.int .u64),.pl a1U],a0H⟩,⟨[.pl a0Q],a0H⟩,a5C K0⟩
theorem h0K:a1Q tp 70 a8Q:=a3Z (n:=70) (k:=140) (hs:=[(104,.con c0L)]) (A:=fun _ _=>none) ⟨g6V,trivial⟩ (by intro x; kernel_rfl)
def b4S:Con:=⟨⟨[.ptr 0 [],.pl a1Y],a0H⟩,⟨[.pl a1R],a0H⟩,a7Y K0⟩
theorem h1U:a1Q tp 47 b4S:=a3Z (n:=47) (k:=140) (hs:=[(56,.con a2X),(62,.con b2G),(63,.con b6W),(64,.con b5O),(65,.con b1H),(66,.con a8F),(67,.con c1U),(68,.con b1A),(69,.con b1D),(70,.con a8Q)]) (A:=b0Y [([1000000,47],22,.join ⟨(.ptr 0 []::dd 2 (.ptr 8 []::.ptr 9 []::dd 4 (.ptr 11 []::dd 171 (.ptr 0 []::.ptr 1 []::.ptr 4 []::[])))),[.box a1N ((.pair (.pl (.int .u64)) ((.pair (.pl a0S) ((.pair (.pl a1T) ((.pair (.pl (.int .u64)) ((.pair (.pl a1C) ((.pair (.ptr 1 []) ((.pair (.whole 3) ((.pair (.ptr 4 []) (.pl .nil))))))))))))))))),.box a0O ((.pair (.whole 2) (.pl (.cons (.arr 4 a1U) .nil)))),.row a0Z,.row a0Q,.box a0U ((.pair (.pl a1U) ((.pair (.whole 5) ((.pair (.whole 6) ((.pair (.whole 7) (.pl .nil))))))))),.row (.arr 32 (.int .u8)),.row (.int .u64),.row a1A,.box a1Y (.pl a1Y),.box a1R ((.pair (.pl (.int .i64)) ((.pair (.pl (.int .i64)) ((.pair (.pl a3T) ((.pair (.pl a1U) ((.pair (.pl a1U) ((.pair (.pl (.int .u64)) ((.pair (.pl a1U) ((.pair (.pl a1U) ((.pair (.whole 10) (.pl .nil))))))))))))))))))),.row a0Q,.box a1R ((.pair (.pl (.int .i64)) ((.pair (.pl (.int .i64)) ((.pair (.pl a3T) ((.pair (.pl a1U) ((.pair (.pl a1U) ((.pair (.pl (.int .u64)) ((.pair (.pl a1U) ((.pair (.pl a1U) ((.pair (.whole 12) (.pl .nil))))))))))))))))))),.row a0Q]⟩)]) ⟨f3B,h2T,h0T,h2F,h0Q,h1I,h0Z,h2G,h1A,h0K,trivial⟩ (by intro x; kernel_rfl)
def b6G:Con:=⟨⟨[.pl (.sl a1A)],[]⟩,⟨[.pl a1U,.pl (.int .i64)],[]⟩,b1F K0⟩
theorem h0E:a1Q tp 73 b6G:=a3Z (n:=73) (k:=60) (hs:=[(34,.con a1S),(35,.con a0R),(40,.con a3L)]) (A:=b0Y [([73],0,.tmpl ⟨(.pl (.sl a1A)::dd 1 (.ptr 0 []::dd 1 (.pl (.sl (.int .i64))::.pl (.int .i64)::dd 18 []))),[.box a1U (.pl a1U)]⟩)]) ⟨d2M,c7D,f7D,trivial⟩ (by intro x; kernel_rfl)
def a9H:Con:=⟨⟨[.pl (.sl a1B),.pl (.int .u64)],[]⟩,⟨[.pl (.int .i64)],[]⟩,a6S K0⟩
theorem f3Z:a1Q tp 135 a9H:=a3Z (n:=135) (k:=60) (hs:=[]) (A:=b0Y [([135],0,.tmpl ⟨(.pl (.sl a1B)::.pl (.int .u64)::dd 3 (.pl (.int .i64)::dd 14 [])),[]⟩)]) trivial (by intro x; kernel_rfl)
def b8Z:Con:=⟨⟨[.pl a1U],[]⟩,⟨[.pl (.int .i64)],[]⟩,b1W K0⟩
theorem g7B:a1Q tp 136 b8Z:=a3Z (n:=136) (k:=60) (hs:=[]) (A:=b0Y [([136],0,.tmpl ⟨(dd 1 (.ptr 0 []::dd 1 (.pl (.int .i64)::.pl (.int .i64)::dd 17 []))),[.box a1U (.pl a1U)]⟩)]) trivial (by intro x; kernel_rfl)
def b9S:Con:=⟨⟨[.pl a1C,.pl a0S,.pl a0Q,.pl (.int .u64)],[]⟩,⟨[.pl (.int .i64)],[]⟩,b2D K0⟩
theorem g9U:a1Q tp 105 b9S:=a3Z (n:=105) (k:=60) (hs:=[(99,.con b0N),(116,.con a5G),(135,.con a9H),(136,.con b8Z)]) (A:=b0Y [([1000000,105],10,.join ⟨(dd 6 (.ptr 0 []::dd 29 [])),[.box a0Q (.pl a0Q)]⟩)]) ⟨g9P,e7B,f3Z,g7B,trivial⟩ (by intro x; kernel_rfl)
def b5M:Con:=⟨⟨[.pl (.int .u64),.pl (.int .u64),.pl (.int .u64),.pl (.int .u64)],[]⟩,⟨[.pl (.int .u64),.pl (.int .i64)],[]⟩,a8Z K0⟩
theorem g7V:a1Q tp 106 b5M:=a3Z (n:=106) (k:=60) (hs:=[(24,.con a1O),(84,.con a1W),(88,.con a3M),(98,.con a5D)]) (A:=b0Y [([1000000,106],4,.join ⟨(.pl (.int .u64)::.pl (.int .u64)::.pl (.int .u64)::.pl (.int .u64)::dd 38 []),[]⟩)]) ⟨e0Q,e6H,f0D,f7Q,trivial⟩ (by intro x; kernel_rfl)
def b9L:Con:=⟨⟨[.pl a1U,.pl a1U],[]⟩,⟨[.pl a1U,.pl (.int .i64)],[]⟩,b1R K0⟩
theorem g7W:a1Q tp 107 b9L:=a3Z (n:=107) (k:=60) (hs:=[(35,.con a0R),(40,.con a3L),(88,.con a3M)]) (A:=fun _ _=>none) ⟨c7D,f7D,f0D,trivial⟩ (by intro x; kernel_rfl)
def b8A:Con:=⟨⟨[.pl (.sl a1B),.pl (.int .u64),.pl a1U,.pl a1U,.pl (.int .u64)],[]⟩,⟨[.pl (.sl a1B),.pl (.int .i64)],[]⟩,b0J K0⟩
theorem g8X:a1Q tp 108 b8A:=a3Z (n:=108) (k:=60) (hs:=[(24,.con a1O),(34,.con a1S),(35,.con a0R),(56,.con a2X),(60,.con a4P),(132,.con a5F),(135,.con a9H)]) (A:=b0Y [([1000000,108],4,.join ⟨(.pl (.sl a1B)::.pl (.int .u64)::dd 2 (.pl (.int .u64)::dd 2 (.ptr 0 []::.ptr 1 []::dd 97 []))),[.box a1U (.pl a1U),.box a1U (.pl a1U)]⟩)]) ⟨e0Q,d2M,c7D,f3B,f8I,e7H,f3Z,trivial⟩ (by intro x; kernel_rfl)
def b7V:Con:=⟨⟨[.pl (.sl a1B)],[]⟩,⟨[.pl (.sl a1B)],[]⟩,b0I K0⟩
theorem g9F:a1Q tp 137 b7V:=a3Z (n:=137) (k:=60) (hs:=[]) (A:=b0Y [([1000000,137],10,.join ⟨(.pl (.sl a1B)::dd 2 (.whole 0::.pl (.int .i64)::.pl (.int .i64)::dd 76 [])),[.row a1B]⟩),([137],0,.tmpl ⟨(.pl (.sl a1B)::dd 2 (.whole 0::.pl (.int .i64)::dd 77 [])),[.row a1B]⟩),([137],2,.tmpl ⟨(.pl (.sl a1B)::dd 2 (.whole 0::.pl (.int .i64)::.pl (.int .i64)::dd 76 [])),[.row a1B]⟩)]) trivial (by intro x; kernel_rfl)
def b9W:Con:=⟨⟨[.pl (.sl a1B),.pl a1U],[]⟩,⟨[.pl (.sl a1A),.pl (.int .i64)],[]⟩,b2W K0⟩
theorem g8V:a1Q tp 109 b9W:=a3Z (n:=109) (k:=60) (hs:=[(24,.con a1O),(35,.con a0R),(83,.con a8T),(97,.fresh a6E),(132,.con a5F),(137,.con b7V)]) (A:=b0Y [([1000000,109],10,.join ⟨(dd 6 (.whole 0::.pl (.sl a1B)::.pl (.sl (.int .i64))::.pl (.int .i64)::dd 13 (.pl (.sl (.int .i64))::.pl (.int .i64)::.pl .bool::dd 26 []))),[.row a1A]⟩),([109],0,.tmpl ⟨(dd 6 (.whole 0::.pl (.sl a1B)::.pl (.sl (.int .i64))::.pl (.int .i64)::dd 42 [])),[.row a1A]⟩)]) ⟨e0Q,c7D,g4O,e1X,e7H,g9F,trivial⟩ (by intro x; kernel_rfl)
def b0V:Con:=⟨⟨[.pl a1U,.pl a1U],[]⟩,⟨[.pl a1U,.pl (.int .i64)],[]⟩,a7H K0⟩
theorem g0F:a1Q tp 119 b0V:=a3Z (n:=119) (k:=60) (hs:=[(34,.con a1S),(35,.con a0R),(40,.con a3L)]) (A:=fun _ _=>none) ⟨d2M,c7D,f7D,trivial⟩ (by intro x; kernel_rfl)
def b7T:Con:=⟨⟨[.pl (.sl a1B),.pl (.int .u64),.pl a1U],[]⟩,⟨[.pl (.sl a1B),.pl (.int .i64)],[]⟩,b0X K0⟩
theorem g7F:a1Q tp 138 b7T:=a3Z (n:=138) (k:=60) (hs:=[(56,.con a2X),(111,.con a6Q),(119,.con b0V),(132,.con a5F),(135,.con a9H)]) (A:=fun _ _=>none) ⟨f3B,e9Q,g0F,e7H,f3Z,trivial⟩ (by intro x; kernel_rfl)
def b8Y:Con:=⟨⟨[.pl (.sl a1B),.pl (.sl a1A)],[]⟩,⟨[.pl (.sl a1B),.pl (.int .i64)],[]⟩,b2C K0⟩
theorem g8O:a1Q tp 110 b8Y:=a3Z (n:=110) (k:=60) (hs:=[(138,.con b7T)]) (A:=b0Y [([110],0,.tmpl ⟨(dd 1 (.pl (.sl a1A)::dd 4 (.pl (.sl a1B)::.pl (.int .i64)::dd 31 []))),[]⟩)]) ⟨g7F,trivial⟩ (by intro x; kernel_rfl)
def b5L:Con:=⟨⟨[.pl (.sl a1B)],[]⟩,⟨[.pl a1U,.pl (.int .i64)],[]⟩,a9D K0⟩
theorem g9M:a1Q tp 112 b5L:=a3Z (n:=112) (k:=60) (hs:=[(34,.con a1S),(35,.con a0R),(40,.con a3L),(132,.con a5F)]) (A:=b0Y [([112],0,.tmpl ⟨(.pl (.sl a1B)::dd 1 (.ptr 0 []::dd 1 (.pl (.sl (.int .i64))::.pl (.int .i64)::dd 22 []))),[.box a1U (.pl a1U)]⟩)]) ⟨d2M,c7D,f7D,e7H,trivial⟩ (by intro x; kernel_rfl)
def b3N:Con:=⟨⟨[.pl a1D],[]⟩,⟨[.pl a1Z,.pl (.int .i64)],[]⟩,a8H K0⟩
theorem g4M:a1Q tp 139 b3N:=a3Z (n:=139) (k:=60) (hs:=[(40,.con a3L)]) (A:=fun _ _=>none) ⟨f7D,trivial⟩ (by intro x; kernel_rfl)
def a5K:Con:=⟨⟨[.pl .bool,.pl (.sl (.int .i64))],[]⟩,⟨[.pl a1D],[]⟩,a2P K0⟩
theorem e1W:a1Q tp 141 a5K:=a3Z (n:=141) (k:=60) (hs:=[]) (A:=fun _ _=>none) trivial (by intro x; kernel_rfl)
def b4B:Con:=⟨⟨[.pl a1D,.pl a1D],[]⟩,⟨[.pl a1D],[]⟩,a7B K0⟩
theorem g0Z:a1Q tp 140 b4B:=a3Z (n:=140) (k:=60) (hs:=[(34,.con a1S),(36,.con a3N),(97,.fresh a6E),(141,.con a5K)]) (A:=fun _ _=>none) ⟨d2M,e8X,e1X,e1W,trivial⟩ (by intro x; kernel_rfl)
def c1W:Con:=⟨⟨[.pl a1U,.pl a1U],[]⟩,⟨[.pl a1Z],[]⟩,b4F K0⟩
theorem g9O:a1Q tp 113 c1W:=a3Z (n:=113) (k:=60) (hs:=[(35,.con a0R),(139,.con b3N),(140,.con b4B),(141,.con a5K)]) (A:=fun _ _=>none) ⟨c7D,g4M,g0Z,e1W,trivial⟩ (by intro x; kernel_rfl)
def b7C:Con:=⟨⟨[.pl a1D,.pl (.sl (.int .i64))],[]⟩,⟨[.pl a1D],[]⟩,a4S K0⟩
theorem g7I:a1Q tp 153 b7C:=a3Z (n:=153) (k:=60) (hs:=[(34,.con a1S),(84,.con a1W),(98,.con a5D),(141,.con a5K)]) (A:=b0Y [([1000000,153],4,.join ⟨(dd 2 (.ptr 0 []::dd 1 (.ptr 1 []::.pl (.sl (.int .i64))::dd 14 (.pl .bool::dd 7 [])))),[.box a1D (.pl a1D),.box a1D (.pl a1D)]⟩)]) ⟨d2M,e6H,f7Q,e1W,trivial⟩ (by intro x; kernel_rfl)
def b8P:Con:=⟨⟨[.pl a1D],[]⟩,⟨[.pl a1D],[]⟩,a5U K0⟩
theorem g7P:a1Q tp 154 b8P:=a3Z (n:=154) (k:=60) (hs:=[(141,.con a5K)]) (A:=fun _ _=>none) ⟨e1W,trivial⟩ (by intro x; kernel_rfl)
def b0U:Con:=⟨⟨[.pl a1Z],[]⟩,⟨[.pl a1D],[]⟩,a3K K0⟩
theorem g6H:a1Q tp 155 b0U:=a3Z (n:=155) (k:=60) (hs:=[(35,.con a0R),(141,.con a5K)]) (A:=fun _ _=>none) ⟨c7D,e1W,trivial⟩ (by intro x; kernel_rfl)
def c3C:Con:=⟨⟨[.pl a1D,.pl a1D],[]⟩,⟨[.pl a1D],[]⟩,b2M K0⟩
theorem g8K:a1Q tp 156 c3C:=a3Z (n:=156) (k:=60) (hs:=[(88,.con a3M),(141,.con a5K)]) (A:=fun _ _=>none) ⟨f0D,e1W,trivial⟩ (by intro x; kernel_rfl)
def b9J:Con:=⟨⟨[.pl a1Z,.pl a1Z,.pl (.int .u64),.pl a0S],[]⟩,⟨[.pl a1Z,.pl (.int .i64)],[]⟩,b1Z K0⟩
theorem g7D:a1Q tp 142 b9J:=a3Z (n:=142) (k:=60) (hs:=[(34,.con a1S),(60,.con a4P),(84,.con a1W),(98,.con a5D),(116,.con a5G),(133,.con a9A),(139,.con b3N),(140,.con b4B),(153,.con b7C),(154,.con b8P),(155,.con b0U),(156,.con c3C)]) (A:=b0Y [([1000000,142],13,.join ⟨(dd 2 (.pl (.int .u64)::dd 4 (.ptr 0 []::.ptr 1 []::dd 5 (.ptr 2 []::dd 81 [])))),[.box a0S (.pl a0S),.box a1Z (.pl a1Z),.box a1D (.pl a1D)]⟩),([1000000,142],6,.join ⟨(dd 2 (.pl (.int .u64)::dd 1 (.ptr 0 []::.ptr 1 []::dd 1 (.ptr 2 []::.ptr 3 []::dd 87 [])))),[.box a1Z (.pl a1Z),.box a1Z (.pl a1Z),.box a0S (.pl a0S),.box a1Z (.pl a1Z)]⟩)]) ⟨d2M,f8I,e6H,f7Q,e7B,f6J,g4M,g0Z,g7I,g7P,g6H,g8K,trivial⟩ (by intro x; kernel_rfl)
def b5I:Con:=⟨⟨[.pl a1U,.pl a1Z],[]⟩,⟨[.pl a1U,.pl (.int .i64)],[]⟩,a8K K0⟩
theorem g7L:a1Q tp 143 b5I:=a3Z (n:=143) (k:=60) (hs:=[(35,.con a0R),(40,.con a3L),(133,.con a9A),(140,.con b4B),(141,.con a5K),(155,.con b0U)]) (A:=fun _ _=>none) ⟨c7D,f7D,f6J,g0Z,e1W,g6H,trivial⟩ (by intro x; kernel_rfl)
def b9V:Con:=⟨⟨[.pl a1U,.pl a1Z,.pl a1Z,.pl (.int .u64),.pl a0S],[]⟩,⟨[.pl a1U,.pl (.int .i64)],[]⟩,b2Y K0⟩
theorem g9D:a1Q tp 114 b9V:=a3Z (n:=114) (k:=60) (hs:=[(116,.con a5G),(133,.con a9A),(142,.con b9J),(143,.con b5I)]) (A:=b0Y [([1000000,114],6,.join ⟨(dd 3 (.pl (.int .u64)::dd 1 (.ptr 0 []::.ptr 1 []::.ptr 2 []::dd 1 (.ptr 3 []::.ptr 4 []::dd 36 [])))),[.box a1U (.pl a1U),.box a1Z (.pl a1Z),.box a1Z (.pl a1Z),.box a0S (.pl a0S),.box a1U (.pl a1U)]⟩)]) ⟨e7B,f6J,g7D,g7L,trivial⟩ (by intro x; kernel_rfl)
def b8C:Con:=⟨⟨[.pl a1C,.pl a0S,.pl a1U,.pl a0Q,.pl (.int .u64)],[]⟩,⟨[.pl a1C,.pl a2E,.pl (.int .i64)],[]⟩,b0K K0⟩
theorem h0V:a1Q tp 71 b8C:=a3Z (n:=71) (k:=60) (hs:=[(73,.con b6G),(105,.con b9S),(106,.con b5M),(107,.con b9L),(108,.con b8A),(109,.con b9W),(110,.con b8Y),(111,.con a6Q),(112,.con b5L),(113,.con c1W),(114,.con b9V)]) (A:=b0Y [([1000000,71],11,.join ⟨(dd 5 (.ptr 0 []::.ptr 1 []::.ptr 2 []::.ptr 3 []::dd 1 (.ptr 4 []::.ptr 5 []::dd 2 (.ptr 6 []::.ptr 7 []::dd 153 [])))),[.box a1C (.pl a1C),.box a0S (.pl a0S),.box a1U (.pl a1U),.box a0Q (.pl a0Q),.box a1C (.pl a1C),.box a2E (.pl a2E),.box a2E (.pl a2E),.box a1U (.pl a1U)]⟩),([1000000,71],30,.join ⟨(dd 5 (.ptr 0 []::dd 2 (.ptr 1 []::dd 1 (.ptr 2 []::.ptr 3 []::dd 2 (.ptr 4 []::dd 2 (.pl (.sl a1B)::dd 151 [])))))),[.box a1C (.pl a1C),.box a0Q (.pl a0Q),.box a1C (.pl a1C),.box a2E (.pl a2E),.box a2E (.pl a2E)]⟩)]) ⟨h0E,g9U,g7V,g7W,g8X,g8V,g8O,e9Q,g9M,g9O,g9D,trivial⟩ (by intro x; kernel_rfl)
def b3I:Con:=⟨⟨[.bp a0O,.pl (.int .i64)],[]⟩,⟨[.pl a1U],[]⟩,a6Y K0⟩
theorem h2P:a1Q tp 72 b3I:=a3Z (n:=72) (k:=140) (hs:=[]) (A:=fun _ _=>none) trivial (by intro x; kernel_rfl)
def a8N:Con:=⟨⟨[.ptr 0 [],.pl (.int .i64),.pl a1U],a0N⟩,⟨[.pl (.int .i64)],a0N⟩,a4E K0⟩
theorem h1J:a1Q tp 74 a8N:=a3Z (n:=74) (k:=140) (hs:=[(111,.con a6Q)]) (A:=b0Y [([1000000,74],4,.join ⟨(.ptr 0 []::.pl (.int .i64)::dd 3 (.ptr 2 []::dd 30 (.ptr 0 []::[]))),[.box a0O ((.pair (.whole 1) (.pl (.cons (.arr 4 a1U) .nil)))),.row a0Z,.box a1U (.pl a1U)]⟩)]) ⟨e9Q,trivial⟩ (by intro x; kernel_rfl)
def b1V:Con:=⟨⟨[.ptr 0 [],.pl a0Q],a0H⟩,⟨[.pl a1R],a0H⟩,a5R K0⟩
theorem h0S:a1Q tp 48 b1V:=a3Z (n:=48) (k:=140) (hs:=[(70,.con a8Q),(71,.con b8C),(72,.con b3I),(73,.con b6G),(74,.con a8N)]) (A:=b0Y [([48],0,.tmpl ⟨(.ptr 0 []::dd 3 (.ptr 8 []::dd 1 (.ptr 10 []::dd 1 (.ptr 11 []::.pl (.int .i64)::dd 82 (.ptr 0 []::.ptr 1 []::.ptr 4 []::[]))))),[.box a1N ((.pair (.pl (.int .u64)) ((.pair (.pl a0S) ((.pair (.pl a1T) ((.pair (.pl (.int .u64)) ((.pair (.pl a1C) ((.pair (.ptr 1 []) ((.pair (.whole 3) ((.pair (.ptr 4 []) (.pl .nil))))))))))))))))),.box a0O ((.pair (.whole 2) (.pl (.cons (.arr 4 a1U) .nil)))),.row a0Z,.row a0Q,.box a0U ((.pair (.pl a1U) ((.pair (.whole 5) ((.pair (.whole 6) ((.pair (.whole 7) (.pl .nil))))))))),.row (.arr 32 (.int .u8)),.row (.int .u64),.row a1A,.box a1R ((.pair (.pl (.int .i64)) ((.pair (.pl (.int .i64)) ((.pair (.pl a3T) ((.pair (.pl a1U) ((.pair (.pl a1U) ((.pair (.pl (.int .u64)) ((.pair (.pl a1U) ((.pair (.pl a1U) ((.pair (.whole 9) (.pl .nil))))))))))))))))))),.row a0Q,.box a2E (.pl a2E),.box a1R ((.pair (.pl (.int .i64)) ((.pair (.pl (.int .i64)) ((.pair (.pl a3T) ((.pair (.pl a1U) ((.pair (.pl a1U) ((.pair (.pl (.int .u64)) ((.pair (.pl a1U) ((.pair (.pl a1U) ((.pair (.whole 12) (.pl .nil))))))))))))))))))),.row a0Q]⟩)]) ⟨h0K,h0V,h2P,h0E,h1J,trivial⟩ (by intro x; kernel_rfl)
def b9Q:Con:=⟨⟨[.pl (.int .u64),.pl (.int .u64),.pl (.int .u64)],[]⟩,⟨[.pl (.int .u64)],[]⟩,b2A K0⟩
theorem h2E:a1Q tp 75 b9Q:=a3Z (n:=75) (k:=60) (hs:=[(115,.con b5B)]) (A:=fun _ _=>none) ⟨g3Q,trivial⟩ (by intro x; kernel_rfl)
def c0B:Con:=⟨⟨[.pl a1T,.pl (.int .u64),.pl (.int .u64),.pl a0S],[]⟩,⟨[.pl a1T,.pl (.int .i64)],[]⟩,b2Z K0⟩
theorem h1V:a1Q tp 76 c0B:=a3Z (n:=76) (k:=60) (hs:=[(61,.con b6C)]) (A:=b0Y [([1000000,76],4,.join ⟨(dd 1 (.pl (.int .u64)::.pl (.int .u64)::dd 1 (.ptr 0 []::dd 2 (.ptr 1 []::.ptr 2 []::dd 43 [])))),[.box a1T (.pl a1T),.box a0S (.pl a0S),.box a1T (.pl a1T)]⟩)]) ⟨h0D,trivial⟩ (by intro x; kernel_rfl)
def c1B:Con:=⟨⟨[.pl a0S],[]⟩,⟨[.pl (.arr 12 a1U)],[]⟩,c3E K0⟩
theorem g7Z:a1Q tp 117 c1B:=a3Z (n:=117) (k:=60) (hs:=[]) (A:=fun _ _=>none) trivial (by intro x; kernel_rfl)
def c2C:Con:=⟨⟨[.pl a0S,.pl (.int .i64),.pl a1U],[]⟩,⟨[.pl a0S,.pl (.int .i64)],[]⟩,a7P K0⟩
theorem h0W:a1Q tp 77 c2C:=a3Z (n:=77) (k:=60) (hs:=[(102,.con b0W),(116,.con a5G),(117,.con c1B)]) (A:=b0Y [([1000000,77],4,.join ⟨(dd 1 (.pl (.int .i64)::dd 1 (.ptr 0 []::dd 1 (.ptr 1 []::.ptr 2 []::dd 76 [])))),[.box a0S (.pl a0S),.box a1U (.pl a1U),.box a0S (.pl a0S)]⟩),([77],0,.tmpl ⟨(dd 6 (.ptr 0 []::dd 1 (.ptr 1 []::.pl (.int .i64)::dd 73 []))),[.box a0S (.pl a0S),.box (.arr 12 a1U) (.pl (.arr 12 a1U))]⟩)]) ⟨g0T,e7B,g7Z,trivial⟩ (by intro x; kernel_rfl)
def c1R:Con:=⟨⟨[.pl (.sl a1B),.pl (.int .u64)],[]⟩,⟨[.pl (.sl a1B),.pl (.int .i64)],[]⟩,b4I K0⟩
theorem g9S:a1Q tp 118 c1R:=a3Z (n:=118) (k:=60) (hs:=[(132,.con a5F),(135,.con a9H)]) (A:=b0Y [([1000000,118],14,.join ⟨(.pl (.sl a1B)::.pl (.int .u64)::dd 4 (.whole 0::.pl .bool::.pl (.int .i64)::dd 30 (.pl .bool::dd 20 []))),[.row a1B]⟩),([1000000,118],4,.join ⟨(.pl (.sl a1B)::.pl (.int .u64)::dd 58 []),[]⟩),([118],0,.tmpl ⟨(.pl (.sl a1B)::.pl (.int .u64)::dd 4 (.whole 0::.pl .bool::.pl (.int .i64)::dd 51 [])),[.row a1B]⟩)]) ⟨e7H,f3Z,trivial⟩ (by intro x; kernel_rfl)
def b5J:Con:=⟨⟨[.pl a1C,.pl (.int .u64)],[]⟩,⟨[.pl a1C,.pl (.int .i64)],[]⟩,a8L K0⟩
theorem h2U:a1Q tp 78 b5J:=a3Z (n:=78) (k:=60) (hs:=[(99,.con b0N),(118,.con c1R)]) (A:=fun _ _=>none) ⟨g9P,g9S,trivial⟩ (by intro x; kernel_rfl)
def b1Y:Con:=⟨⟨[.ptr 0 [],.pl a1U],a2U⟩,⟨[.pl (.int .i64)],a2U⟩,a5Z K0⟩
theorem h2H:a1Q tp 79 b1Y:=a3Z (n:=79) (k:=140) (hs:=[(56,.con a2X),(119,.con b0V)]) (A:=fun _ _=>none) ⟨f3B,g0F,trivial⟩ (by intro x; kernel_rfl)
def c2A:Con:=⟨⟨[.pl (.sl (.int .i64)),.pl (.sl (.int .i64))],[]⟩,⟨[.whole 0],[.row (.int .i64)]⟩,a8U K0⟩
theorem f5O:a1Q tp 34 c2A:=a3Z (n:=34) (k:=80) (hs:=[]) (A:=b0Y [([1000000,34],7,.join ⟨(.pl (.sl (.int .i64))::.pl (.sl (.int .i64))::dd 3 (.whole 0::.pl (.int .i64)::.pl (.int .i64)::dd 44 [])),[.row (.int .i64)]⟩),([1000000,34],9,.join ⟨(.pl (.sl (.int .i64))::.pl (.sl (.int .i64))::dd 3 (.whole 0::.pl (.int .i64)::.pl (.int .i64)::dd 44 [])),[.row (.int .i64)]⟩),([34],0,.tmpl ⟨(.pl (.sl (.int .i64))::.pl (.sl (.int .i64))::dd 3 (.whole 0::.pl (.int .i64)::.pl (.int .i64)::dd 44 [])),[.row (.int .i64)]⟩)]) trivial (by intro x; kernel_rfl)
def b2H:Con:=⟨⟨[.bp a0O],[]⟩,⟨[.pl (.sl (.int .i64))],[]⟩,a6K K0⟩
theorem g6C:c0K tp 120 b2H:=e9J (n:=120) (k:=140) (hs:=[(34,.con c2A),(35,.con a0R)]) (A:=b0Y [([120],0,.tmpl ⟨(.bp a0O :: dd 2 (.whole 0 :: .pl (.int .i64) :: dd 35 [])),[.row (.int .i64)]⟩),([120],2,.tmpl ⟨(.bp a0O :: dd 2 (.whole 0 :: dd 1 (.pl (.int .i64) :: dd 34 []))),[.row (.int .i64)]⟩)]) ⟨f5O,c7D,trivial⟩ (by intro x; kernel_rfl)
def b3X:Con:=⟨⟨[.ptr 0 [],.pl (.int .u64),.pl a1U],a0N⟩,⟨[.pl (.int .i64)],a0N⟩,a7I K0⟩
theorem h1Q:a1Q tp 80 b3X:=a3Z (n:=80) (k:=160) (hs:=[(34,.con a1S),(35,.con a0R),(60,.con a4P),(103,.con a8D),(120,.fresh b2H)]) (A:=fun _ _=>none) ⟨d2M,c7D,f8I,g4L,g6C,trivial⟩ (by intro x; kernel_rfl)
def a7T:Con:=⟨⟨[.bp a0U,.pl (.int .u64)],[]⟩,⟨[.pl .bool],[]⟩,a4L K0⟩
theorem g9Y:a1Q tp 27 a7T:=a3Z (n:=27) (k:=140) (hs:=[]) (A:=b0Y [([27],0,.tmpl ⟨(.bp a0U::.pl (.int .u64)::dd 3 (.pl (.int .i64)::dd 18 [])),[]⟩)]) trivial (by intro x; kernel_rfl)
def c4E:Con:=⟨⟨[.pl (.int .i64),.pl (.int .i64),.pl (.arr 32 (.int .u8)),.pl (.sl (.arr 32 (.int .u8)))],[]⟩,⟨[.pl (.arr 32 (.int .u8)),.pl .bool],[]⟩,b6L K0⟩
def c4L (k0:Nat):Con:=⟨⟨[.pl (.int .i64),.pl (.int .i64),.pl (.arr 32 (.int .u8)),.pl (.sl (.arr 32 (.int .u8)))],[]⟩,⟨[.pl (.arr 32 (.int .u8)),.pl .bool],[]⟩,a4T K0 k0⟩
theorem f7G:∀ k0,a1Q tp 145 (c4L k0)
 | 0=>fun x y h=>by cases h
 | k0 + 1=>a3Z (n:=145) (k:=60) (hs:=[(145,.con (c4L k0)),(148,.con a7Z),(152,.con b6E)]) (A:=fun _ _=>none) ⟨(f7G k0),f8U,g4S,trivial⟩ (by intro x; kernel_rfl)
theorem g6W:a1Q tp 145 c4E:=f7G K0
def b9M:Con:=⟨⟨[.pl (.arr 32 (.int .u8)),.pl (.int .i64),.pl (.int .i64),.pl (.arr 32 (.int .u8)),.pl (.sl (.arr 32 (.int .u8)))],[]⟩,⟨[.pl .bool],[]⟩,a7L K0⟩
theorem g7S:a1Q tp 121 b9M:=a3Z (n:=121) (k:=60) (hs:=[(145,.con c4E)]) (A:=b0Y [([1000000,121],4,.join ⟨(dd 1 (.pl (.int .i64)::.pl (.int .i64)::dd 1 (.pl (.sl (.arr 32 (.int .u8)))::.ptr 0 []::dd 2 (.ptr 1 []::dd 30 [])))),[.box (.arr 32 (.int .u8)) (.pl (.arr 32 (.int .u8))),.box (.arr 32 (.int .u8)) (.pl (.arr 32 (.int .u8)))]⟩)]) ⟨g6W,trivial⟩ (by intro x; kernel_rfl)
def b0F:Con:=⟨⟨[.bp a0U,.pl (.int .u64)],[]⟩,⟨[.pl a1U],[]⟩,a5E K0⟩
theorem g8C:a1Q tp 123 b0F:=a3Z (n:=123) (k:=140) (hs:=[]) (A:=b0Y [([123],0,.tmpl ⟨(.bp a0U::.pl (.int .u64)::dd 2 (.ptr 0 []::.pl (.int .i64)::dd 28 [])),[.box a1U (.pl a1U)]⟩)]) trivial (by intro x; kernel_rfl)
def b3J:Con:=⟨⟨[.ptr 0 [],.pl a7M],a2U⟩,⟨[.pl (.int .i64)],a2U⟩,a6Z K0⟩
theorem h1E:a1Q tp 81 b3J:=a3Z (n:=81) (k:=140) (hs:=[(27,.con a7T),(56,.con a2X),(111,.con a6Q),(119,.con b0V),(121,.con b9M),(122,.con b5E),(123,.con b0F)]) (A:=b0Y [([1000000,81],4,.join ⟨(.ptr 0 []::dd 2 (.ptr 4 []::dd 154 (.ptr 0 []::[]))),[.box a0U ((.pair (.pl a1U) ((.pair (.whole 1) ((.pair (.whole 2) ((.pair (.whole 3) (.pl .nil))))))))),.row (.arr 32 (.int .u8)),.row (.int .u64),.row a1A,.box a7M (.pl a7M)]⟩),([1000000,81],6,.join ⟨(.ptr 0 []::dd 2 (.ptr 4 []::dd 154 (.ptr 0 []::[]))),[.box a0U ((.pair (.pl a1U) ((.pair (.whole 1) ((.pair (.whole 2) ((.pair (.whole 3) (.pl .nil))))))))),.row (.arr 32 (.int .u8)),.row (.int .u64),.row a1A,.box a7M (.pl a7M)]⟩),([81],0,.tmpl ⟨(.ptr 0 []::dd 2 (.ptr 4 []::dd 4 (.ptr 5 []::.pl (.int .i64)::dd 148 (.ptr 0 []::[])))),[.box a0U ((.pair (.pl a1U) ((.pair (.whole 1) ((.pair (.whole 2) ((.pair (.whole 3) (.pl .nil))))))))),.row (.arr 32 (.int .u8)),.row (.int .u64),.row a1A,.box a7M (.pl a7M),.box a1U (.pl a1U)]⟩)]) ⟨g9Y,f3B,e9Q,g0F,g7S,g2W,g8C,trivial⟩ (by intro x; kernel_rfl)
def b2I:Con:=⟨⟨[.ptr 0 [],.pl a1K],a0H⟩,⟨[.pl (.int .i64)],a0H⟩,a6H K0⟩
theorem h2J:a1Q tp 49 b2I:=a3Z (n:=49) (k:=140) (hs:=[(34,.con a1S),(35,.con a0R),(56,.con a2X),(60,.con a4P),(75,.con b9Q),(76,.con c0B),(77,.con c2C),(78,.con b5J),(79,.con b1Y),(80,.con b3X),(81,.con b3J)]) (A:=b0Y [([1000000,49],22,.join ⟨(.ptr 0 []::dd 2 (.ptr 8 []::dd 142 (.ptr 0 []::.ptr 1 []::.ptr 4 []::[]))),[.box a1N ((.pair (.pl (.int .u64)) ((.pair (.pl a0S) ((.pair (.pl a1T) ((.pair (.pl (.int .u64)) ((.pair (.pl a1C) ((.pair (.ptr 1 []) ((.pair (.whole 3) ((.pair (.ptr 4 []) (.pl .nil))))))))))))))))),.box a0O ((.pair (.whole 2) (.pl (.cons (.arr 4 a1U) .nil)))),.row a0Z,.row a0Q,.box a0U ((.pair (.pl a1U) ((.pair (.whole 5) ((.pair (.whole 6) ((.pair (.whole 7) (.pl .nil))))))))),.row (.arr 32 (.int .u8)),.row (.int .u64),.row a1A,.box a1K (.pl a1K)]⟩)]) ⟨d2M,c7D,f3B,f8I,h2E,h1V,h0W,h2U,h2H,h1Q,h1E,trivial⟩ (by intro x; kernel_rfl)
def b1G:Con:=⟨⟨[.ptr 0 [],.pl a1K],a0H⟩,⟨[.pl a1R],a0H⟩,a4C K0⟩
theorem h1S:a1Q tp 20 b1G:=a3Z (n:=20) (k:=140) (hs:=[(46,.con b5A),(47,.con b4S),(48,.con b1V),(49,.con b2I)]) (A:=b0Y [([1000000,20],4,.join ⟨(.ptr 0 []::dd 2 (.ptr 8 []::.ptr 9 []::dd 41 (.ptr 0 []::.ptr 1 []::.ptr 4 []::[]))),[.box a1N ((.pair (.pl (.int .u64)) ((.pair (.pl a0S) ((.pair (.pl a1T) ((.pair (.pl (.int .u64)) ((.pair (.pl a1C) ((.pair (.ptr 1 []) ((.pair (.whole 3) ((.pair (.ptr 4 []) (.pl .nil))))))))))))))))),.box a0O ((.pair (.whole 2) (.pl (.cons (.arr 4 a1U) .nil)))),.row a0Z,.row a0Q,.box a0U ((.pair (.pl a1U) ((.pair (.whole 5) ((.pair (.whole 6) ((.pair (.whole 7) (.pl .nil))))))))),.row (.arr 32 (.int .u8)),.row (.int .u64),.row a1A,.box a1K (.pl a1K),.box a1R ((.pair (.pl (.int .i64)) ((.pair (.pl (.int .i64)) ((.pair (.pl a3T) ((.pair (.pl a1U) ((.pair (.pl a1U) ((.pair (.pl (.int .u64)) ((.pair (.pl a1U) ((.pair (.pl a1U) ((.pair (.whole 10) (.pl .nil))))))))))))))))))),.row a0Q]⟩)]) ⟨h2X,h1U,h0S,h2J,trivial⟩ (by intro x; kernel_rfl)
def b4A:Con:=⟨⟨[.pl (.int .i64),.pl (.int .i64)],[]⟩,⟨[.pl (.int .i64)],[]⟩,a5W K0⟩
theorem g7U:a1Q tp 10 b4A:=a3Z (n:=10) (k:=160) (hs:=[]) (A:=fun _ _=>none) trivial (by intro x; kernel_rfl)
def b7R:Con:=⟨⟨[.pl (.int .i64),.pl (.int .u64),.pl .bool],[]⟩,⟨[.pl a1K],[]⟩,b0R K0⟩
theorem h1Y:a1Q tp 50 b7R:=a3Z (n:=50) (k:=160) (hs:=[]) (A:=fun _ _=>none) trivial (by intro x; kernel_rfl)
def b8Q:Con:=⟨⟨[.pl (.int .i64),.ptr 0 []],a0H⟩,⟨[.pl a0Q],a0H⟩,b1S K0⟩
theorem h2I:a1Q tp 51 b8Q:=a3Z (n:=51) (k:=160) (hs:=[]) (A:=fun _ _=>none) trivial (by intro x; kernel_rfl)
def c0N:Con:=⟨⟨[.pl (.int .i64)],[]⟩,⟨[.pl a1K],[]⟩,b2U K0⟩
theorem h1P:a1Q tp 52 c0N:=a3Z (n:=52) (k:=160) (hs:=[]) (A:=b0Y [([1000000,52],7,.join ⟨(.pl (.int .i64)::dd 1 (.ptr 0 []::dd 3 (.ptr 1 []::dd 56 []))),[.box a1K (.pl a1K),.box a1K (.pl a1K)]⟩)]) trivial (by intro x; kernel_rfl)
def c0I:Con:=⟨⟨[.pl (.sl (.arr 32 (.int .u8))),.pl (.int .i64)],[]⟩,⟨[.whole 0],[.row (.arr 32 (.int .u8))]⟩,b2V K0⟩
def c0M (k0:Nat):Con:=⟨⟨[.pl (.sl (.arr 32 (.int .u8))),.pl (.int .i64)],[]⟩,⟨[.whole 0],[.row (.arr 32 (.int .u8))]⟩,a3R K0 k0⟩
theorem f8D:∀ k0,a1Q tp 124 (c0M k0)
 | 0=>fun x y h=>by cases h
 | k0 + 1=>a3Z (n:=124) (k:=140) (hs:=[(124,.con (c0M k0)),(134,.con b4L),(148,.con a7Z)]) (A:=fun _ _=>none) ⟨(f8D k0),g3V,f8U,trivial⟩ (by intro x; kernel_rfl)
theorem g8J:a1Q tp 124 c0I:=f8D K0
def b9B:Con:=⟨⟨[.pl (.sl a0Q),.pl (.int .i64),.pl (.int .i64)],[]⟩,⟨[.whole 0,.pl .bool],[.row (.arr 32 (.int .u8))]⟩,b1K K0⟩
theorem h1C:a1Q tp 82 b9B:=a3Z (n:=82) (k:=140) (hs:=[(124,.con c0I),(125,.con b3L)]) (A:=b0Y [([1000000,82],4,.join ⟨(.pl (.sl a0Q)::.pl (.int .i64)::.pl (.int .i64)::dd 23 []),[]⟩)]) ⟨g8J,g6B,trivial⟩ (by intro x; kernel_rfl)
def b4J:Con:=⟨⟨[],[]⟩,⟨[.pl a1U],[]⟩,b1T K0⟩
theorem g9Z:a1Q tp 85 b4J:=a3Z (n:=85) (k:=60) (hs:=[]) (A:=fun _ _=>none) trivial (by intro x; kernel_rfl)
def b9T:Con:=⟨⟨[.pl (.int .i64)],[]⟩,⟨[.pl (.arr 32 (.int .u8))],[]⟩,b1U K0⟩
theorem h2K:a1Q tp 86 b9T:=a3Z (n:=86) (k:=160) (hs:=[]) (A:=b0Y [([86],0,.tmpl ⟨(.pl (.int .i64)::dd 1 (.ptr 0 []::.ptr 1 []::.pl (.int .i64)::dd 14 [])),[.box (.arr 32 (.int .u8)) (.pl (.arr 32 (.int .u8))),.box (.arr 32 (.int .u8)) (.pl (.arr 32 (.int .u8)))]⟩)]) trivial (by intro x; kernel_rfl)
def b9Y:Con:=⟨⟨[.pl (.int .i64),.ptr 0 []],a0H⟩,⟨[.pl a7M],a0H⟩,b2X K0⟩
theorem h0Y:a1Q tp 53 b9Y:=a3Z (n:=53) (k:=160) (hs:=[(24,.con a1O),(34,.con a1S),(35,.con a0R),(82,.con b9B),(83,.con a8T),(84,.con a1W),(85,.con b4J),(86,.con b9T)]) (A:=fun _ _=>none) ⟨e0Q,d2M,c7D,h1C,g4O,e6H,g9Z,h2K,trivial⟩ (by intro x; kernel_rfl)
def b1M:Con:=⟨⟨[.pl (.sl (.int .i64))],[]⟩,⟨[.pl (.sl (.int .u8))],[]⟩,a4H K0⟩
theorem h2S:a1Q tp 89 b1M:=a3Z (n:=89) (k:=160) (hs:=[(10,.con b4A)]) (A:=b0Y [([1000000,89],15,.join ⟨(.pl (.sl (.int .i64))::dd 2 (.whole 0::.pl (.int .i64)::.pl (.int .i64)::.pl (.int .i64)::dd 20 (.pl (.int .i64)::dd 18 (.pl .bool::dd 50 [])))),[.row (.int .u8)]⟩),([1000000,89],22,.join ⟨(.pl (.sl (.int .i64))::dd 2 (.whole 0::.pl (.int .i64)::.pl (.int .i64)::.pl (.int .i64)::dd 55 (.pl .bool::dd 34 []))),[.row (.int .u8)]⟩),([1000000,89],25,.join ⟨(.pl (.sl (.int .i64))::dd 2 (.whole 0::.pl (.int .i64)::dd 1 (.pl (.int .i64)::dd 1 (.pl (.int .i64)::dd 88 [])))),[.row (.int .u8)]⟩),([1000000,89],28,.join ⟨(.pl (.sl (.int .i64))::dd 2 (.whole 0::.pl (.int .i64)::dd 1 (.pl (.int .i64)::dd 1 (.pl (.int .i64)::.pl (.int .i64)::dd 68 (.pl (.int .i64)::.pl (.int .i64)::.pl (.int .i64)::.whole 0::.pl (.int .i64)::.pl .bool::dd 13 []))))),[.row (.int .u8)]⟩),([89],0,.tmpl ⟨(.pl (.sl (.int .i64))::dd 2 (.whole 0::.pl (.int .i64)::dd 92 [])),[.row (.int .u8)]⟩),([89],3,.tmpl ⟨(.pl (.sl (.int .i64))::dd 2 (.whole 0::.pl (.int .i64)::.pl (.int .i64)::.pl (.int .i64)::dd 3 (.pl (.int .i64)::dd 86 []))),[.row (.int .u8)]⟩),([89],5,.tmpl ⟨(.pl (.sl (.int .i64))::dd 2 (.whole 0::.pl (.int .i64)::.pl (.int .i64)::.pl (.int .i64)::.pl (.int .i64)::dd 89 [])),[.row (.int .u8)]⟩),([89],7,.tmpl ⟨(.pl (.sl (.int .i64))::dd 2 (.whole 0::.pl (.int .i64)::dd 1 (.pl (.int .i64)::dd 1 (.pl (.int .i64)::.pl (.int .i64)::dd 87 [])))),[.row (.int .u8)]⟩)]) ⟨g7U,trivial⟩ (by intro x; kernel_rfl)
def b4R:Con:=⟨⟨[.pl (.int .i64),.pl (.int .u64),.ptr 0 []],a0H⟩,⟨[.pl a1Y],a0H⟩,a7W K0⟩
theorem h2M:a1Q tp 54 b4R:=a3Z (n:=54) (k:=160) (hs:=[(24,.con a1O),(35,.con a0R),(84,.con a1W),(85,.con b4J),(87,.con a4F),(88,.con a3M),(89,.con b1M)]) (A:=fun _ _=>none) ⟨e0Q,c7D,e6H,g9Z,g5P,f0D,h2S,trivial⟩ (by intro x; kernel_rfl)
def b6Y:Con:=⟨⟨[.pl (.int .i64),.ptr 0 [],.pl .bool],a0H⟩,⟨[.pl a1K],a0H⟩,a9Q K0⟩
theorem h2A:a1Q tp 21 b6Y:=a3Z (n:=21) (k:=160) (hs:=[(10,.con b4A),(50,.con b7R),(51,.con b8Q),(52,.con c0N),(53,.con b9Y),(54,.con b4R)]) (A:=b0Y [([1000000,21],11,.join ⟨(dd 1 (.ptr 0 []::dd 4 (.ptr 8 []::dd 1 (.pl (.int .u64)::.pl (.int .i64)::dd 12 (.pl (.int .i64)::dd 7 (.pl .bool::dd 52 (.ptr 0 []::.ptr 1 []::.ptr 4 []::[]))))))),[.box a1N ((.pair (.pl (.int .u64)) ((.pair (.pl a0S) ((.pair (.pl a1T) ((.pair (.pl (.int .u64)) ((.pair (.pl a1C) ((.pair (.ptr 1 []) ((.pair (.whole 3) ((.pair (.ptr 4 []) (.pl .nil))))))))))))))))),.box a0O ((.pair (.whole 2) (.pl (.cons (.arr 4 a1U) .nil)))),.row a0Z,.row a0Q,.box a0U ((.pair (.pl a1U) ((.pair (.whole 5) ((.pair (.whole 6) ((.pair (.whole 7) (.pl .nil))))))))),.row (.arr 32 (.int .u8)),.row (.int .u64),.row a1A,.box a1K (.pl a1K)]⟩),([1000000,21],26,.join ⟨(dd 1 (.ptr 0 []::dd 4 (.ptr 8 []::dd 1 (.pl (.int .u64)::.pl (.int .i64)::dd 61 (.pl .bool::dd 11 (.ptr 0 []::.ptr 1 []::.ptr 4 []::[])))))),[.box a1N ((.pair (.pl (.int .u64)) ((.pair (.pl a0S) ((.pair (.pl a1T) ((.pair (.pl (.int .u64)) ((.pair (.pl a1C) ((.pair (.ptr 1 []) ((.pair (.whole 3) ((.pair (.ptr 4 []) (.pl .nil))))))))))))))))),.box a0O ((.pair (.whole 2) (.pl (.cons (.arr 4 a1U) .nil)))),.row a0Z,.row a0Q,.box a0U ((.pair (.pl a1U) ((.pair (.whole 5) ((.pair (.whole 6) ((.pair (.whole 7) (.pl .nil))))))))),.row (.arr 32 (.int .u8)),.row (.int .u64),.row a1A,.box a1K (.pl a1K)]⟩),([1000000,21],8,.join ⟨(dd 1 (.ptr 0 []::.pl .bool::dd 3 (.ptr 8 []::dd 1 (.pl (.int .u64)::.pl (.int .i64)::dd 12 (.pl (.int .i64)::.pl .bool::dd 59 (.ptr 0 []::.ptr 1 []::.ptr 4 []::[])))))),[.box a1N ((.pair (.pl (.int .u64)) ((.pair (.pl a0S) ((.pair (.pl a1T) ((.pair (.pl (.int .u64)) ((.pair (.pl a1C) ((.pair (.ptr 1 []) ((.pair (.whole 3) ((.pair (.ptr 4 []) (.pl .nil))))))))))))))))),.box a0O ((.pair (.whole 2) (.pl (.cons (.arr 4 a1U) .nil)))),.row a0Z,.row a0Q,.box a0U ((.pair (.pl a1U) ((.pair (.whole 5) ((.pair (.whole 6) ((.pair (.whole 7) (.pl .nil))))))))),.row (.arr 32 (.int .u8)),.row (.int .u64),.row a1A,.box a1K (.pl a1K)]⟩)]) ⟨g7U,h1Y,h2I,h1P,h0Y,h2M,trivial⟩ (by intro x; kernel_rfl)
def b2P:Con:=⟨⟨[.pl (.sl (.int .i64)),.pl .bool],[]⟩,⟨[.ptr 0 [],.whole 8,.whole 9],[.box a1N (.pair (.pl (.int .u64)) (.pair (.pl a0S) (.pair (.pl a1T) (.pair (.pl (.int .u64)) (.pair (.pl a1C) (.pair (.ptr 1 []) (.pair (.whole 3) (.pair (.ptr 2 []) (.pl .nil))))))))),.box a0O (.pair (.whole 4) (.pl (.cons (.arr 4 a1U) .nil))),.box a0U (.pair (.pl a1U) (.pair (.whole 5) (.pair (.whole 6) (.pair (.whole 7) (.pl .nil))))),.row a0Q,.row a0Z,.row (.arr 32 (.int .u8)),.row (.int .u64),.row a1A,.row a1K,.row a1R]⟩,a7S K0⟩
theorem ok9:a1Q tp 9 b2P:=a3Z (n:=9) (k:=160) (hs:=[(18,.con b5X),(19,.con b5C),(20,.con b1G),(21,.con b6Y)]) (A:=b0Y [([9],0,.tmpl ⟨(.pl (.sl (.int .i64))::.pl .bool::dd 5 (.ptr 0 []::.whole 8::.whole 9::.pl (.int .i64)::dd 45 [])),[.box a1N ((.pair (.pl (.int .u64)) ((.pair (.pl a0S) ((.pair (.pl a1T) ((.pair (.pl (.int .u64)) ((.pair (.pl a1C) ((.pair (.ptr 1 []) ((.pair (.whole 3) ((.pair (.ptr 4 []) (.pl .nil))))))))))))))))),.box a0O ((.pair (.whole 2) (.pl (.cons (.arr 4 a1U) .nil)))),.row a0Z,.row a0Q,.box a0U ((.pair (.pl a1U) ((.pair (.whole 5) ((.pair (.whole 6) ((.pair (.whole 7) (.pl .nil))))))))),.row (.arr 32 (.int .u8)),.row (.int .u64),.row a1A,.row a1K,.row a1R]⟩),([9],2,.tmpl ⟨(.pl (.sl (.int .i64))::.pl .bool::dd 5 (.ptr 0 []::.whole 8::.whole 9::dd 1 (.pl (.int .i64)::dd 44 []))),[.box a1N ((.pair (.pl (.int .u64)) ((.pair (.pl a0S) ((.pair (.pl a1T) ((.pair (.pl (.int .u64)) ((.pair (.pl a1C) ((.pair (.ptr 1 []) ((.pair (.whole 3) ((.pair (.ptr 4 []) (.pl .nil))))))))))))))))),.box a0O ((.pair (.whole 2) (.pl (.cons (.arr 4 a1U) .nil)))),.row a0Z,.row a0Q,.box a0U ((.pair (.pl a1U) ((.pair (.whole 5) ((.pair (.whole 6) ((.pair (.whole 7) (.pl .nil))))))))),.row (.arr 32 (.int .u8)),.row (.int .u64),.row a1A,.row a1K,.row a1R]⟩)]) ⟨g9X,h0R,h1S,h2A,trivial⟩ (by intro x; kernel_rfl)
theorem g9W:a1Q tp 57 e4N:=f4L (fn:=Tryz.f57) (by kernel_rfl) (by kernel_rfl) (by kernel_rfl) (by kernel_rfl) (by kernel_rfl)
def c8W:Con:=⟨⟨[.pl a1U,.pl a1U],[]⟩,⟨[.pl a1U,.pl (.int .i64)],[]⟩,a5H⟩
theorem h1H:a1Q tp 59 c8W:=a3Z (n:=59) (k:=60) (hs:=[(57,.con e4N)]) (A:=fun p _=>match p with | 1000000::_=>none | _=>some (.unroll 6)) ⟨g9W,trivial⟩ (by intro x; kernel_rfl)
def c8X:Con:=⟨⟨[.pl (.sl a1K),.pl (.sl a1R)],[]⟩,⟨[.pl a1E,.pl (.int .i64)],[]⟩,d2E K0⟩
theorem h1G:a1Q tp 11 c8X:=a3Z (n:=11) (k:=160) (hs:=[(22,.inl),(39,.inl),(59,.con c8W)]) (A:=b0Y [([11],0,.tmpl ⟨(.pl (.sl a1K)::.pl (.sl a1R)::dd 2 (.ptr 0 []::dd 13 (.pl (.sl a1R)::.pl (.int .i64)::.pl (.int .i64)::dd 40 []))),[.box a1E (.pl a1E)]⟩),([11],2,.tmpl ⟨(.pl (.sl a1K)::dd 3 (.ptr 0 []::dd 3 (.ptr 1 []::.ptr 2 []::dd 30 (.pl (.sl a1R)::.pl (.int .i64)::.pl (.int .i64)::dd 18 [])))),[.box a1E (.pl a1E),.box a1E (.pl a1E),.box (.cons .bool .nil) (.pl (.cons .bool .nil))]⟩),([22,15,5,11],0,.tmpl ⟨(.ptr 0 []::.ptr 1 []::dd 4 (.ptr 2 []::.ptr 3 []::dd 3 (.pl (.sl a0Q)::.pl (.int .i64)::.pl (.int .i64)::dd 75 (.pl (.sl a1K)::dd 3 (.ptr 4 []::dd 3 (.ptr 1 []::.ptr 0 []::dd 30 (.pl (.sl a1R)::.pl (.int .i64)::.pl (.int .i64)::dd 18 []))))))),[.box (.cons .bool .nil) (.pl (.cons .bool .nil)),.box a1E (.pl a1E),.box a1K (.pl a1K),.box a1R (.pl a1R),.box a1E (.pl a1E)]⟩)]) ⟨h1H,trivial⟩ (by intro x; kernel_rfl)
def b1B:Con:=⟨⟨[.bp a0O],[]⟩,⟨[.whole 0],[.row a0Z]⟩,a5N K0⟩
theorem h2C:a1Q tp 25 b1B:=a3Z (n:=25) (k:=140) (hs:=[(56,.con a2X)]) (A:=b0Y [([1000000,25],11,.join ⟨(.bp a0O::dd 2 (.whole 0::.pl (.int .i64)::.ptr 1 []::.pl (.int .i64)::dd 53 [])),[.row a0Z,.box a0Z (.pl a0Z)]⟩),([1000000,25],8,.join ⟨(.bp a0O::dd 2 (.whole 0::.pl (.int .i64)::.ptr 1 []::dd 54 [])),[.row a0Z,.box a0Z (.pl a0Z)]⟩),([25],0,.tmpl ⟨(.bp a0O::dd 2 (.whole 0::.pl (.int .i64)::dd 55 [])),[.row a0Z]⟩),([25],2,.tmpl ⟨(.bp a0O::dd 2 (.whole 0::.pl (.int .i64)::.ptr 1 []::.pl (.int .i64)::dd 53 [])),[.row a0Z,.box a0Z (.pl a0Z)]⟩)]) ⟨f3B,trivial⟩ (by intro x; kernel_rfl)
def a9W:Con:=⟨⟨[.bp a0U],[]⟩,⟨[.whole 0],[.row a1A]⟩,a4V K0⟩
theorem h2D:a1Q tp 26 a9W:=a3Z (n:=26) (k:=140) (hs:=[]) (A:=b0Y [([1000000,26],9,.join ⟨(.bp a0U::dd 2 (.whole 0::.pl (.int .i64)::.pl (.int .i64)::dd 50 [])),[.row a1A]⟩),([26],0,.tmpl ⟨(.bp a0U::dd 2 (.whole 0::.pl (.int .i64)::dd 51 [])),[.row a1A]⟩),([26],2,.tmpl ⟨(.bp a0U::dd 2 (.whole 0::.pl (.int .i64)::.pl (.int .i64)::dd 50 [])),[.row a1A]⟩)]) trivial (by intro x; kernel_rfl)
def a8C:Con:=⟨⟨[.ptr 0 []],a0H⟩,⟨[.pair (.pl (.int .u64)) (.pair (.pl a0S) (.pair (.pl a1T) (.pair (.pl (.int .u64)) (.pair (.pair (.pl a1U) (.pair (.pl (.int .u64)) (.pair (.pl (.int .u64)) (.pair (.pl (.int .u64)) (.pair (.pl a1Z) (.pair (.whole 8) (.pl .nil))))))) (.pair (.whole 9) (.pair (.pl (.arr 4 a1U)) (.pair (.whole 10) (.pair (.whole 11) (.pair (.pl a1U) (.pair (.whole 12) (.pl .nil)))))))))))],[.box a1N (.pair (.pl (.int .u64)) (.pair (.pl a0S) (.pair (.pl a1T) (.pair (.pl (.int .u64)) (.pair (.pl a1C) (.pair (.ptr 1 []) (.pair (.whole 3) (.pair (.ptr 2 []) (.pl .nil))))))))),.box a0O (.pair (.whole 4) (.pl (.cons (.arr 4 a1U) .nil))),.box a0U (.pair (.pl a1U) (.pair (.whole 5) (.pair (.whole 6) (.pair (.whole 7) (.pl .nil))))),.row a0Q,.row a0Z,.row (.arr 32 (.int .u8)),.row (.int .u64),.row a1A,.row a1B,.row a0Z,.row a0Q,.row .bool,.row a1A]⟩,a2Q K0⟩
theorem h0F:a1Q tp 13 a8C:=a3Z (n:=13) (k:=140) (hs:=[(25,.con b1B),(26,.con a9W),(27,.con a7T)]) (A:=b0Y [([13],0,.tmpl ⟨(.ptr 0 []::dd 1 (.ptr 8 []::.ptr 14 []::.pl (.int .i64)::dd 82 (.ptr 0 []::.ptr 1 []::.ptr 4 []::[]))),[.box a1N ((.pair (.pl (.int .u64)) ((.pair (.pl a0S) ((.pair (.pl a1T) ((.pair (.pl (.int .u64)) ((.pair (.pl a1C) ((.pair (.ptr 1 []) ((.pair (.whole 3) ((.pair (.ptr 4 []) (.pl .nil))))))))))))))))),.box a0O ((.pair (.whole 2) (.pl (.cons (.arr 4 a1U) .nil)))),.row a0Z,.row a0Q,.box a0U ((.pair (.pl a1U) ((.pair (.whole 5) ((.pair (.whole 6) ((.pair (.whole 7) (.pl .nil))))))))),.row (.arr 32 (.int .u8)),.row (.int .u64),.row a1A,.box a1X ((.pair (.pl (.int .u64)) ((.pair (.pl a0S) ((.pair (.pl a1T) ((.pair (.pl (.int .u64)) ((.pair ((.pair (.pl a1U) ((.pair (.pl (.int .u64)) ((.pair (.pl (.int .u64)) ((.pair (.pl (.int .u64)) ((.pair (.pl a1Z) ((.pair (.whole 9) (.pl .nil))))))))))))) ((.pair (.whole 10) ((.pair (.pl (.arr 4 a1U)) ((.pair (.whole 11) ((.pair (.whole 12) ((.pair (.pl a1U) ((.pair (.whole 13) (.pl .nil))))))))))))))))))))))),.row a1B,.row a0Z,.row a0Q,.row .bool,.row a1A,.box a1X ((.pair (.pl (.int .u64)) ((.pair (.pl a0S) ((.pair (.pl a1T) ((.pair (.pl (.int .u64)) ((.pair ((.pair (.pl a1U) ((.pair (.pl (.int .u64)) ((.pair (.pl (.int .u64)) ((.pair (.pl (.int .u64)) ((.pair (.pl a1Z) ((.pair (.whole 15) (.pl .nil))))))))))))) ((.pair (.whole 16) ((.pair (.pl (.arr 4 a1U)) ((.pair (.whole 17) ((.pair (.whole 18) ((.pair (.pl a1U) ((.pair (.whole 19) (.pl .nil))))))))))))))))))))))),.row a1B,.row a0Z,.row a0Q,.row .bool,.row a1A]⟩)]) ⟨h2C,h2D,g9Y,trivial⟩ (by intro x; kernel_rfl)
def a9Y:Con:=⟨⟨[.pl (.arr 5 (.int .u64)),.pl a1U],[]⟩,⟨[.pl (.arr 5 (.int .u64))],[]⟩,a7A K0⟩
theorem g3I:a1Q tp 29 a9Y:=a3Z (n:=29) (k:=60) (hs:=[(57,.con e4N)]) (A:=b0Y [([29],0,.tmpl ⟨(dd 2 (.ptr 0 []::.ptr 1 []::.ptr 2 []::.pl (.int .u64)::dd 1 (.pl (.int .i64)::dd 22 []))),[.box (.arr 5 (.int .u64)) (.pl (.arr 5 (.int .u64))),.box a1U (.pl a1U),.box (.arr 5 (.int .u64)) (.pl (.arr 5 (.int .u64)))]⟩)]) ⟨g9W,trivial⟩ (by intro x; kernel_rfl)
def c4O:Con:=⟨⟨[.pl (.sl a1U)],[]⟩,⟨[.pl (.arr 5 (.int .u64))],[]⟩,a9O K0⟩
theorem g7Q:a1Q tp 30 c4O:=a3Z (n:=30) (k:=60) (hs:=[(29,.con a9Y)]) (A:=b0Y [([30],0,.tmpl ⟨(dd 2 (.ptr 0 []::.ptr 1 []::dd 2 (.pl (.sl a1U)::.pl (.int .i64)::.pl (.int .i64)::dd 8 []))),[.box (.arr 5 (.int .u64)) (.pl (.arr 5 (.int .u64))),.box (.arr 5 (.int .u64)) (.pl (.arr 5 (.int .u64)))]⟩)]) ⟨g3I,trivial⟩ (by intro x; kernel_rfl)
def c7I:Con:=⟨⟨[.pl a1X],[]⟩,⟨[.pl (.arr 5 (.int .u64))],[]⟩,c0G K0⟩
theorem h1K:a1Q tp 28 c7I:=a3Z (n:=28) (k:=60) (hs:=[(29,.con a9Y),(30,.con c4O)]) (A:=b0Y [([28],0,.tmpl ⟨(dd 2 (.ptr 0 []::.ptr 1 []::dd 6 (.pl (.sl a0Z)::.pl (.int .i64)::.pl (.int .i64)::dd 9 []))),[.box (.arr 5 (.int .u64)) (.pl (.arr 5 (.int .u64))),.box (.arr 5 (.int .u64)) (.pl (.arr 5 (.int .u64)))]⟩)]) ⟨g3I,g7Q,trivial⟩ (by intro x; kernel_rfl)
def b7Q:Con:=⟨⟨[.pl a1X],[]⟩,⟨[.pl (.arr 5 (.int .u64))],[]⟩,b4K K0⟩
theorem h1Z:a1Q tp 31 b7Q:=a3Z (n:=31) (k:=60) (hs:=[(29,.con a9Y)]) (A:=b0Y [([31],0,.tmpl ⟨(dd 2 (.ptr 0 []::.ptr 1 []::dd 3 (.pl (.sl a0Q)::.pl (.int .i64)::.pl (.int .i64)::dd 9 []))),[.box (.arr 5 (.int .u64)) (.pl (.arr 5 (.int .u64))),.box (.arr 5 (.int .u64)) (.pl (.arr 5 (.int .u64)))]⟩)]) ⟨g3I,trivial⟩ (by intro x; kernel_rfl)
def b8B:Con:=⟨⟨[.pl (.sl a1B)],[]⟩,⟨[.pl .bool],[]⟩,b0S K0⟩
theorem ok32:a1Q tp 32 b8B:=a3Z (n:=32) (k:=60) (hs:=[(30,.con c4O)]) (A:=b0Y [([32],0,.tmpl ⟨(dd 5 (.pl (.sl a1B)::.pl (.int .i64)::.pl (.int .i64)::dd 17 [])),[]⟩)]) ⟨g7Q,trivial⟩ (by intro x; kernel_rfl)
def c3D:Con:=⟨⟨[.pl (.sl a1B)],[]⟩,⟨[.pl (.arr 5 (.int .u64))],[]⟩,b9D K0⟩
theorem h0X:a1Q tp 33 c3D:=a3Z (n:=33) (k:=60) (hs:=[(29,.con a9Y)]) (A:=b0Y [([33],0,.tmpl ⟨(dd 2 (.ptr 0 []::.ptr 1 []::dd 2 (.pl (.sl a1B)::.pl (.int .i64)::.pl (.int .i64)::dd 9 []))),[.box (.arr 5 (.int .u64)) (.pl (.arr 5 (.int .u64))),.box (.arr 5 (.int .u64)) (.pl (.arr 5 (.int .u64)))]⟩)]) ⟨g3I,trivial⟩ (by intro x; kernel_rfl)
def c4G:Con:=⟨⟨[.pl a1X,.pl a1E],[]⟩,⟨[.pl (.int .i64)],[]⟩,b2L K0⟩
theorem h0I:a1Q tp 14 c4G:=a3Z (n:=14) (k:=60) (hs:=[(28,.con c7I),(29,.con a9Y),(30,.con c4O),(31,.con b7Q),(32,.con b8B),(33,.con c3D)]) (A:=b0Y [([1000000,14],6,.join ⟨(dd 2 (.ptr 0 []::.ptr 1 []::dd 15 (.pl .bool::dd 68 []))),[.box a1X (.pl a1X),.box a1E (.pl a1E)]⟩)]) ⟨h1K,g3I,g7Q,h1Z,ok32,h0X,trivial⟩ (by intro x; kernel_rfl)
def b9C:Con:=⟨⟨[],[]⟩,⟨[.pl .bool],[]⟩,b2B K0⟩
theorem ok8:a1Q tp 8 b9C:=a3Z (n:=8) (k:=160) (hs:=[(9,.con b2P),(11,.con c8X),(13,.con a8C),(14,.con c4G),(18,.con b5X)]) (A:=fun _ _=>none) ⟨ok9,h1G,h0F,h0I,g9X,trivial⟩ (by intro x; kernel_rfl)
def b9R:Con:=⟨⟨[.pl (.sl a1K),.pl (.sl a1R)],[]⟩,⟨[.pl a1E,.pl (.int .i64)],[]⟩,b1L K0⟩
theorem h1L:a1Q tp 12 b9R:=a3Z (n:=12) (k:=160) (hs:=[(23,.inl),(24,.con a1O),(34,.con a1S),(35,.con a0R),(55,.inl),(60,.con a4P)]) (A:=b0Y [([12],0,.tmpl ⟨(.pl (.sl a1K)::.pl (.sl a1R)::dd 2 (.ptr 0 []::dd 1 (.ptr 1 []::.pl (.int .i64)::dd 111 []))),[.box a1E (.pl a1E),.box a4I (.pl a4I)]⟩),([12],2,.tmpl ⟨(.pl (.sl a1K)::.pl (.sl a1R)::dd 2 (.ptr 0 []::dd 1 (.ptr 1 []::dd 1 (.pl (.int .i64)::dd 110 [])))),[.box a1E (.pl a1E),.box a4I (.pl a4I)]⟩),([23,13,9,12],0,.tmpl ⟨(.ptr 0 []::dd 3 (.ptr 1 []::.ptr 2 []::.pl (.int .i64)::dd 58 (.pl (.sl a1K)::.pl (.sl a1R)::dd 2 (.ptr 3 []::dd 1 (.ptr 0 []::dd 1 (.pl (.int .i64)::dd 110 [])))))),[.box a4I (.pl a4I),.box a1K (.pl a1K),.box a1R (.pl a1R),.box a1E (.pl a1E)]⟩)]) ⟨e0Q,d2M,c7D,f8I,trivial⟩ (by intro x; kernel_rfl)
def b9G:Con:=⟨⟨[.pl (.sl (.int .i64)),.pl (.sl (.int .i64)),.pl a1U],[]⟩,⟨[.pl .bool],[]⟩,a4U K0⟩
theorem h1F:a1Q tp 37 b9G:=a3Z (n:=37) (k:=60) (hs:=[(34,.con a1S),(35,.con a0R),(36,.con a3N)]) (A:=fun _ _=>none) ⟨d2M,c7D,e8X,trivial⟩ (by intro x; kernel_rfl)
def c1S:Con:=⟨⟨[.pl a1X],[]⟩,⟨[.pl (.sl (.int .i64))],[]⟩,b4E K0⟩
theorem h2B:a1Q tp 38 c1S:=a3Z (n:=38) (k:=60) (hs:=[(34,.con a1S),(35,.con a0R)]) (A:=b0Y [([38],0,.tmpl ⟨(dd 1 (.ptr 0 []::dd 1 (.pl (.sl (.int .i64))::.pl (.int .i64)::dd 29 []))),[.box a1X (.pl a1X)]⟩),([38],2,.tmpl ⟨(dd 1 (.ptr 0 []::dd 1 (.pl (.sl (.int .i64))::dd 1 (.pl (.int .i64)::dd 28 [])))),[.box a1X (.pl a1X)]⟩)]) ⟨d2M,c7D,trivial⟩ (by intro x; kernel_rfl)
def b9K:Con:=⟨⟨[.pl a1X,.pl a1E],[]⟩,⟨[.pl (.int .i64)],[]⟩,a9K K0⟩
theorem h1W:a1Q tp 15 b9K:=a3Z (n:=15) (k:=60) (hs:=[(34,.con a1S),(35,.con a0R),(36,.con a3N),(37,.con b9G),(38,.con c1S)]) (A:=b0Y [([1000000,15],17,.join ⟨(dd 2 (.ptr 0 []::.ptr 1 []::dd 1 (.pl (.sl (.int .i64))::.pl (.sl (.int .i64))::dd 1 (.pl .bool::dd 66 (.pl .bool::dd 61 []))))),[.box a1X (.pl a1X),.box a1E (.pl a1E)]⟩),([15],0,.tmpl ⟨(dd 2 (.ptr 0 []::.ptr 1 []::dd 1 (.pl (.sl (.int .i64))::.whole 2::.pl (.int .i64)::dd 129 []))),[.box a1X (.pl a1X),.box a1E (.pl a1E),.row (.int .i64)]⟩),([15],2,.tmpl ⟨(dd 2 (.ptr 0 []::.ptr 1 []::dd 1 (.pl (.sl (.int .i64))::.pl (.sl (.int .i64))::dd 1 (.pl .bool::.pl (.int .i64)::dd 127 [])))),[.box a1X (.pl a1X),.box a1E (.pl a1E)]⟩)]) ⟨d2M,c7D,e8X,h1F,h2B,trivial⟩ (by intro x; kernel_rfl)
def c1K:Con:=⟨⟨[.pl a1X,.pl a1E,.pl (.sl (.int .i64)),.pl a1U,.pl (.int .i64)],[]⟩,⟨[.pl .bool],[]⟩,a7V K0⟩
theorem ok4:a1Q tp 4 c1K:=a3Z (n:=4) (k:=160) (hs:=[(8,.con b9C),(9,.con b2P),(10,.con b4A),(12,.con b9R),(13,.con a8C),(14,.con c4G),(15,.con b9K)]) (A:=b0Y [([1000000,4],3,.join ⟨(dd 2 (.pl (.sl (.int .i64))::dd 1 (.pl (.int .i64)::.ptr 0 []::.ptr 1 []::dd 1 (.ptr 2 []::dd 30 (.pl .bool::dd 136 []))))),[.box a1X (.pl a1X),.box a1E (.pl a1E),.box a1U (.pl a1U)]⟩),([1000000,4],33,.join ⟨(dd 5 (.ptr 0 []::.ptr 1 []::dd 7 (.ptr 2 []::.ptr 8 []::dd 160 []))),[.box a1X (.pl a1X),.box a1E (.pl a1E),.box a1X ((.pair (.pl (.int .u64)) ((.pair (.pl a0S) ((.pair (.pl a1T) ((.pair (.pl (.int .u64)) ((.pair ((.pair (.pl a1U) ((.pair (.pl (.int .u64)) ((.pair (.pl (.int .u64)) ((.pair (.pl (.int .u64)) ((.pair (.pl a1Z) ((.pair (.whole 3) (.pl .nil))))))))))))) ((.pair (.whole 4) ((.pair (.pl (.arr 4 a1U)) ((.pair (.whole 5) ((.pair (.whole 6) ((.pair (.pl a1U) ((.pair (.whole 7) (.pl .nil))))))))))))))))))))))),.row a1B,.row a0Z,.row a0Q,.row .bool,.row a1A,.box a1E (.pl a1E)]⟩),([1000000,4],4,.join ⟨(dd 2 (.pl (.sl (.int .i64))::dd 1 (.pl (.int .i64)::.ptr 0 []::.ptr 1 []::dd 1 (.ptr 2 []::dd 167 [])))),[.box a1X (.pl a1X),.box a1E (.pl a1E),.box a1U (.pl a1U)]⟩)]) ⟨ok8,ok9,g7U,h1L,h0F,h0I,h1W,trivial⟩ (by intro x; kernel_rfl)
end
end Sym

/- Rules for what a printed function computes. -/
namespace Sym
open Go
def Wp {R:Type} (T:R→Prop) (r:R):Prop:=T r
theorem Wp.brn {R:Type} {T:R→Prop} {c:Bool} {t f:R} (h1:c = true→Wp T t) (h2:c = false→Wp T f):Wp T (brn c t f):=by
 cases c
 ·
  exact h2 rfl
 ·
  exact h1 rfl
theorem Wp.brnT {R:Type} {T:R→Prop} {c:Bool} {t f:R} (hc:c = true) (h:Wp T t):Wp T (Sym.brn c t f):=by subst hc; exact h
theorem Wp.brnF {R:Type} {T:R→Prop} {c:Bool} {t f:R} (hc:c = false) (h:Wp T f):Wp T (Sym.brn c t f):=by subst hc; exact h
theorem Wp.optF {R Y:Type} {T:R→Prop} {fail:R} {o:Option Y} {k:Y→R} {y:Y} (ho:o = some y) (h:Wp T (k y)):Wp T (optF fail o k):=by subst ho; exact h
theorem Wp.call {R Y:Type} {T:R→Prop} {fail:R} {o:Option Y} {k:Y→R} {P:Y→Prop} (ho:∃ y,o = some y∧P y) (h:∀ y,P y→Wp T (k y)):Wp T (Sym.optF fail o k):=by
 obtain ⟨y,rfl,hp⟩:=ho
 exact h y hp
theorem Wp.jn {X R:Type} {T:R→Prop} {J:X→R} {f:(X→R)→R} (P:X→Prop) (h1:∀ x,P x→Wp T (J x)) (h2:∀ j:X→R,(∀ x,P x→Wp T (j x))→Wp T (f j)):Wp T (jn J f):=h2 J h1
def Rnd {X R:Type} (T:R→Prop) (Inv:X→Prop) (μ:X→Nat) (m:Nat) (s:Stp X R):Prop :=
 match s with
 | .again y=>Inv y∧μ y < m
 | .done r=>Wp T r
theorem Wp.again {X R:Type} {T:R→Prop} {Inv:X→Prop} {μ:X→Nat} {m:Nat} {y:X} (h1:Inv y) (h2:μ y < m):Wp (Rnd T Inv μ m) (.again y:Stp X R):=⟨h1,h2⟩
theorem Wp.done {X R:Type} {T:R→Prop} {Inv:X→Prop} {μ:X→Nat} {m:Nat} {r:R} (h:Wp T r):Wp (Rnd T Inv μ m) (.done r:Stp X R):=h
theorem Wp.iter {X R:Type} {T:R→Prop} {fail:R} {f:X→Stp X R} {x:X} (Inv:X→Prop) (μ:X→Nat) {k:Nat} (h:∀ x,Inv x→Wp (Rnd T Inv μ (μ x)) (f x)) (hi:Inv x) (hm:μ x < k):Wp T (iter fail f k x):=by
 induction k generalizing x with
 | zero=>omega
 | succ k ih =>
  have h1:=h x hi
  unfold Sym.iter
  cases hf:f x with
  | again y =>
   rw [hf] at h1
   exact ih h1.1 (Nat.lt_of_lt_of_le h1.2 (by omega))
  | done r =>
   rw [hf] at h1
   exact h1
def Nxt {X R:Type} (T:R→Prop) (fail:R) (f:X→Stp X R) (k:Nat) (s:Stp X R):Prop :=
 match s with
 | .again y=>Wp T (Sym.iter fail f k y)
 | .done r=>Wp T r
theorem Wp.unroll {X R:Type} {T:R→Prop} {fail:R} {f:X→Stp X R} {x:X} {k:Nat} (h:Wp (Nxt T fail f k) (f x)):Wp T (Sym.iter fail f (k + 1) x):=by
 unfold Sym.iter
 cases hf:f x with
 | again y=>rw [hf] at h; exact h
 | done r=>rw [hf] at h; exact h
theorem Wp.next {X R:Type} {T:R→Prop} {fail:R} {f:X→Stp X R} {y:X} {k:Nat} (h:Wp T (Sym.iter fail f k y)):Wp (Nxt T fail f k) (.again y):=h
theorem Wp.stop {X R:Type} {T:R→Prop} {fail:R} {f:X→Stp X R} {r:R} {k:Nat} (h:Wp T r):Wp (Nxt T fail f k) (.done r):=h
theorem Wp.out {R:Type} {T:R→Prop} {r:R} (h:Wp T r):T r:=h
theorem I.of_val {k:IntKind} {n:Int} (h:k.min ≤ n∧n ≤ k.max):(I.of k n).val = n:=a7N h
theorem b9A {n:Int} (h:0 ≤ n∧n < 18446744073709551616):(I.of .u64 n).val = n:=I.of_val ⟨by simp [IntKind.min,IntKind.signed]; omega,by simp [IntKind.max,IntKind.bits,IntKind.signed]; omega⟩
theorem b7K {n:Int} (h:-9223372036854775808 ≤ n∧n < 9223372036854775808):(I.of .i64 n).val = n:=I.of_val ⟨by simp [IntKind.min,IntKind.bits,IntKind.signed]; omega,by simp [IntKind.max,IntKind.bits,IntKind.signed]; omega⟩
theorem a6O (x:I .u64):0 ≤ x.val∧x.val < 18446744073709551616:=c7L x
theorem b5D (x:I .i64):-9223372036854775808 ≤ x.val∧x.val < 9223372036854775808:=by
 have h:=x.ok
 have h1:(2 ^ IntKind.i64.bits:Int) = 18446744073709551616:=by decide
 have h2:(2 ^ (IntKind.i64.bits - 1):Int) = 9223372036854775808:=by decide
 have h3:IntKind.i64.signed = true:=rfl
 simp only [IntKind.wrap,h1,h2,h3,Bool.true_and,decide_eq_true_eq] at h
 split at h <;> omega
theorem iff_ltb {k:IntKind} {a b:I k}:I.ltb a b = true ↔ a.val < b.val:=by simp [I.ltb]
theorem iff_leb {k:IntKind} {a b:I k}:I.leb a b = true ↔ a.val ≤ b.val:=by simp [I.leb]
theorem iff_eqb {k:IntKind} {a b:I k}:I.eqb a b = true ↔ a.val = b.val:=by simp [I.eqb]
theorem iff_neb {k:IntKind} {a b:I k}:I.neb a b = true ↔ a.val ≠ b.val:=by simp [I.neb]
theorem niff_ltb {k:IntKind} {a b:I k}:I.ltb a b = false ↔ b.val ≤ a.val:=by simp [I.ltb]
theorem niff_leb {k:IntKind} {a b:I k}:I.leb a b = false ↔ b.val < a.val:=by simp [I.leb]
theorem niff_eqb {k:IntKind} {a b:I k}:I.eqb a b = false ↔ a.val ≠ b.val:=by simp [I.eqb]
theorem niff_neb {k:IntKind} {a b:I k}:I.neb a b = false ↔ a.val = b.val:=by simp [I.neb]
theorem iff_nz {k:IntKind} {a:I k}:I.nz a = true ↔ a.val ≠ 0:=by simp [I.nz]
theorem iff_nn {k:IntKind} {a:I k}:I.nn a = true ↔ 0 ≤ a.val:=by simp [I.nn]
theorem iff_inB {k:IntKind} {a:I k} {n:Nat}:inB a n = true ↔ 0 ≤ a.val∧a.val < n:=by simp [inB]
theorem iff_fits {n:Nat}:a1I n = true ↔ n ≤ 1073741824:=by simp [a1I]
theorem a3F {n:Nat} (h:n < 9223372036854775808):(I.ofNat .i64 n).val = n:=b7K ⟨by omega,by omega⟩
theorem a5Q {a b:I .i64} (h:-9223372036854775808 ≤ a.val + b.val∧a.val + b.val < 9223372036854775808):(I.add a b).val = a.val + b.val:=b7K h
theorem a9Z {a b:I .i64} (h:-9223372036854775808 ≤ a.val - b.val∧a.val - b.val < 9223372036854775808):(I.sub a b).val = a.val - b.val:=b7K h
theorem c3Q {a b:I .i64} (h:-9223372036854775808 ≤ a.val * b.val∧a.val * b.val < 9223372036854775808):(I.mul a b).val = a.val * b.val:=b7K h
theorem b6F {a b:I .i64} (h:0 ≤ a.val) (h2:0 < b.val):(I.rem a b).val = a.val % b.val:=by
 have ha:=b5D a
 have hb:=b5D b
 have e:a.val.tmod b.val = a.val % b.val:=Int.tmod_eq_emod_of_nonneg h
 have h3:=Int.emod_nonneg a.val (b:=b.val) (by omega)
 have h4:=Int.emod_lt_of_pos a.val h2
 unfold I.rem
 rw [e]
 exact b7K ⟨by omega,by omega⟩
theorem b7H {a b:I .i64} (h:0 ≤ a.val) (h2:0 < b.val):(I.quo a b).val = a.val / b.val:=by
 have ha:=b5D a
 have e:a.val.tdiv b.val = a.val / b.val:=Int.tdiv_eq_ediv_of_nonneg h
 have h3:0 ≤ a.val / b.val:=Int.ediv_nonneg h (by omega)
 have h4:a.val / b.val ≤ a.val:=Int.ediv_le_self _ h
 unfold I.quo
 rw [e]
 exact b7K ⟨by omega,by omega⟩
theorem e0Y {a b:I .u64} (h:a.val + b.val < 18446744073709551616):(I.add a b).val = a.val + b.val:=b9A ⟨by have:=a6O a; have:=a6O b; omega,h⟩
theorem e8Q {a b:I .u64} (h:b.val ≤ a.val):(I.sub a b).val = a.val - b.val:=b9A ⟨by omega,by have:=a6O a; have:=a6O b; omega⟩
theorem f1W {a b:I .u64} (h2:b.val ≠ 0):(I.rem a b).val = a.val % b.val:=by
 have ha:=a6O a
 have hb:=a6O b
 have e:a.val.tmod b.val = a.val % b.val:=Int.tmod_eq_emod_of_nonneg ha.1
 have h3:=Int.emod_nonneg a.val (b:=b.val) (by omega)
 have h4:=Int.emod_lt_of_pos a.val (b:=b.val) (by omega)
 unfold I.rem
 rw [e]
 exact b9A ⟨by omega,by omega⟩
theorem c3B (a:I .u64):I.nn a = true:=iff_nn.2 (a6O a).1
end Sym

/- Natural numbers as ints; lists as rows. -/
namespace Sym
open Go
def i6 (n:Nat):I .i64:=I.of .i64 (n:Int)
theorem a0V {n:Nat} (h:n < 9223372036854775808):(i6 n).val = n:=b7K ⟨by omega,by omega⟩
theorem a3C {n:Nat} (h:n < 9223372036854775808):I.nat (i6 n) = n:=by unfold I.nat; rw [a0V h]; simp
theorem a3H {n m:Nat} (h:n + m < 9223372036854775808):I.add (i6 n) (i6 m) = i6 (n + m):=by
 apply I.ext'
 rw [a5Q (by rw [a0V (by omega),a0V (by omega)]; omega),a0V (by omega),a0V (by omega),a0V h]
 omega
theorem b9I {n m:Nat} (h:n < 9223372036854775808) (hm:m ≤ n):I.sub (i6 n) (i6 m) = i6 (n - m):=by
 apply I.ext'
 rw [a9Z (by rw [a0V (by omega),a0V (by omega)]; omega),a0V (by omega),a0V (by omega),a0V (by omega)]
 omega
theorem a2M {n m:Nat} (hn:n < 9223372036854775808) (hm:m < 9223372036854775808):I.ltb (i6 n) (i6 m) = decide (n < m):=by
 simp only [I.ltb,a0V hn,a0V hm]
 by_cases h:n < m
 ·
  rw [decide_eq_true h,decide_eq_true (by omega)]
 ·
  rw [decide_eq_false h,decide_eq_false (by omega)]
theorem d9T {n m:Nat} (hn:n < 9223372036854775808) (hm:m < 9223372036854775808):I.leb (i6 n) (i6 m) = decide (n ≤ m):=by
 simp only [I.leb,a0V hn,a0V hm]
 by_cases h:n ≤ m
 ·
  rw [decide_eq_true h,decide_eq_true (by omega)]
 ·
  rw [decide_eq_false h,decide_eq_false (by omega)]
theorem a3D {n m:Nat} (hn:n < m) (hm:n < 9223372036854775808):inB (i6 n) m = true:=iff_inB.2 (by rw [a0V hm]; omega)
theorem i6_inB' {n m:Nat} (hn:n ≤ m) (hm:n < 9223372036854775808):inB' (i6 n) m = true:=by
 simp only [inB',Bool.and_eq_true,decide_eq_true_eq,a0V hm]
 omega
theorem g7Y (n:Nat):I.of .i64 (n:Int) = i6 n:=rfl
theorem a9I (n:Nat):I.ofNat .i64 n = i6 n:=rfl
theorem d8X {n m:Nat} (hn:n < 9223372036854775808) (hm:m < 9223372036854775808):I.eqb (i6 n) (i6 m) = decide (n = m):=by
 simp only [I.eqb,a0V hn,a0V hm]
 by_cases h:n = m
 ·
  rw [decide_eq_true h,decide_eq_true (by omega)]
 ·
  rw [decide_eq_false h,decide_eq_false (by omega)]
theorem a4N {X:Type} (d:X):∀ (l:List X) (i:Nat) (h:i < l.length),rdL d l i = l[i]
 | x :: l,0,_=>rfl
 | x :: l,i + 1,h=>a4N d l i (by simpa using h)
theorem c4H {X:Type} (d:X):∀ (l:List X) (i:Nat),l.length ≤ i→rdL d l i = d
 | [],_,_=>rfl
 | _ :: _,0,h=>by simp at h
 | _ :: l,i + 1,h=>c4H d l i (by simpa using h)
theorem a7X {X:Type}:∀ (l:List X) (i:Nat) (v:X),setAt l i v = l.set i v
 | [],_,_=>rfl
 | _ :: _,0,_=>rfl
 | x :: l,i + 1,v=>by simp [setAt,a7X l i v]
theorem c2X {X:Type} (d:X) (l:List X) (i k:Nat) (v:X):rdL d (setAt l i v) k = if k = i∧i < l.length then v else rdL d l k:=by
 rw [a7X]
 by_cases hk:k < l.length
 ·
  rw [a4N d _ k (by simpa using hk),List.getElem_set]
  by_cases h:k = i
  ·
   subst h; simp [hk]
  ·
   rw [if_neg (by omega),if_neg (by omega),a4N d l k hk]
 ·
  rw [c4H _ _ _ (by simp; omega),c4H _ _ _ (by omega),if_neg (by omega)]
theorem c3T {X:Type} (d:X) (l:List X) (k:Nat) (h:k < l.length):rdL d l k ∈ l:=by rw [a4N d l k h]; exact List.getElem_mem h
theorem c4F {X:Type} (d:X) {l:List X} {x:X} (h:x ∈ l):∃ k,k < l.length∧rdL d l k = x:=by
 obtain ⟨k,hk,e⟩:=List.getElem_of_mem h
 exact ⟨k,hk,by rw [a4N d l k hk,e]⟩
theorem b8U {X:Type} (s:List X) (n:Nat):a3W s 0 n = s.take n:=by simp [a3W]
theorem b3O {X:Type} (s:List X) (n:Nat):a3W s n (s.length - n) = s.drop n:=by
 simp only [a3W]
 exact List.take_of_length_le (by simp)
theorem a6F {X:Type} (l:List X):a0G l = l.length:=rfl
theorem g0M {X:Type} (l m:List X):a2D l m = l ++ m:=rfl
theorem e1I:∀ (t:Ty),t.eqOk = true→∀ x y:t.D,Ty.eqb t x y = true ↔ x = y:=by
 intro t
 induction t with
 | int k=>intro _ x y; simp only [Ty.eqb,decide_eq_true_eq]; exact ⟨fun h=>I.ext' h,fun h=>by rw [h]⟩
 | bool=>intro _ x y; exact (by decide:∀ a b:Bool,(a == b) = true ↔ a = b) x y
 | nil=>intro _ x y; exact ⟨fun _=>rfl,fun _=>rfl⟩
 | cons a b iha ihb =>
  intro h x y
  simp only [Ty.eqOk,Bool.and_eq_true] at h
  simp only [Ty.eqb,Bool.and_eq_true,iha h.1,ihb h.2]
  obtain ⟨x1,x2⟩:=x
  obtain ⟨y1,y2⟩:=y
  exact ⟨fun h=>by rw [show x1 = y1 from h.1,show x2 = y2 from h.2],fun h=>⟨congrArg Prod.fst h,congrArg Prod.snd h⟩⟩
 | arr n t ih =>
  intro h x y
  have key:∀ (n:Nat) (x y:Arr t.D n),Arr.eqb t.eqb n x y = true ↔ x = y:=by
   intro n
   induction n with
   | zero=>intro x y; exact ⟨fun _=>rfl,fun _=>rfl⟩
   | succ n ihn =>
    intro x y
    simp only [Arr.eqb,Bool.and_eq_true,ih h,ihn]
    obtain ⟨x1,x2⟩:=x
    obtain ⟨y1,y2⟩:=y
    exact ⟨fun h=>by rw [show x1 = y1 from h.1,show x2 = y2 from h.2],fun h=>⟨congrArg Prod.fst h,congrArg Prod.snd h⟩⟩
  exact key n x y
 | str=>intro h; cases h
 | sl t _=>intro h; cases h
 | opq=>intro h; cases h
theorem eqb_self' {t:Ty} (h:t.eqOk = true) (x:t.D):Ty.eqb t x x = true:=(e1I t h x x).2 rfl
theorem a8R {n:Nat} (h:n ≤ 1073741824):a1I n = true:=iff_fits.2 h
end Sym

/- Natural numbers by digits of 65536: what the reference's first functions compute. -/
namespace Sym
open Go
abbrev Dg:Type:=I .i64
def bv:List Dg→Nat
 | []=>0
 | d :: l=>d.nat + 65536 * bv l
def DigOk (d:Dg):Prop:=0 ≤ d.val∧d.val < 65536
def b9X (l:List Dg):Prop:=∀ d ∈ l,DigOk d
def f8C:List Dg→Prop
 | []=>True
 | [d]=>d.val ≠ 0
 | _ :: e :: l=>f8C (e :: l)
structure IsB (l:List Dg) (n:Nat):Prop where
 dig:b9X l
 lead:f8C l
 val:bv l = n
theorem DigOk.nat {d:Dg} (h:DigOk d):(d.nat:Int) = d.val∧d.nat < 65536:=by
 unfold DigOk at h
 unfold I.nat
 omega
theorem digs_cons {d:Dg} {l:List Dg}:b9X (d :: l) ↔ DigOk d∧b9X l:=by
 unfold b9X
 simp
theorem digs_app {l r:List Dg}:b9X (l ++ r) ↔ b9X l∧b9X r:=by
 unfold b9X
 simp only [List.mem_append]
 exact ⟨fun h=>⟨fun d hd=>h d (.inl hd),fun d hd=>h d (.inr hd)⟩,fun h d hd=>hd.elim (h.1 d) (h.2 d)⟩
theorem c1Y {l:List Dg} (h:b9X l) (n:Nat):b9X (l.take n):=fun d hd=>h d (List.mem_of_mem_take hd)
theorem e2P:∀ {l:List Dg},b9X l→bv l < 65536 ^ l.length
 | [],_=>by simp [bv]
 | d :: l,h=>by
  have h:=digs_cons.1 h
  have h1:=h.1.nat.2
  have h2:=e2P h.2
  simp only [bv,List.length_cons,Nat.pow_succ]
  omega
theorem c0R:IsB [] 0:=⟨fun _ h=>by simp at h,trivial,rfl⟩
theorem c3J:∀ (l r:List Dg),bv (l ++ r) = bv l + 65536 ^ l.length * bv r
 | [],r=>by simp [bv]
 | d :: l,r=>by
  simp only [List.cons_append,bv,List.length_cons,c3J l r,Nat.pow_succ,Nat.mul_add]
  rw [Nat.mul_comm (65536 ^ l.length) 65536,Nat.mul_assoc]
  omega
theorem c4M:∀ (l:List Dg) (d:Dg),d.val ≠ 0→f8C (l ++ [d])
 | [],d,h=>h
 | [e],d,h=>h
 | e :: f :: l,d,h=>c4M (f :: l) d h
theorem g3C:∀ {l:List Dg},b9X l→f8C l→l ≠ []→65536 ^ (l.length - 1) ≤ bv l
 | [],_,_,h=>absurd rfl h
 | [d],hd,hl,_=>by
  have h:=(digs_cons.1 hd).1.nat.1
  have:d.val ≠ 0:=hl
  simp only [bv,List.length_singleton,Nat.sub_self,Nat.pow_zero]
  omega
 | d :: e :: l,hd,hl,_=>by
  have:=g3C (l:=e :: l) (digs_cons.1 hd).2 hl (by simp)
  simp only [List.length_cons,Nat.add_sub_cancel] at this ⊢
  simp only [bv,Nat.pow_succ] at *
  omega
theorem IsB.len {l:List Dg} {n k:Nat} (h:IsB l n):l.length ≤ k ↔ n < 65536 ^ k:=by
 have h1:=e2P h.dig
 rw [h.val] at h1
 constructor
 ·
  intro hk
  exact Nat.lt_of_lt_of_le h1 (Nat.pow_le_pow_right (by decide) hk)
 ·
  intro hn
  rcases Nat.lt_or_ge k l.length with hk | hk
  ·
   have h2:=g3C h.dig h.lead (by intro e; subst e; simp at hk)
   rw [h.val] at h2
   have h3:65536 ^ k ≤ 65536 ^ (l.length - 1):=Nat.pow_le_pow_right (by decide) (by omega)
   omega
  ·
   exact hk
theorem b8G (n:Nat) (h:n < 2 ^ 64):n < K0:=by rw [a6G]; exact h
theorem d5F (l:List Dg) (hd:b9X l) (hl:l.length ≤ 1073741824):∃ r,a6C K0 ((l,()),()) = some ((r,()),())∧IsB r (bv l):=by
 have key:Wp (fun o=>∃ r,o = some ((r,()),())∧IsB r (bv l)) (a6C K0 ((l,()),())):=by
  have hlen:(I.ofNat .i64 (a0G l)).val = l.length:=a3F (by show l.length < _; omega)
  have c1:(I.of .i64 1).val = 1:=rfl
  have c0:(I.of .i64 0).val = 0:=rfl
  unfold a6C
  refine Wp.iter (fun x=>x.1.1 = l∧0 ≤ x.1.2.1.val∧x.1.2.1.val ≤ (l.length:Int)∧bv (l.take x.1.2.1.val.toNat) = bv l) (fun x=>x.1.2.1.val.toNat) ?_ ?_ ?_
  ·
   rintro ⟨⟨l',i,⟨⟩⟩,⟨⟩⟩ ⟨e1,hi0,hi1,hb⟩
   simp only at e1 hi0 hi1 hb
   subst e1
   have cut:inB' i (a0G l') = true:=by
    show (decide (0 ≤ i.val) && decide (i.val ≤ ((l'.length:Nat):Int))) = true
    simp [hi0,hi1]
   have sub:a3W l' 0 (I.nat i) = l'.take i.val.toNat:=by simp [a3W,I.nat]
   refine Wp.brn (fun h=>?_) (fun h=>?_)
   ·
    have h:=iff_ltb.1 h
    simp only [c0] at h
    have hs:(I.sub i (I.of .i64 1)).val = i.val - 1:=by rw [a9Z (by omega)]; omega
    have hidx:(I.nat (I.sub i (I.of .i64 1))) = i.val.toNat - 1:=by unfold I.nat; omega
    have hlt:i.val.toNat - 1 < l'.length:=by omega
    have hrd:rdL (I.of .i64 0) l' (I.nat (I.sub i (I.of .i64 1))) = l'[i.val.toNat - 1]:=by rw [hidx]; exact a4N _ _ _ hlt
    have htk:l'.take i.val.toNat = l'.take (i.val.toNat - 1) ++ [l'[i.val.toNat - 1]]:=by
     rw [List.take_append_getElem hlt]
     congr 1
     omega
    refine Wp.brnT (iff_inB.2 ⟨by show 0 ≤ (I.sub i (I.of .i64 1)).val; omega,by show (I.sub i (I.of .i64 1)).val < (l'.length:Int); omega⟩) ?_
    refine Wp.brn (fun h2=>?_) (fun h2=>?_)
    ·
     have h2:=iff_eqb.1 h2
     simp only [hrd] at h2
     refine Wp.again ⟨rfl,?_,?_,?_⟩ ?_
     ·
      show 0 ≤ (I.sub i (I.of .i64 1)).val; omega
     ·
      show (I.sub i (I.of .i64 1)).val ≤ _; omega
     ·
      show bv (l'.take (I.sub i (I.of .i64 1)).val.toNat) = _
      have e:(I.sub i (I.of .i64 1)).val.toNat = i.val.toNat - 1:=by omega
      rw [e,← hb,htk,c3J]
      have hz:(l'[i.val.toNat - 1]).nat = 0:=by unfold I.nat; rw [h2]; rfl
      simp [bv,hz]
     ·
      show (I.sub i (I.of .i64 1)).val.toNat < _
      simp only; omega
    ·
     have h2:=niff_eqb.1 h2
     simp only [hrd] at h2
     refine Wp.done (Wp.brnT cut ⟨_,rfl,?_⟩)
     show IsB (a3W l' 0 (I.nat i)) _
     rw [sub]
     refine ⟨c1Y hd _,?_,hb⟩
     rw [htk]
     exact c4M _ _ h2
   ·
    have h:=niff_ltb.1 h
    simp only [c0] at h
    refine Wp.done (Wp.brnT cut ⟨_,rfl,?_⟩)
    show IsB (a3W l' 0 (I.nat i)) _
    rw [sub]
    have e:i.val.toNat = 0:=by omega
    rw [e] at hb ⊢
    simp only [List.take_zero] at hb ⊢
    rw [← hb]
    exact c0R
  ·
   refine ⟨rfl,?_,?_,?_⟩
   ·
    show 0 ≤ (I.ofNat .i64 (a0G l)).val; omega
   ·
    show (I.ofNat .i64 (a0G l)).val ≤ _; omega
   ·
    show bv (l.take (I.ofNat .i64 (a0G l)).val.toNat) = _
    rw [hlen,Int.toNat_natCast,List.take_length]
  ·
   refine b8G _ ?_
   show (I.ofNat .i64 (a0G l)).val.toNat < _
   omega
 exact key.out
end Sym

/- Natural numbers by digits of 65536: from and to 256 bits, comparison. -/
namespace Sym
open Go
theorem e3B (k:IntKind) (hk:k.bits = 64) (x:I k) (h:0 ≤ x.val) (hx:x.val < 18446744073709551616):((BitVec.ofInt k.bits x.val &&& BitVec.ofInt k.bits 65535).toNat:Int) = x.val % 65536:=by
 rw [hk,BitVec.toNat_and]
 have h1:(BitVec.ofInt 64 65535).toNat = 2 ^ 16 - 1:=rfl
 rw [h1,Nat.and_two_pow_sub_one_eq_mod,BitVec.toNat_ofInt]
 omega
theorem g0S (x:I .u64):(I.and x (I.of .u64 65535)).val = x.val % 65536:=by
 have h:=a6O x
 have:=e3B .u64 rfl x h.1 h.2
 have e:(I.of .u64 65535).val = 65535:=rfl
 show (I.of .u64 _).val = _
 rw [e,this]
 exact b9A ⟨by omega,by omega⟩
theorem e1S (x:I .i64) (h:0 ≤ x.val):(I.and x (I.of .i64 65535)).val = x.val % 65536:=by
 have h2:=b5D x
 have:=e3B .i64 rfl x h (by omega)
 have e:(I.of .i64 65535).val = 65535:=rfl
 show (I.of .i64 _).val = _
 rw [e,this]
 exact b7K ⟨by omega,by omega⟩
theorem d5P (a:Int) (n:Nat) (h:0 ≤ a):a.fdiv ((2:Int) ^ n) = a / (2:Int) ^ n:=by
 have h2:(0:Int) ≤ (2:Int) ^ n:=Int.le_of_lt (Int.pow_pos (by decide))
 rw [Int.fdiv_eq_ediv_of_nonneg _ h2]
theorem e8Y (x s:I .u64) (hs:s.val < 64):(I.shr x s).val = x.val / (2:Int) ^ s.val.toNat:=by
 have hx:=a6O x
 have h0:=a6O s
 have hm:min s.val.toNat IntKind.u64.bits = s.val.toNat:=by
  have:IntKind.u64.bits = 64:=rfl
  omega
 unfold I.shr
 rw [hm,d5P _ _ hx.1]
 have h2:(0:Int) < (2:Int) ^ s.val.toNat:=Int.pow_pos (by decide)
 have h3:0 ≤ x.val / (2:Int) ^ s.val.toNat:=Int.ediv_nonneg hx.1 (by omega)
 have h4:x.val / (2:Int) ^ s.val.toNat ≤ x.val:=Int.ediv_le_self _ hx.1
 exact b9A ⟨by omega,by omega⟩
theorem c8J (x:I .i64) (h:0 ≤ x.val):(I.shr x (I.of .u64 16)).val = x.val / 65536:=by
 have hx:=b5D x
 have hm:min (I.of .u64 16).val.toNat IntKind.i64.bits = 16:=rfl
 unfold I.shr
 rw [hm,d5P _ _ h]
 have e:(2:Int) ^ 16 = 65536:=by decide
 rw [e]
 exact b7K ⟨by omega,by omega⟩
def f2X (a:U) (j:Nat):Dg:=I.conv .i64 (I.and (I.shr (Arr.sel (I.of .u64 0) 4 a (j / 4)) (I.of .u64 (16 * (j % 4):Nat))) (I.of .u64 65535))
theorem e5H (a:U) (j:Nat):(f2X a j).val = (Arr.sel (I.of .u64 0) 4 a (j / 4)).val / (2:Int) ^ (16 * (j % 4)) % 65536:=by
 have h1:(I.of .u64 (16 * (j % 4):Nat)).val = (16 * (j % 4):Nat):=b9A ⟨by omega,by omega⟩
 have h2:=e8Y (Arr.sel (I.of .u64 0) 4 a (j / 4)) (I.of .u64 (16 * (j % 4):Nat)) (by omega)
 rw [h1,Int.toNat_natCast] at h2
 unfold f2X
 show (I.of .i64 _).val = _
 rw [g0S,h2]
 exact b7K ⟨by omega,by omega⟩
theorem f0Y (a:U) (j:Nat):DigOk (f2X a j):=by
 unfold DigOk
 rw [e5H]
 omega
theorem limb (x:I .u64) (d0 d1 d2 d3:Nat) (h0:(d0:Int) = x.val / (2:Int) ^ 0 % 65536) (h1:(d1:Int) = x.val / (2:Int) ^ 16 % 65536) (h2:(d2:Int) = x.val / (2:Int) ^ 32 % 65536) (h3:(d3:Int) = x.val / (2:Int) ^ 48 % 65536) :
  x.nat = d0 + 65536 * d1 + 4294967296 * d2 + 281474976710656 * d3:=by
 have p0:(2:Int) ^ 0 = 1:=by decide
 have p1:(2:Int) ^ 16 = 65536:=by decide
 have p2:(2:Int) ^ 32 = 4294967296:=by decide
 have p3:(2:Int) ^ 48 = 281474976710656:=by decide
 rw [p0] at h0
 rw [p1] at h1
 rw [p2] at h2
 rw [p3] at h3
 have hx:=a6O x
 have hn:=a2F x
 omega
theorem h2V (a0 a1 a2 a3 d0 d1 d2 d3 d4 d5 d6 d7 d8 d9 d10 d11 d12 d13 d14 d15:Nat) (v0:a0 = d0 + 65536 * d1 + 4294967296 * d2 + 281474976710656 * d3) (v1:a1 = d4 + 65536 * d5 + 4294967296 * d6 + 281474976710656 * d7)
  (v2:a2 = d8 + 65536 * d9 + 4294967296 * d10 + 281474976710656 * d11) (v3:a3 = d12 + 65536 * d13 + 4294967296 * d14 + 281474976710656 * d15) :
  d0 + 65536 * (d1 + 65536 * (d2 + 65536 * (d3 + 65536 * (d4 + 65536 * (d5 + 65536 * (d6 + 65536 * (d7 + 65536 * (d8 + 65536 * (d9 + 65536 * (d10 + 65536 * (d11 + 65536 * (d12 + 65536 * (d13 + 65536 * (d14 + 65536 * (d15 + 65536 * 0))))))))))))))) =
   a0 + 18446744073709551616 * (a1 + 18446744073709551616 * (a2 + 18446744073709551616 * a3)):=by
 subst v0 v1 v2 v3
 omega
theorem f2C (a:U):bv ((List.range 16).map (f2X a)) = a.val:=by
 obtain ⟨a0,a1,a2,a3,⟨⟩⟩:=a
 have n:∀ j,((f2X (a0,a1,a2,a3,()) j).nat:Int) = (Arr.sel (I.of .u64 0) 4 (a0,a1,a2,a3,()) (j / 4)).val / (2:Int) ^ (16 * (j % 4)) % 65536:=fun j=>(f0Y _ j).nat.1.trans (e5H _ j)
 exact h2V _ _ _ _ _ _ _ _ _ _ _ _ _ _ _ _ _ _ _ _ (limb a0 _ _ _ _ (n 0) (n 1) (n 2) (n 3)) (limb a1 _ _ _ _ (n 4) (n 5) (n 6) (n 7)) (limb a2 _ _ _ _ (n 8) (n 9) (n 10) (n 11)) (limb a3 _ _ _ _ (n 12) (n 13) (n 14) (n 15))
theorem a0X (a:U):∃ r,a0B K0 ((a,()),()) = some ((r,()),())∧IsB r a.val:=by
 have key:Wp (fun o=>∃ r,o = some ((r,()),())∧IsB r a.val) (a0B K0 ((a,()),())):=by
  have c16:(I.of .i64 16).val = 16:=rfl
  have c4:(I.of .i64 4).val = 4:=rfl
  have c1:(I.of .i64 1).val = 1:=rfl
  unfold a0B
  refine Wp.iter (fun x=>0 ≤ x.1.1.val∧x.1.1.val ≤ 16∧x.2.1 = a∧x.2.2.1 = (List.range x.1.1.val.toNat).map (f2X a) ++ List.replicate (16 - x.1.1.val.toNat) (I.of .i64 0)) (fun x=>(16 - x.1.1.val).toNat) ?_ ?_ ?_
  ·
   rintro ⟨⟨i,⟨⟩⟩,a',out,⟨⟩⟩ ⟨hi0,hi1,e1,e2⟩
   simp only at hi0 hi1 e1 e2
   subst e1
   refine Wp.brn (fun h=>?_) (fun h=>?_)
   ·
    have h:=iff_ltb.1 h
    simp only [c16] at h
    have hq:(I.quo i (I.of .i64 4)).val = i.val / 4:=b7H hi0 (by decide)
    have hr:(I.rem i (I.of .i64 4)).val = i.val % 4:=b6F hi0 (by decide)
    have hlen:out.length = 16:=by rw [e2]; simp; omega
    have hs:(I.add i (I.of .i64 1)).val = i.val + 1:=by rw [a5Q (by omega)]; omega
    have hm:(I.mul (I.of .i64 16) (I.rem i (I.of .i64 4))).val = 16 * (i.val % 4):=by rw [c3Q (by rw [c16,hr]; omega),hr,c16]
    refine Wp.brnT (iff_inB.2 ⟨by show 0 ≤ (I.quo i (I.of .i64 4)).val; omega,by show (I.quo i (I.of .i64 4)).val < ((4:Nat):Int); omega⟩) ?_
    refine Wp.brnT (c3B _) ?_
    refine Wp.brnT (iff_inB.2 ⟨hi0,by show i.val < ((out.length:Nat):Int); omega⟩) ?_
    refine Wp.again ⟨?_,?_,rfl,?_⟩ ?_
    ·
     show 0 ≤ (I.add i (I.of .i64 1)).val; omega
    ·
     show (I.add i (I.of .i64 1)).val ≤ 16; omega
    ·
     have ed:I.conv .i64 (I.and (I.shr (Arr.sel (I.of .u64 0) 4 a' (I.nat (I.quo i (I.of .i64 4)))) (I.conv .u64 (I.mul (I.of .i64 16) (I.rem i (I.of .i64 4))))) (I.of .u64 65535)) = f2X a' i.val.toNat:=by
      unfold f2X
      have e1:I.nat (I.quo i (I.of .i64 4)) = i.val.toNat / 4:=by unfold I.nat; omega
      have e2:I.conv .u64 (I.mul (I.of .i64 16) (I.rem i (I.of .i64 4))) = I.of .u64 (16 * (i.val.toNat % 4):Nat):=by
       show I.of .u64 _ = _
       rw [hm]
       congr 1
       omega
      rw [e1,e2]
     show setAt out (I.nat i) _ = (List.range (I.add i (I.of .i64 1)).val.toNat).map (f2X a') ++ List.replicate (16 - (I.add i (I.of .i64 1)).val.toNat) (I.of .i64 0)
     have e3:(I.add i (I.of .i64 1)).val.toNat = i.val.toNat + 1:=by omega
     have e4:I.nat i = ((List.range i.val.toNat).map (f2X a')).length:=by simp [I.nat]
     have e5:16 - i.val.toNat = (16 - (i.val.toNat + 1)) + 1:=by omega
     rw [a7X,e2,e3,e4,List.set_append_right _ _ (Nat.le_refl _),Nat.sub_self,e5,List.replicate_succ,List.set_cons_zero,List.range_succ,List.map_append,List.map_cons,List.map_nil,List.append_assoc]
     show _ ++ _ = _ ++ ([_] ++ _)
     rw [← ed]
     rfl
    ·
     show (16 - (I.add i (I.of .i64 1)).val).toNat < _
     simp only; omega
   ·
    have h:=niff_ltb.1 h
    simp only [c16] at h
    have hi:i.val.toNat = 16:=by omega
    rw [hi] at e2
    simp only [Nat.sub_self,List.replicate_zero,List.append_nil] at e2
    subst e2
    have hd:b9X ((List.range 16).map (f2X a')):=by
     intro d hd
     rw [List.mem_map] at hd
     obtain ⟨j,_,rfl⟩:=hd
     exact f0Y a' j
    obtain ⟨r,hr,hB⟩:=d5F _ hd (by simp)
    exact Wp.done (Wp.optF hr ⟨r,rfl,hB.dig,hB.lead,hB.val.trans (f2C a')⟩)
  ·
   exact ⟨by show 0 ≤ (I.of .i64 0).val; decide,by show (I.of .i64 0).val ≤ 16; decide,rfl,rfl⟩
  ·
   exact b8G _ (by show (16 - (I.of .i64 0).val).toNat < _; decide)
 exact key.out
end Sym

/- Natural numbers by digits of 65536: to 256 bits, comparison. -/
namespace Sym
open Go
theorem f9E (x s:I .u64) (hs:s.val < 64) (h:x.val * (2:Int) ^ s.val.toNat < 18446744073709551616):(I.shl x s).val = x.val * (2:Int) ^ s.val.toNat:=by
 have hx:=a6O x
 have h0:=a6O s
 have hm:min s.val.toNat IntKind.u64.bits = s.val.toNat:=by
  have:IntKind.u64.bits = 64:=rfl
  omega
 have h2:(0:Int) ≤ (2:Int) ^ s.val.toNat:=Int.le_of_lt (Int.pow_pos (by decide))
 unfold I.shl
 rw [hm]
 exact b9A ⟨Int.mul_nonneg hx.1 h2,h⟩
theorem b3M (x:I .u64) (d r S:Nat) (hd:d < 65536) (hr:r < 4) (hS:(S:Int) = (2:Int) ^ (16 * r)) (hx:x.nat < S) (hl:S ≤ 281474976710656):(I.add x (I.shl (I.of .u64 d) (I.of .u64 (16 * r:Nat)))).nat = x.nat + S * d:=by
 have h1:(I.of .u64 (16 * r:Nat)).val = (16 * r:Nat):=b9A ⟨by omega,by omega⟩
 have h2:(I.of .u64 (d:Int)).val = d:=b9A ⟨by omega,by omega⟩
 have hv:=a2F x
 have hdS:(d:Int) * S = ((S * d:Nat):Int):=by rw [Nat.mul_comm,Int.natCast_mul]
 have hle:S * d ≤ 281474976710656 * 65535:=Nat.mul_le_mul hl (by omega)
 have h3:(I.shl (I.of .u64 d) (I.of .u64 (16 * r:Nat))).val = ((S * d:Nat):Int):=by
  rw [f9E _ _ (by omega) (by rw [h1,h2,Int.toNat_natCast,← hS,hdS]; omega),h1,h2,Int.toNat_natCast,← hS,hdS]
 have h4:=e0Y (a:=x) (b:=I.shl (I.of .u64 d) (I.of .u64 (16 * r:Nat))) (by rw [h3]; omega)
 rw [h3] at h4
 have h5:=a2F (I.add x (I.shl (I.of .u64 d) (I.of .u64 (16 * r:Nat))))
 omega
theorem e4P (u:U) (d:Nat) (j:Nat) (hj:j < 16) (hu:u.val < 65536 ^ j) (hd:d < 65536) :
  U.val (Arr.upd 4 u (j / 4) (I.add (Arr.sel (I.of .u64 0) 4 u (j / 4)) (I.shl (I.of .u64 d) (I.of .u64 (16 * (j % 4):Nat))))) = u.val + 65536 ^ j * d:=by
 obtain ⟨u0,u1,u2,u3,⟨⟩⟩:=u
 have n0:=a3V u0
 have n1:=a3V u1
 have n2:=a3V u2
 have n3:=a3V u3
 unfold U.val at hu
 simp only at hu
 have hc:j = 0 ∨ j = 1 ∨ j = 2 ∨ j = 3 ∨ j = 4 ∨ j = 5 ∨ j = 6 ∨ j = 7 ∨ j = 8 ∨ j = 9 ∨ j = 10 ∨ j = 11 ∨ j = 12 ∨ j = 13 ∨ j = 14 ∨ j = 15:=by omega
 rcases hc with rfl | rfl | rfl | rfl | rfl | rfl | rfl | rfl | rfl | rfl | rfl | rfl | rfl | rfl | rfl | rfl
 ·
  have p:65536 ^ 0 = 1:=by decide
  rw [p] at hu ⊢
  have k:=b3M u0 d 0 1 hd (by decide) (by decide) (by omega) (by decide)
  show U.val ((I.add u0 (I.shl (I.of .u64 d) (I.of .u64 (16 * 0:Nat)))),u1,u2,u3,()) = _
  unfold U.val
  simp only
  omega
 ·
  have p:65536 ^ 1 = 65536:=by decide
  rw [p] at hu ⊢
  have k:=b3M u0 d 1 65536 hd (by decide) (by decide) (by omega) (by decide)
  show U.val ((I.add u0 (I.shl (I.of .u64 d) (I.of .u64 (16 * 1:Nat)))),u1,u2,u3,()) = _
  unfold U.val
  simp only
  omega
 ·
  have p:65536 ^ 2 = 4294967296:=by decide
  rw [p] at hu ⊢
  have k:=b3M u0 d 2 4294967296 hd (by decide) (by decide) (by omega) (by decide)
  show U.val ((I.add u0 (I.shl (I.of .u64 d) (I.of .u64 (16 * 2:Nat)))),u1,u2,u3,()) = _
  unfold U.val
  simp only
  omega
 ·
  have p:65536 ^ 3 = 281474976710656:=by decide
  rw [p] at hu ⊢
  have k:=b3M u0 d 3 281474976710656 hd (by decide) (by decide) (by omega) (by decide)
  show U.val ((I.add u0 (I.shl (I.of .u64 d) (I.of .u64 (16 * 3:Nat)))),u1,u2,u3,()) = _
  unfold U.val
  simp only
  omega
 ·
  have p:65536 ^ 4 = 18446744073709551616:=by decide
  rw [p] at hu ⊢
  have k:=b3M u1 d 0 1 hd (by decide) (by decide) (by omega) (by decide)
  show U.val (u0,(I.add u1 (I.shl (I.of .u64 d) (I.of .u64 (16 * 0:Nat)))),u2,u3,()) = _
  unfold U.val
  simp only
  omega
 ·
  have p:65536 ^ 5 = 1208925819614629174706176:=by decide
  rw [p] at hu ⊢
  have k:=b3M u1 d 1 65536 hd (by decide) (by decide) (by omega) (by decide)
  show U.val (u0,(I.add u1 (I.shl (I.of .u64 d) (I.of .u64 (16 * 1:Nat)))),u2,u3,()) = _
  unfold U.val
  simp only
  omega
 ·
  have p:65536 ^ 6 = 79228162514264337593543950336:=by decide
  rw [p] at hu ⊢
  have k:=b3M u1 d 2 4294967296 hd (by decide) (by decide) (by omega) (by decide)
  show U.val (u0,(I.add u1 (I.shl (I.of .u64 d) (I.of .u64 (16 * 2:Nat)))),u2,u3,()) = _
  unfold U.val
  simp only
  omega
 ·
  have p:65536 ^ 7 = 5192296858534827628530496329220096:=by decide
  rw [p] at hu ⊢
  have k:=b3M u1 d 3 281474976710656 hd (by decide) (by decide) (by omega) (by decide)
  show U.val (u0,(I.add u1 (I.shl (I.of .u64 d) (I.of .u64 (16 * 3:Nat)))),u2,u3,()) = _
  unfold U.val
  simp only
  omega
 ·
  have p:65536 ^ 8 = 340282366920938463463374607431768211456:=by decide
  rw [p] at hu ⊢
  have k:=b3M u2 d 0 1 hd (by decide) (by decide) (by omega) (by decide)
  show U.val (u0,u1,(I.add u2 (I.shl (I.of .u64 d) (I.of .u64 (16 * 0:Nat)))),u3,()) = _
  unfold U.val
  simp only
  omega
 ·
  have p:65536 ^ 9 = 22300745198530623141535718272648361505980416:=by decide
  rw [p] at hu ⊢
  have k:=b3M u2 d 1 65536 hd (by decide) (by decide) (by omega) (by decide)
  show U.val (u0,u1,(I.add u2 (I.shl (I.of .u64 d) (I.of .u64 (16 * 1:Nat)))),u3,()) = _
  unfold U.val
  simp only
  omega
 ·
  have p:65536 ^ 10 = 1461501637330902918203684832716283019655932542976:=by decide
  rw [p] at hu ⊢
  have k:=b3M u2 d 2 4294967296 hd (by decide) (by decide) (by omega) (by decide)
  show U.val (u0,u1,(I.add u2 (I.shl (I.of .u64 d) (I.of .u64 (16 * 2:Nat)))),u3,()) = _
  unfold U.val
  simp only
  omega
 ·
  have p:65536 ^ 11 = 95780971304118053647396689196894323976171195136475136:=by decide
  rw [p] at hu ⊢
  have k:=b3M u2 d 3 281474976710656 hd (by decide) (by decide) (by omega) (by decide)
  show U.val (u0,u1,(I.add u2 (I.shl (I.of .u64 d) (I.of .u64 (16 * 3:Nat)))),u3,()) = _
  unfold U.val
  simp only
  omega
 ·
  have p:65536 ^ 12 = 6277101735386680763835789423207666416102355444464034512896:=by decide
  rw [p] at hu ⊢
  have k:=b3M u3 d 0 1 hd (by decide) (by decide) (by omega) (by decide)
  show U.val (u0,u1,u2,(I.add u3 (I.shl (I.of .u64 d) (I.of .u64 (16 * 0:Nat)))),()) = _
  unfold U.val
  simp only
  omega
 ·
  have p:65536 ^ 13 = 411376139330301510538742295639337626245683966408394965837152256:=by decide
  rw [p] at hu ⊢
  have k:=b3M u3 d 1 65536 hd (by decide) (by decide) (by omega) (by decide)
  show U.val (u0,u1,u2,(I.add u3 (I.shl (I.of .u64 d) (I.of .u64 (16 * 1:Nat)))),()) = _
  unfold U.val
  simp only
  omega
 ·
  have p:65536 ^ 14 = 26959946667150639794667015087019630673637144422540572481103610249216:=by decide
  rw [p] at hu ⊢
  have k:=b3M u3 d 2 4294967296 hd (by decide) (by decide) (by omega) (by decide)
  show U.val (u0,u1,u2,(I.add u3 (I.shl (I.of .u64 d) (I.of .u64 (16 * 2:Nat)))),()) = _
  unfold U.val
  simp only
  omega
 ·
  have p:65536 ^ 15 = 1766847064778384329583297500742918515827483896875618958121606201292619776:=by decide
  rw [p] at hu ⊢
  have k:=b3M u3 d 3 281474976710656 hd (by decide) (by decide) (by omega) (by decide)
  show U.val (u0,u1,u2,(I.add u3 (I.shl (I.of .u64 d) (I.of .u64 (16 * 3:Nat)))),()) = _
  unfold U.val
  simp only
  omega
theorem c4D {l:List Dg} {i:Nat} (h:i < l.length):bv (l.take (i + 1)) = bv (l.take i) + 65536 ^ i * (l[i]).nat:=by
 rw [← List.take_append_getElem h,c3J]
 have e:(l.take i).length = i:=by simp; omega
 simp [bv,e]
theorem a3B {l:List Dg} {n:Nat} (hl:IsB l n) (hn:n < U.top):a0K K0 ((l,()),()) = some ((U.of n,()),()):=by
 have ht:U.top = 65536 ^ 16:=by decide
 have hlen:l.length ≤ 16:=hl.len.2 (by rw [← ht]; exact hn)
 have c16:(I.of .i64 16).val = 16:=rfl
 have c4:(I.of .i64 4).val = 4:=rfl
 have c1:(I.of .i64 1).val = 1:=rfl
 have hol:(I.ofNat .i64 (a0G l)).val = l.length:=a3F (by show l.length < _; omega)
 have key:Wp (fun o=>o = some ((U.of n,()),())) (a0K K0 ((l,()),())):=by
  unfold a0K
  refine Wp.iter (fun x=>x.1.1 = l∧0 ≤ x.1.2.1.val∧x.1.2.1.val ≤ (l.length:Int)∧U.val x.2.2.1 = bv (l.take x.1.2.1.val.toNat)) (fun x=>((l.length:Int) - x.1.2.1.val).toNat) ?_ ?_ ?_
  ·
   rintro ⟨⟨l',i,⟨⟩⟩,r0,u,⟨⟩⟩ ⟨e1,hi0,hi1,hu⟩
   simp only at e1 hi0 hi1 hu
   subst e1
   have fin:i.val.toNat = l'.length→u = U.of n:=by
    intro e
    rw [e,List.take_length,hl.val] at hu
    rw [← hu]
    exact (U.of_val u).symm
   refine Wp.brn (fun h=>?_) (fun h=>?_)
   ·
    have h:=iff_ltb.1 h
    simp only [hol] at h
    have hlt:i.val.toNat < l'.length:=by omega
    refine Wp.brnT (iff_ltb.2 (by show i.val < (I.of .i64 16).val; omega)) ?_
    have hq:(I.quo i (I.of .i64 4)).val = i.val / 4:=b7H hi0 (by decide)
    have hr:(I.rem i (I.of .i64 4)).val = i.val % 4:=b6F hi0 (by decide)
    have hs:(I.add i (I.of .i64 1)).val = i.val + 1:=by rw [a5Q (by omega)]; omega
    have hm:(I.mul (I.of .i64 16) (I.rem i (I.of .i64 4))).val = 16 * (i.val % 4):=by rw [c3Q (by rw [c16,hr]; omega),hr,c16]
    have hin:inB (I.quo i (I.of .i64 4)) 4 = true:=iff_inB.2 ⟨by omega,by omega⟩
    refine Wp.brnT hin ?_
    refine Wp.brnT (iff_inB.2 ⟨hi0,by show i.val < ((l'.length:Nat):Int); omega⟩) ?_
    refine Wp.brnT (c3B _) ?_
    refine Wp.brnT hin ?_
    have hdig:DigOk l'[i.val.toNat]:=hl.dig _ (List.getElem_mem hlt)
    have hrd:rdL (I.of .i64 0) l' (I.nat i) = l'[i.val.toNat]:=a4N _ _ _ hlt
    have e1:I.nat (I.quo i (I.of .i64 4)) = i.val.toNat / 4:=by unfold I.nat; omega
    have e2:I.conv .u64 (I.mul (I.of .i64 16) (I.rem i (I.of .i64 4))) = I.of .u64 (16 * (i.val.toNat % 4):Nat):=by
     show I.of .u64 _ = _
     rw [hm]
     congr 1
     omega
    have e3:I.conv .u64 (rdL (I.of .i64 0) l' (I.nat i)) = I.of .u64 ((l'[i.val.toNat]).nat:Int):=by
     show I.of .u64 _ = _
     rw [hrd,hdig.nat.1]
    have hub:U.val u < 65536 ^ i.val.toNat:=by
     rw [hu]
     have:=e2P (c1Y hl.dig i.val.toNat)
     rw [List.length_take] at this
     rwa [Nat.min_eq_left (by omega)] at this
    have st:=e4P u (l'[i.val.toNat]).nat i.val.toNat (by omega) hub hdig.nat.2
    refine Wp.again ⟨rfl,?_,?_,?_⟩ ?_
    ·
     show 0 ≤ (I.add i (I.of .i64 1)).val; omega
    ·
     show (I.add i (I.of .i64 1)).val ≤ _; omega
    ·
     show U.val (Arr.upd 4 u (I.nat (I.quo i (I.of .i64 4))) (I.add (Arr.sel (I.of .u64 0) 4 u (I.nat (I.quo i (I.of .i64 4)))) (I.shl (I.conv .u64 (rdL (I.of .i64 0) l' (I.nat i))) (I.conv .u64 (I.mul (I.of .i64 16) (I.rem i (I.of .i64 4))))))) = bv (l'.take (I.add i (I.of .i64 1)).val.toNat)
     have e4:(I.add i (I.of .i64 1)).val.toNat = i.val.toNat + 1:=by omega
     rw [e1,e2,e3,e4,st,c4D hlt,← hu]
    ·
     show ((l'.length:Int) - (I.add i (I.of .i64 1)).val).toNat < _
     simp only; omega
   ·
    have h:=niff_ltb.1 h
    simp only [hol] at h
    have:=fin (by omega)
    subst this
    exact Wp.done rfl
  ·
   refine ⟨rfl,by show 0 ≤ (I.of .i64 0).val; decide,by show (I.of .i64 0).val ≤ (l.length:Int); have:(I.of .i64 0).val = 0:=rfl; omega,?_⟩
   show U.val _ = bv (l.take (I.of .i64 0).val.toNat)
   rfl
  ·
   exact b8G _ (by show ((l.length:Int) - (I.of .i64 0).val).toNat < _; have:(I.of .i64 0).val = 0:=rfl; omega)
 exact key.out
def c5H (n:Nat):U × I .i64:=if n < U.top then (U.of n,I.of .i64 0) else (U.of 0,I.of .i64 4)
theorem c2H {l:List Dg} {n:Nat} (hl:IsB l n) (hlen:l.length < 9223372036854775808):a1L K0 ((l,()),()) = some ((decide (n < U.top),()),()):=by
 have ht:U.top = 65536 ^ 16:=by decide
 have h:=hl.len (k:=16)
 have hol:(I.ofNat .i64 (a0G l)).val = l.length:=a3F hlen
 have c16:(I.of .i64 16).val = 16:=rfl
 have e:I.leb (I.ofNat .i64 (a0G l)) (I.of .i64 16) = decide (n < U.top):=by
  unfold I.leb
  rw [hol,c16,ht]
  by_cases hc:l.length ≤ 16
  ·
   have:=h.1 hc
   simp [this]; omega
  ·
   have:¬ n < 65536 ^ 16:=fun hh=>hc (h.2 hh)
   simp [this]; omega
 refine Wp.out (T:=fun o=>o = _) ?_
 unfold a1L
 show some ((I.leb (I.ofNat .i64 (a0G l)) (I.of .i64 16),()),()) = _
 rw [e]
theorem e6Q {l:List Dg} {n:Nat} (hl:IsB l n) (hlen:l.length < 9223372036854775808):a2O K0 ((l,()),()) = some (((c5H n).1,(c5H n).2,()),()):=by
 refine Wp.out (T:=fun o=>o = _) ?_
 unfold a2O c5H
 refine Wp.optF (c2H hl hlen) ?_
 by_cases h:n < U.top
 ·
  refine Wp.brnF (by show (!decide (n < U.top)) = false; simp [h]) ?_
  refine Wp.optF (a3B hl h) ?_
  show _ = _
  rw [if_pos h]
  rfl
 ·
  refine Wp.brnT (by show (!decide (n < U.top)) = true; simp [h]) ?_
  show _ = _
  rw [if_neg h]
  rfl
theorem Checked_ok' {l:List Dg} {n:Nat} (hl:IsB l n) (hlen:l.length ≤ 1000000):a2O K0 ((l,()),()) = some (((c5H n).1,(c5H n).2,()),()):=e6Q hl (by omega)
def d2K (x:I .u64):U:=(x,I.of .u64 0,I.of .u64 0,I.of .u64 0,())
theorem c5B (x:I .u64):(d2K x).val = x.nat:=by
 unfold d2K U.val
 have:(I.of .u64 0).nat = 0:=rfl
 simp only [this]
 omega
theorem a1P (x:I .u64):∃ r,a0J K0 ((x,()),()) = some ((r,()),())∧IsB r x.nat:=by
 obtain ⟨r,hr,hB⟩:=a0X (d2K x)
 rw [c5B] at hB
 refine ⟨r,?_,hB⟩
 refine Wp.out (T:=fun o=>o = _) ?_
 unfold a0J
 exact Wp.optF hr rfl
end Sym

/- Natural numbers by digits of 65536: sums, differences, comparison. -/
namespace Sym
open Go
abbrev rd0 (l:List Dg) (i:Nat):Dg:=rdL (I.of .i64 0) l i
theorem f7Z:DigOk (I.of .i64 0):=by unfold DigOk; decide
theorem b5H {l:List Dg} (h:b9X l) (i:Nat):DigOk (rd0 l i):=by
 rcases Nat.lt_or_ge i l.length with hi | hi
 ·
  rw [rd0,a4N _ _ _ hi]; exact h _ (List.getElem_mem hi)
 ·
  rw [rd0,c4H _ _ _ hi]; exact f7Z
theorem c5A {l:List Dg} {i:Nat} (h:l.length ≤ i):(rd0 l i).nat = 0:=by rw [rd0,c4H _ _ _ h]; rfl
theorem b8T:∀ (l:List Dg) (i:Nat),bv (l.drop i) = (rd0 l i).nat + 65536 * bv (l.drop (i + 1))
 | [],i=>by simp [bv,rd0,rdL]; rfl
 | x :: l,0=>by simp [bv,rd0,rdL]
 | x :: l,i + 1=>by simpa [rd0,rdL] using b8T l i
theorem c4S (l:List Dg) (i:Nat):bv (l.take (i + 1)) = bv (l.take i) + 65536 ^ i * (rd0 l i).nat:=by
 rcases Nat.lt_or_ge i l.length with hi | hi
 ·
  rw [c4D hi,rd0,a4N _ _ _ hi]
 ·
  rw [c5A hi,List.take_of_length_le (by omega),List.take_of_length_le hi]; simp
theorem d0Y:∀ {l:List Dg},f8C l→∀ (i:Nat),i + 1 = l.length→(rd0 l i).val ≠ 0
 | [],_,i,h=>by simp at h
 | [d],h,i,hi=>by
  have:i = 0:=by simpa using hi
  subst this
  exact h
 | d :: e :: l,h,0,hi=>by simp at hi
 | d :: e :: l,h,i + 1,hi=>d0Y (l:=e :: l) h i (by simpa using hi)
structure AddInv (a b:List Dg) (over i:I .i64) (out:List Dg):Prop where
 o0:0 ≤ over.val
 o1:over.val ≤ 1
 i0:0 ≤ i.val
 i1:i.val ≤ max a.length b.length ∨ (over.val = 0∧i.val = max a.length b.length + 1)
 len:(out.length:Int) = i.val
 dig:b9X out
 sum:bv out + 65536 ^ i.val.toNat * (over.nat + bv (a.drop i.val.toNat) + bv (b.drop i.val.toNat)) = bv a + bv b
 lead:over.val = 0→(a.length:Int) ≤ i.val→(b.length:Int) ≤ i.val→f8C out
theorem f3S {a b:List Dg} {over i s:I .i64} {out:List Dg} (ha:b9X a) (hb:b9X b) (la:f8C a) (lb:f8C b) (hal:a.length ≤ 1000000) (hbl:b.length ≤ 1000000) (h:AddInv a b over i out)
  (hc:i.val < a.length ∨ i.val < b.length ∨ 0 < over.val) (hs:s.val = over.val + (rd0 a i.val.toNat).val + (rd0 b i.val.toNat).val) :
  AddInv a b (I.shr s (I.of .u64 16)) (I.add i (I.of .i64 1)) (a2D out [I.and s (I.of .i64 65535)]):=by
 have c1:(I.of .i64 1).val = 1:=rfl
 have da:=b5H ha i.val.toNat
 have db:=b5H hb i.val.toNat
 have da2:=da.nat
 have db2:=db.nat
 unfold DigOk at da db
 have ho0:=h.o0
 have ho1:=h.o1
 have hi0:=h.i0
 have hi1:=h.i1
 have hsh:=c8J s (by omega)
 have han:=e1S s (by omega)
 have hi:(I.add i (I.of .i64 1)).val = i.val + 1:=by rw [a5Q (by omega)]; omega
 have hin:(I.add i (I.of .i64 1)).val.toNat = i.val.toNat + 1:=by omega
 have hout:out.length = i.val.toNat:=by have:=h.len; omega
 refine ⟨by omega,by omega,by omega,?_,?_,?_,?_,?_⟩
 ·
  rcases hi1 with hi1 | hi1
  ·
   rcases Int.lt_or_le i.val (max a.length b.length) with hlt | hge
   ·
    left; omega
   ·
    right
    have z1:=c5A (l:=a) (i:=i.val.toNat) (by omega)
    have z2:=c5A (l:=b) (i:=i.val.toNat) (by omega)
    omega
  ·
   exfalso; omega
 ·
  show ((a2D out [_]).length:Int) = _
  simp only [a2D,List.length_append,List.length_singleton]
  have:=h.len
  omega
 ·
  exact digs_app.2 ⟨h.dig,digs_cons.2 ⟨by unfold DigOk; omega,fun _ h=>by simp at h⟩⟩
 ·
  have hsum:=h.sum
  rw [b8T a,b8T b] at hsum
  rw [hin]
  have hn1:(I.and s (I.of .i64 65535)).nat + 65536 * (I.shr s (I.of .u64 16)).nat = over.nat + (rd0 a i.val.toNat).nat + (rd0 b i.val.toNat).nat:=by
   unfold I.nat at *
   omega
  have e:over.nat + ((rd0 a i.val.toNat).nat + 65536 * bv (a.drop (i.val.toNat + 1))) + ((rd0 b i.val.toNat).nat + 65536 * bv (b.drop (i.val.toNat + 1))) =
    (I.and s (I.of .i64 65535)).nat + 65536 * ((I.shr s (I.of .u64 16)).nat + bv (a.drop (i.val.toNat + 1)) + bv (b.drop (i.val.toNat + 1))):=by omega
  rw [e,Nat.mul_add,← Nat.mul_assoc] at hsum
  rw [← hsum,a2D,c3J,hout,Nat.pow_succ]
  simp only [bv,Nat.mul_zero,Nat.add_zero]
  omega
 ·
  intro hz h1 h2
  refine c4M _ _ ?_
  intro hz2
  have hs0:s.val = 0:=by omega
  rcases hc with hc | hc | hc
  ·
   have:=d0Y la i.val.toNat (by omega)
   omega
  ·
   have:=d0Y lb i.val.toNat (by omega)
   omega
  ·
   omega
theorem a9P {a b:List Dg} {m n:Nat} (ha:IsB a m) (hb:IsB b n) (hal:a.length ≤ 1000000) (hbl:b.length ≤ 1000000):∃ r,a0T K0 ((a,b,()),()) = some ((r,()),())∧IsB r (m + n):=by
 have hol:(I.ofNat .i64 (a0G a)).val = a.length:=a3F (by show a.length < _; omega)
 have hol2:(I.ofNat .i64 (a0G b)).val = b.length:=a3F (by show b.length < _; omega)
 have c0:(I.of .i64 0).val = 0:=rfl
 have key:Wp (fun o=>∃ r,o = some ((r,()),())∧IsB r (m + n)) (a0T K0 ((a,b,()),())):=by
  unfold a0T
  refine Wp.iter (fun x=>x.1.1 = a∧x.1.2.1 = b∧AddInv a b x.1.2.2.1 x.1.2.2.2.1 x.2.1) (fun x=>((max a.length b.length:Int) + 2 - x.1.2.2.2.1.val).toNat) ?_ ?_ ?_
  ·
   rintro ⟨⟨a',b',over,i,⟨⟩⟩,out,⟨⟩⟩ ⟨e1,e2,hI⟩
   simp only at e1 e2 hI
   subst e1 e2
   have hi0:=hI.i0
   have hi1:=hI.i1
   have ho0:=hI.o0
   have ho1:=hI.o1
   have again:∀ (s:I .i64),(i.val < a'.length ∨ i.val < b'.length ∨ 0 < over.val)→s.val = over.val + (rd0 a' i.val.toNat).val + (rd0 b' i.val.toNat).val →
     AddInv a' b' (I.shr s (I.of .u64 16)) (I.add i (I.of .i64 1)) (a2D out [I.and s (I.of .i64 65535)])∧((max a'.length b'.length:Int) + 2 - (I.add i (I.of .i64 1)).val).toNat < ((max a'.length b'.length:Int) + 2 - i.val).toNat:=by
    intro s hc hs
    refine ⟨f3S ha.dig hb.dig ha.lead hb.lead hal hbl hI hc hs,?_⟩
    have c1:(I.of .i64 1).val = 1:=rfl
    have hi:(I.add i (I.of .i64 1)).val = i.val + 1:=by rw [a5Q (by omega)]; omega
    omega
   have fits:a1I (a0G (a2D out [I.of .i64 0])) = true:=iff_fits.2 (by show (a2D out [_]).length ≤ _; rw [a2D,List.length_append,List.length_singleton]; have:=hI.len; omega)
   have fits':∀ d:Dg,a1I (a0G (a2D out [d])) = true:=fun d=>iff_fits.2 (by show (a2D out [_]).length ≤ _; rw [a2D,List.length_append,List.length_singleton]; have:=hI.len; omega)
   refine Wp.jn (fun x=>x.1.1 = a'∧x.1.2.1 = b'∧x.1.2.2.1 = over∧x.1.2.2.2.1 = i∧x.2.1 = out∧(i.val < a'.length ∨ i.val < b'.length ∨ 0 < over.val)) ?_ ?_
   ·
    rintro ⟨⟨a1,b1,over1,i1,⟨⟩⟩,out1,⟨⟩⟩ ⟨e1,e2,e3,e4,e5,hc⟩
    simp only at e1 e2 e3 e4 e5
    subst e1 e2 e3 e4 e5
    have ra:=b5H ha.dig i1.val.toNat
    have rb:=b5H hb.dig i1.val.toNat
    unfold DigOk at ra rb
    refine Wp.jn (fun x=>x.1.1 = a1∧x.1.2.1 = b1∧x.1.2.2.1.val = over1.val + (rd0 a1 i1.val.toNat).val∧x.1.2.2.2.1 = i1∧x.2.1 = out1) ?_ ?_
    ·
     rintro ⟨⟨a2,b2,over2,i2,⟨⟩⟩,out2,⟨⟩⟩ ⟨e1,e2,e3,e4,e5⟩
     simp only at e1 e2 e3 e4 e5
     subst e1 e2 e4 e5
     refine Wp.brn (fun h=>?_) (fun h=>?_)
     ·
      have h:=iff_ltb.1 h
      simp only [hol2] at h
      refine Wp.brnT (iff_inB.2 ⟨hi0,by show i2.val < ((b2.length:Nat):Int); omega⟩) ?_
      have hs:(I.add over2 (rd0 b2 i2.val.toNat)).val = over1.val + (rd0 a2 i2.val.toNat).val + (rd0 b2 i2.val.toNat).val:=by rw [a5Q (by omega)]; omega
      have:=again _ hc hs
      exact Wp.brnT (fits' _) (Wp.again ⟨rfl,rfl,this.1⟩ this.2)
     ·
      have h:=niff_ltb.1 h
      simp only [hol2] at h
      have hz:=c5A (l:=b2) (i:=i2.val.toNat) (by omega)
      have hz2:(rd0 b2 i2.val.toNat).val = 0:=by unfold I.nat at hz; omega
      have:=again over2 hc (by omega)
      exact Wp.brnT (fits' _) (Wp.again ⟨rfl,rfl,this.1⟩ this.2)
    ·
     intro j2 hj2
     refine Wp.brn (fun h=>?_) (fun h=>?_)
     ·
      have h:=iff_ltb.1 h
      simp only [hol] at h
      refine Wp.brnT (iff_inB.2 ⟨hi0,by show i1.val < ((a1.length:Nat):Int); omega⟩) ?_
      exact hj2 _ ⟨rfl,rfl,a5Q (by show _ ≤ over1.val + (rd0 a1 i1.val.toNat).val∧over1.val + (rd0 a1 i1.val.toNat).val < _; omega),rfl,rfl⟩
     ·
      have h:=niff_ltb.1 h
      simp only [hol] at h
      have hz:=c5A (l:=a1) (i:=i1.val.toNat) (by omega)
      have hz2:(rd0 a1 i1.val.toNat).val = 0:=by unfold I.nat at hz; omega
      exact hj2 _ ⟨rfl,rfl,by show over1.val = _; omega,rfl,rfl⟩
   ·
    intro j1 hj1
    refine Wp.brn (fun h=>?_) (fun h=>?_)
    ·
     have h:=iff_ltb.1 h
     simp only [hol] at h
     exact hj1 _ ⟨rfl,rfl,rfl,rfl,rfl,.inl h⟩
    ·
     have h:=niff_ltb.1 h
     simp only [hol] at h
     refine Wp.brn (fun h2=>?_) (fun h2=>?_)
     ·
      have h2:=iff_ltb.1 h2
      simp only [hol2] at h2
      exact hj1 _ ⟨rfl,rfl,rfl,rfl,rfl,.inr (.inl h2)⟩
     ·
      have h2:=niff_ltb.1 h2
      simp only [hol2] at h2
      refine Wp.brn (fun h3=>?_) (fun h3=>?_)
      ·
       have h3:=iff_ltb.1 h3
       simp only [c0] at h3
       exact hj1 _ ⟨rfl,rfl,rfl,rfl,rfl,.inr (.inr h3)⟩
      ·
       have h3:=niff_ltb.1 h3
       simp only [c0] at h3
       refine Wp.done ⟨out,rfl,hI.dig,hI.lead (by omega) (by omega) (by omega),?_⟩
       have hsum:=hI.sum
       have hz:over.nat = 0:=by unfold I.nat; omega
       rw [List.drop_of_length_le (l:=a') (by omega),List.drop_of_length_le (l:=b') (by omega),hz] at hsum
       simp only [bv,Nat.mul_zero,Nat.add_zero] at hsum
       rw [hsum,ha.val,hb.val]
  ·
   refine ⟨rfl,rfl,?_⟩
   show AddInv a b (I.of .i64 0) (I.of .i64 0) []
   refine ⟨by decide,by decide,by decide,?_,rfl,fun _ h=>by simp at h,?_,fun _ _ _=>trivial⟩
   ·
    left; show (I.of .i64 0).val ≤ _; omega
   ·
    show bv [] + 65536 ^ (I.of .i64 0).val.toNat * ((I.of .i64 0).nat + bv (a.drop (I.of .i64 0).val.toNat) + bv (b.drop (I.of .i64 0).val.toNat)) = _
    have e:(I.of .i64 0).val.toNat = 0:=rfl
    have e2:(I.of .i64 0).nat = 0:=rfl
    rw [e,e2]
    simp [bv]
  ·
   exact b8G _ (by show ((max a.length b.length:Int) + 2 - (I.of .i64 0).val).toNat < _; omega)
 exact key.out
end Sym

/- Natural numbers by digits of 65536: differences, comparison. -/
namespace Sym
open Go
theorem c1X:∀ (n:Nat),b9X (c0C n (I.of .i64 0))
 | 0=>fun _ h=>by simp [c0C] at h
 | n + 1=>digs_cons.2 ⟨f7Z,c1X n⟩
theorem b2Q {X:Type}:∀ (n:Nat) (x:X),(c0C n x).length = n
 | 0,_=>rfl
 | n + 1,x=>by simp [c0C,b2Q n x]
theorem c2T {X:Type} (l:List X) (i:Nat) (v:X) (h:i < l.length):(l.set i v).take (i + 1) = l.take i ++ [v]:=by
 have h2:i < (l.set i v).length:=by simpa using h
 rw [← List.take_append_getElem h2]
 simp [List.take_set_of_le]
theorem c2W {l:List Dg} (h:b9X l) (i:Nat) {d:Dg} (hd:DigOk d):b9X (l.set i d):=by
 intro e he
 rcases List.mem_or_eq_of_mem_set he with h1 | h1
 ·
  exact h e h1
 ·
  subst h1; exact hd
structure SubInv (a b:List Dg) (under i:I .i64) (out:List Dg):Prop where
 u0:0 ≤ under.val
 u1:under.val ≤ 1
 i0:0 ≤ i.val
 i1:i.val ≤ a.length
 len:out.length = a.length
 dig:b9X out
 sum:bv (out.take i.val.toNat) + bv (b.take i.val.toNat) = bv (a.take i.val.toNat) + 65536 ^ i.val.toNat * under.nat
theorem e3T {a b:List Dg} {under i d un:I .i64} {out:List Dg} (ha:b9X a) (hb:b9X b) (hal:a.length ≤ 1000000) (h:SubInv a b under i out) (hc:i.val < a.length)
  (hd:DigOk d) (hu:un.val = 0 ∨ un.val = 1) (hs:d.val = (rd0 a i.val.toNat).val - under.val - (rd0 b i.val.toNat).val + 65536 * un.val) :
  SubInv a b un (I.add i (I.of .i64 1)) (setAt out (I.nat i) d):=by
 have c1:(I.of .i64 1).val = 1:=rfl
 have da2:=(b5H ha i.val.toNat).nat
 have db2:=(b5H hb i.val.toNat).nat
 have hd2:=hd.nat
 have hu0:=h.u0
 have hu1:=h.u1
 have hi0:=h.i0
 have hi:(I.add i (I.of .i64 1)).val = i.val + 1:=by rw [a5Q (by omega)]; omega
 have hin:(I.add i (I.of .i64 1)).val.toNat = i.val.toNat + 1:=by omega
 have hlen:=h.len
 have hni:I.nat i = i.val.toNat:=rfl
 rw [a7X,hni]
 refine ⟨by omega,by omega,by omega,by omega,by simpa using hlen,c2W h.dig _ hd,?_⟩
 rw [hin,c2T _ _ _ (by omega),c3J,c4S a,c4S b]
 have el:(out.take i.val.toNat).length = i.val.toNat:=by simp; omega
 rw [el,Nat.pow_succ]
 simp only [bv,Nat.mul_zero,Nat.add_zero]
 have hsum:=h.sum
 have e:d.nat + (rd0 b i.val.toNat).nat + under.nat = (rd0 a i.val.toNat).nat + 65536 * un.nat:=by
  unfold I.nat at *
  omega
 have e2:=congrArg (fun z=>65536 ^ i.val.toNat * z) e
 simp only [Nat.mul_add] at e2
 rw [← Nat.mul_assoc] at e2
 omega
theorem c6H {a b:List Dg} {m n:Nat} (ha:IsB a m) (hb:IsB b n) (hmn:n ≤ m) (hal:a.length ≤ 1000000):∃ r,a2S K0 ((a,b,()),()) = some ((r,()),())∧IsB r (m - n):=by
 have hbl:b.length ≤ a.length:=hb.len.2 (Nat.lt_of_le_of_lt hmn (ha.len.1 (Nat.le_refl _)))
 have hol:(I.ofNat .i64 (a0G a)).val = a.length:=a3F (by show a.length < _; omega)
 have hol2:(I.ofNat .i64 (a0G b)).val = b.length:=a3F (by show b.length < _; omega)
 have c0:(I.of .i64 0).val = 0:=rfl
 have hn:I.nat (I.ofNat .i64 (a0G a)) = a.length:=by unfold I.nat; omega
 have key:Wp (fun o=>∃ r,o = some ((r,()),())∧IsB r (m - n)) (a2S K0 ((a,b,()),())):=by
  unfold a2S
  refine Wp.brnT ?_ ?_
  ·
   show (decide (0 ≤ (I.ofNat .i64 (a0G a)).val) && decide ((I.ofNat .i64 (a0G a)).val ≤ ((I.nat (I.ofNat .i64 (a0G a)):Nat):Int))) = true
   rw [hn,hol]; simp
  refine Wp.brnT ?_ ?_
  ·
   show (decide (0 ≤ (I.ofNat .i64 (a0G a)).val) && decide ((I.ofNat .i64 (a0G a)).val ≤ ((1073741824:Nat):Int))) = true
   rw [hol]; simp; omega
  refine Wp.iter (fun x=>x.1.1 = a∧x.1.2.1 = b∧SubInv a b x.1.2.2.1 x.1.2.2.2.1 x.2.1) (fun x=>((a.length:Int) - x.1.2.2.2.1.val).toNat) ?_ ?_ ?_
  ·
   rintro ⟨⟨a',b',under,i,⟨⟩⟩,out,⟨⟩⟩ ⟨e1,e2,hI⟩
   simp only at e1 e2 hI
   subst e1 e2
   have hi0:=hI.i0
   have hi1:=hI.i1
   have hu0:=hI.u0
   have hu1:=hI.u1
   refine Wp.brn (fun h=>?_) (fun h=>?_)
   ·
    have hlt:=iff_ltb.1 h
    simp only [hol] at hlt
    clear h
    have ra:=b5H ha.dig i.val.toNat
    have rb:=b5H hb.dig i.val.toNat
    have ra':=ra
    have rb':=rb
    unfold DigOk at ra rb
    have c1:(I.of .i64 1).val = 1:=rfl
    have hi:(I.add i (I.of .i64 1)).val = i.val + 1:=by rw [a5Q (by omega)]; omega
    have hm:((a'.length:Int) - (I.add i (I.of .i64 1)).val).toNat < ((a'.length:Int) - i.val).toNat:=by omega
    have hlen:=hI.len
    refine Wp.brnT (iff_inB.2 ⟨hi0,by show i.val < ((a'.length:Nat):Int); omega⟩) ?_
    refine Wp.jn (fun x=>x.1.1 = a'∧x.1.2.1 = b'∧x.1.2.2.1 = i∧x.1.2.2.2.1.val = (rd0 a' i.val.toNat).val - under.val - (rd0 b' i.val.toNat).val∧x.2.1 = out) ?_ ?_
    ·
     rintro ⟨⟨a1,b1,i1,x,⟨⟩⟩,out1,⟨⟩⟩ ⟨e1,e2,e3,e4,e5⟩
     simp only at e1 e2 e3 e4 e5
     subst e1 e2 e3 e5
     refine Wp.brn (fun h2=>?_) (fun h2=>?_)
     ·
      have h2:=iff_ltb.1 h2
      simp only [c0] at h2
      refine Wp.brnT (iff_inB.2 ⟨hi0,by show i1.val < ((out1.length:Nat):Int); omega⟩) ?_
      have c6:(I.of .i64 65536).val = 65536:=rfl
      have hx:(I.add x (I.of .i64 65536)).val = x.val + 65536:=by rw [a5Q (by omega)]; omega
      have st:=e3T (un:=I.of .i64 1) (d:=I.add x (I.of .i64 65536)) ha.dig hb.dig hal hI hlt (by unfold DigOk; omega) (.inr rfl) (by omega)
      exact Wp.again ⟨rfl,rfl,st⟩ hm
     ·
      have h2:=niff_ltb.1 h2
      simp only [c0] at h2
      refine Wp.brnT (iff_inB.2 ⟨hi0,by show i1.val < ((out1.length:Nat):Int); omega⟩) ?_
      have st:=e3T (un:=I.of .i64 0) (d:=x) ha.dig hb.dig hal hI hlt (by unfold DigOk; omega) (.inl rfl) (by omega)
      exact Wp.again ⟨rfl,rfl,st⟩ hm
    ·
     intro j hj
     have hs1:(I.sub (rd0 a' i.val.toNat) under).val = (rd0 a' i.val.toNat).val - under.val:=a9Z (by omega)
     refine Wp.brn (fun h2=>?_) (fun h2=>?_)
     ·
      have h2:=iff_ltb.1 h2
      simp only [hol2] at h2
      refine Wp.brnT (iff_inB.2 ⟨hi0,by show i.val < ((b'.length:Nat):Int); omega⟩) ?_
      refine hj _ ⟨rfl,rfl,rfl,?_,rfl⟩
      show (I.sub (I.sub (rd0 a' i.val.toNat) under) (rd0 b' i.val.toNat)).val = _
      rw [a9Z (by omega),hs1]
     ·
      have h2:=niff_ltb.1 h2
      simp only [hol2] at h2
      have hz:=c5A (l:=b') (i:=i.val.toNat) (by omega)
      have hz2:(rd0 b' i.val.toNat).val = 0:=by unfold I.nat at hz; omega
      refine hj _ ⟨rfl,rfl,rfl,?_,rfl⟩
      show (I.sub (rd0 a' i.val.toNat) under).val = _
      omega
   ·
    have h:=niff_ltb.1 h
    simp only [hol] at h
    have hlen:=hI.len
    have hsum:=hI.sum
    have hi:i.val.toNat = a'.length:=by omega
    rw [hi,List.take_of_length_le (by omega),List.take_of_length_le hbl,List.take_length,ha.val,hb.val] at hsum
    have hlt:=e2P hI.dig
    rw [hlen] at hlt
    have hz:under.nat = 0:=by
     unfold I.nat
     rcases Int.lt_or_le under.val 1 with h1 | h1
     ·
      omega
     ·
      exfalso
      have:under.nat = 1:=by unfold I.nat; omega
      rw [this] at hsum
      omega
    rw [hz,Nat.mul_zero,Nat.add_zero] at hsum
    have hbv:bv out = m - n:=by omega
    have holen:(I.ofNat .i64 (a0G out)).val = out.length:=a3F (by show out.length < _; omega)
    clear hsum h
    refine Wp.done ?_
    refine Wp.iter (fun x=>x.2.1 = out∧0 ≤ x.1.1.val∧x.1.1.val ≤ (out.length:Int)∧bv (out.take x.1.1.val.toNat) = bv out) (fun x=>x.1.1.val.toNat) ?_ ?_ ?_
    ·
     rintro ⟨⟨j,r⟩,out',⟨⟩⟩ ⟨e1,hj0,hj1,hb⟩
     simp only at e1 hj0 hj1 hb
     subst e1
     have c1:(I.of .i64 1).val = 1:=rfl
     have cut:inB' j (a0G out') = true:=by
      show (decide (0 ≤ j.val) && decide (j.val ≤ ((out'.length:Nat):Int))) = true
      simp [hj0,hj1]
     have sub:a3W out' 0 (I.nat j) = out'.take j.val.toNat:=by simp [a3W,I.nat]
     refine Wp.brn (fun h=>?_) (fun h=>?_)
     ·
      have h:=iff_ltb.1 h
      have h:(I.of .i64 0).val < j.val:=h
      have hs:(I.sub j (I.of .i64 1)).val = j.val - 1:=by rw [a9Z (by omega)]; omega
      have hidx:(I.nat (I.sub j (I.of .i64 1))) = j.val.toNat - 1:=by unfold I.nat; omega
      have hlt:j.val.toNat - 1 < out'.length:=by omega
      have hrd:rdL (I.of .i64 0) out' (I.nat (I.sub j (I.of .i64 1))) = out'[j.val.toNat - 1]:=by rw [hidx]; exact a4N _ _ _ hlt
      have htk:out'.take j.val.toNat = out'.take (j.val.toNat - 1) ++ [out'[j.val.toNat - 1]]:=by
       rw [List.take_append_getElem hlt]
       congr 1
       omega
      refine Wp.brnT (iff_inB.2 ⟨by show 0 ≤ (I.sub j (I.of .i64 1)).val; omega,by show (I.sub j (I.of .i64 1)).val < (out'.length:Int); omega⟩) ?_
      refine Wp.brn (fun h2=>?_) (fun h2=>?_)
      ·
       have h2:=iff_eqb.1 h2
       have h2:(rdL (I.of .i64 0) out' (I.nat (I.sub j (I.of .i64 1)))).val = (I.of .i64 0).val:=h2
       rw [hrd] at h2
       refine Wp.again ⟨rfl,?_,?_,?_⟩ ?_
       ·
        show 0 ≤ (I.sub j (I.of .i64 1)).val; omega
       ·
        show (I.sub j (I.of .i64 1)).val ≤ _; omega
       ·
        show bv (out'.take (I.sub j (I.of .i64 1)).val.toNat) = _
        have e:(I.sub j (I.of .i64 1)).val.toNat = j.val.toNat - 1:=by omega
        rw [e,← hb,htk,c3J]
        have hz:(out'[j.val.toNat - 1]).nat = 0:=by unfold I.nat; rw [h2]; rfl
        simp [bv,hz]
       ·
        show (I.sub j (I.of .i64 1)).val.toNat < j.val.toNat
        omega
      ·
       have h2:=niff_eqb.1 h2
       have h2:(rdL (I.of .i64 0) out' (I.nat (I.sub j (I.of .i64 1)))).val ≠ (I.of .i64 0).val:=h2
       rw [hrd] at h2
       refine Wp.done (Wp.brnT cut ⟨_,rfl,?_⟩)
       show IsB (a3W out' 0 (I.nat j)) _
       rw [sub]
       refine ⟨c1Y hI.dig _,?_,hb.trans hbv⟩
       rw [htk]
       exact c4M _ _ h2
     ·
      have h:=niff_ltb.1 h
      have h:j.val ≤ (I.of .i64 0).val:=h
      refine Wp.done (Wp.brnT cut ⟨_,rfl,?_⟩)
      show IsB (a3W out' 0 (I.nat j)) _
      rw [sub]
      have e:j.val.toNat = 0:=by omega
      rw [e] at hb ⊢
      simp only [List.take_zero] at hb ⊢
      rw [← hbv,← hb]
      exact c0R
    ·
     refine ⟨rfl,?_,?_,?_⟩
     ·
      show 0 ≤ (I.ofNat .i64 (a0G out)).val; omega
     ·
      show (I.ofNat .i64 (a0G out)).val ≤ _; omega
     ·
      show bv (out.take (I.ofNat .i64 (a0G out)).val.toNat) = _
      rw [holen,Int.toNat_natCast,List.take_length]
    ·
     refine b8G _ ?_
     show (I.ofNat .i64 (a0G out)).val.toNat < _
     omega
  ·
   refine ⟨rfl,rfl,?_⟩
   show SubInv a b (I.of .i64 0) (I.of .i64 0) (c0C (I.nat (I.ofNat .i64 (a0G a))) (I.of .i64 0))
   rw [hn]
   have e:(I.of .i64 0).val.toNat = 0:=rfl
   refine ⟨by decide,by decide,by decide,by omega,b2Q _ _,c1X _,?_⟩
   rw [e]
   rfl
  ·
   exact b8G _ (by show ((a.length:Int) - (I.of .i64 0).val).toNat < _; omega)
 exact key.out
def c0Z (m n:Nat):I .i64:=if m < n then I.of .i64 (-1) else if n < m then I.of .i64 1 else I.of .i64 0
theorem f7N {a b:List Dg} (ha:b9X a) (hb:b9X b) (i:Nat) (hd:bv (a.drop (i + 1)) = bv (b.drop (i + 1))) (hlt:(rd0 a i).nat < (rd0 b i).nat) (hia:i ≤ a.length) (hib:i ≤ b.length):bv a < bv b:=by
 have e1:bv a = bv (a.take i) + 65536 ^ i * bv (a.drop i):=by
  have:=c3J (a.take i) (a.drop i)
  rw [List.take_append_drop] at this
  rw [this]; simp [Nat.min_eq_left hia]
 have e2:bv b = bv (b.take i) + 65536 ^ i * bv (b.drop i):=by
  have:=c3J (b.take i) (b.drop i)
  rw [List.take_append_drop] at this
  rw [this]; simp [Nat.min_eq_left hib]
 have h1:=e2P (c1Y ha i)
 rw [List.length_take,Nat.min_eq_left hia] at h1
 have h2:bv (a.drop i) + 1 ≤ bv (b.drop i):=by rw [b8T a,b8T b]; omega
 have h3:=Nat.mul_le_mul_left (65536 ^ i) h2
 rw [Nat.mul_add] at h3
 omega
theorem c1M {a b:List Dg} {m n:Nat} (ha:IsB a m) (hb:IsB b n) (hal:a.length ≤ 1000000) (hbl:b.length ≤ 1000000):a2L K0 ((a,b,()),()) = some ((c0Z m n,()),()):=by
 have hol:(I.ofNat .i64 (a0G a)).val = a.length:=a3F (by show a.length < _; omega)
 have hol2:(I.ofNat .i64 (a0G b)).val = b.length:=a3F (by show b.length < _; omega)
 have c0:(I.of .i64 0).val = 0:=rfl
 have c1:(I.of .i64 1).val = 1:=rfl
 have key:Wp (fun o=>o = some ((c0Z m n,()),())) (a2L K0 ((a,b,()),())):=by
  unfold a2L
  refine Wp.brn (fun h=>?_) (fun h=>?_)
  ·
   have h:=iff_neb.1 h
   simp only [hol,hol2] at h
   refine Wp.brn (fun h2=>?_) (fun h2=>?_)
   ·
    have h2:=iff_ltb.1 h2
    simp only [hol,hol2] at h2
    have h3:m < n:=by
     rcases Nat.lt_or_ge m n with h3 | h3
     ·
      exact h3
     ·
      have:=hb.len.2 (Nat.lt_of_le_of_lt h3 (ha.len.1 (Nat.le_refl _)))
      omega
    show _ = _
    unfold c0Z
    rw [if_pos h3]
    rfl
   ·
    have h2:=niff_ltb.1 h2
    simp only [hol,hol2] at h2
    have h3:n < m:=by
     rcases Nat.lt_or_ge n m with h3 | h3
     ·
      exact h3
     ·
      have:=ha.len.2 (Nat.lt_of_le_of_lt h3 (hb.len.1 (Nat.le_refl _)))
      omega
    show _ = _
    unfold c0Z
    rw [if_neg (by omega),if_pos h3]
    rfl
  ·
   have h:=niff_neb.1 h
   simp only [hol,hol2] at h
   have hs:(I.sub (I.ofNat .i64 (a0G a)) (I.of .i64 1)).val = a.length - 1:=by rw [a9Z (by omega)]; omega
   refine Wp.iter (fun x=>x.1.1 = a∧x.1.2.1 = b∧-1 ≤ x.1.2.2.1.val∧x.1.2.2.1.val < (a.length:Int)∧bv (a.drop (x.1.2.2.1.val + 1).toNat) = bv (b.drop (x.1.2.2.1.val + 1).toNat)) (fun x=>(x.1.2.2.1.val + 1).toNat) ?_ ?_ ?_
   ·
    rintro ⟨⟨a',b',i,⟨⟩⟩,⟨⟩⟩ ⟨e1,e2,hi0,hi1,hd⟩
    simp only at e1 e2 hi0 hi1 hd
    subst e1 e2
    refine Wp.brn (fun h2=>?_) (fun h2=>?_)
    ·
     have h2:=iff_leb.1 h2
     simp only [c0] at h2
     have ha1:inB i (a0G a') = true:=iff_inB.2 ⟨h2,by show i.val < ((a'.length:Nat):Int); omega⟩
     have hb1:inB i (a0G b') = true:=iff_inB.2 ⟨h2,by show i.val < ((b'.length:Nat):Int); omega⟩
     have en:(i.val + 1).toNat = i.val.toNat + 1:=by omega
     rw [en] at hd
     have na:=(b5H ha.dig i.val.toNat).nat
     have nb:=(b5H hb.dig i.val.toNat).nat
     refine Wp.brnT ha1 (Wp.brnT hb1 ?_)
     refine Wp.brn (fun h3=>?_) (fun h3=>?_)
     ·
      have h3:=iff_ltb.1 h3
      have h3:(rd0 a' i.val.toNat).val < (rd0 b' i.val.toNat).val:=h3
      have:=f7N ha.dig hb.dig i.val.toNat hd (by omega) (by omega) (by omega)
      rw [ha.val,hb.val] at this
      refine Wp.done ?_
      show _ = _
      unfold c0Z
      rw [if_pos this]
      rfl
     ·
      have h3:=niff_ltb.1 h3
      have h3:(rd0 b' i.val.toNat).val ≤ (rd0 a' i.val.toNat).val:=h3
      refine Wp.brnT ha1 (Wp.brnT hb1 ?_)
      refine Wp.brn (fun h4=>?_) (fun h4=>?_)
      ·
       have h4:=iff_ltb.1 h4
       have h4:(rd0 b' i.val.toNat).val < (rd0 a' i.val.toNat).val:=h4
       have:=f7N hb.dig ha.dig i.val.toNat hd.symm (by omega) (by omega) (by omega)
       rw [ha.val,hb.val] at this
       refine Wp.done ?_
       show _ = _
       unfold c0Z
       rw [if_neg (by omega),if_pos this]
       rfl
      ·
       have h4:=niff_ltb.1 h4
       have h4:(rd0 a' i.val.toNat).val ≤ (rd0 b' i.val.toNat).val:=h4
       have hsi:(I.sub i (I.of .i64 1)).val = i.val - 1:=by rw [a9Z (by omega)]; omega
       refine Wp.again ⟨rfl,rfl,?_,?_,?_⟩ ?_
       ·
        show -1 ≤ (I.sub i (I.of .i64 1)).val; omega
       ·
        show (I.sub i (I.of .i64 1)).val < _; omega
       ·
        show bv (a'.drop ((I.sub i (I.of .i64 1)).val + 1).toNat) = bv (b'.drop ((I.sub i (I.of .i64 1)).val + 1).toNat)
        have e:((I.sub i (I.of .i64 1)).val + 1).toNat = i.val.toNat:=by omega
        rw [e,b8T a',b8T b',hd]
        omega
       ·
        show ((I.sub i (I.of .i64 1)).val + 1).toNat < _
        simp only; omega
    ·
     have h2:=niff_leb.1 h2
     simp only [c0] at h2
     have e:(i.val + 1).toNat = 0:=by omega
     rw [e] at hd
     simp only [List.drop_zero] at hd
     rw [ha.val,hb.val] at hd
     refine Wp.done ?_
     show _ = _
     unfold c0Z
     rw [if_neg (by omega),if_neg (by omega)]
     rfl
   ·
    refine ⟨rfl,rfl,?_,?_,?_⟩
    ·
     show -1 ≤ (I.sub (I.ofNat .i64 (a0G a)) (I.of .i64 1)).val; omega
    ·
     show (I.sub (I.ofNat .i64 (a0G a)) (I.of .i64 1)).val < _; omega
    ·
     show bv (a.drop ((I.sub (I.ofNat .i64 (a0G a)) (I.of .i64 1)).val + 1).toNat) = bv (b.drop ((I.sub (I.ofNat .i64 (a0G a)) (I.of .i64 1)).val + 1).toNat)
     have e:((I.sub (I.ofNat .i64 (a0G a)) (I.of .i64 1)).val + 1).toNat = a.length:=by omega
     rw [e,List.drop_of_length_le (Nat.le_refl _),List.drop_of_length_le (by omega)]
   ·
    exact b8G _ (by show ((I.sub (I.ofNat .i64 (a0G a)) (I.of .i64 1)).val + 1).toNat < _; omega)
 exact key.out
end Sym

/- Limbs of 256 bits; products of 64 bits. -/
namespace Sym
open Go
abbrev W64:Nat:=18446744073709551616
def limb' (a:U) (i:Nat):Nat:=(Arr.sel (I.of .u64 0) 4 a i).nat
theorem g1N (x:I .u64) (n:Nat) (m:I .u64) (hn:n < 64) (hm:m.val = ((2 ^ n - 1:Nat):Int)):(I.and x m).nat = x.nat % 2 ^ n:=by
 have hx:=a6O x
 have h1:(BitVec.ofInt 64 x.val).toNat = x.nat:=by rw [BitVec.toNat_ofInt]; unfold I.nat; omega
 have hp:2 ^ n ≤ 2 ^ 63:=Nat.pow_le_pow_right (by decide) (by omega)
 have h2:(BitVec.ofInt 64 m.val).toNat = 2 ^ n - 1:=by rw [BitVec.toNat_ofInt,hm]; omega
 have h3:(BitVec.ofInt IntKind.u64.bits x.val &&& BitVec.ofInt IntKind.u64.bits m.val).toNat = x.nat % 2 ^ n:=by
  show (BitVec.ofInt 64 x.val &&& BitVec.ofInt 64 m.val).toNat = _
  rw [BitVec.toNat_and,h1,h2,Nat.and_two_pow_sub_one_eq_mod]
 unfold I.and
 rw [h3]
 have h4:x.nat % 2 ^ n < 2 ^ n:=Nat.mod_lt _ (Nat.pow_pos (by decide))
 exact b9F (by omega)
theorem f8Z (x s:I .u64) (hs:s.nat < 64):(I.shr x s).nat = x.nat / 2 ^ s.nat:=by
 have h0:=a6O s
 have hx:=a6O x
 have h:=e8Y x s (by unfold I.nat at hs; omega)
 have e:s.val.toNat = s.nat:=rfl
 rw [e] at h
 have h1:((x.nat / 2 ^ s.nat:Nat):Int) = x.val / (2:Int) ^ s.nat:=by
  rw [Int.natCast_ediv,a2F]
  simp
 have:=a2F (I.shr x s)
 omega
theorem g0N (a b:I .u64):(I.add a b).nat = (a.nat + b.nat) % W64:=by
 have h1:=a2F a
 have h2:=a2F b
 show (IntKind.u64.wrap (a.val + b.val)).toNat = _ % 18446744073709551616
 rw [wrap_u64]
 omega
end Sym

/- Products of 256 bits. -/
namespace Sym
open Go
end Sym

/- Equality and order of 256 bits. -/
namespace Sym
open Go
theorem e2Y (a b:U):Ty.eqb (.arr 4 (.int .u64)) a b = decide (a.val = b.val):=by
 by_cases h:a.val = b.val
 ·
  have:=U.ext h
  subst this
  simp [Ty.eqb,Arr.eqb]
 ·
  simp only [h,decide_false]
  cases hb:Ty.eqb (.arr 4 (.int .u64)) a b with
  | false=>rfl
  | true =>
   exfalso
   apply h
   obtain ⟨a0,a1,a2,a3,⟨⟩⟩:=a
   obtain ⟨b0,b1,b2,b3,⟨⟩⟩:=b
   simp only [Ty.eqb,Arr.eqb,Bool.and_eq_true,decide_eq_true_eq,and_true] at hb
   obtain ⟨h0,h1,h2,h3⟩:=hb
   rw [I.ext' h0,I.ext' h1,I.ext' h2,I.ext' h3]
end Sym

/- Quotients of 512 by 256 bits. -/
namespace Sym
open Go
end Sym

/- Quotients of 512 by 256 bits: the loop. -/
namespace Sym
open Go
theorem f1S (i:Nat):2 ^ i = W64 ^ (i / 64) * 2 ^ (i % 64):=by
 have:W64 = 2 ^ 64:=by decide
 rw [this,← Nat.pow_mul,← Nat.pow_add]
 congr 1
 omega
theorem g8M (a:U) (k:Nat) (hk:k < 4):∃ Y,a.val / W64 ^ k = limb' a k + W64 * Y:=by
 obtain ⟨a0,a1,a2,a3,⟨⟩⟩:=a
 have n0:=a3V a0
 have n1:=a3V a1
 have n2:=a3V a2
 have n3:=a3V a3
 have p0:W64 ^ 0 = 1:=by decide
 have p1:W64 ^ 1 = 18446744073709551616:=by decide
 have p2:W64 ^ 2 = 340282366920938463463374607431768211456:=by decide
 have p3:W64 ^ 3 = 6277101735386680763835789423207666416102355444464034512896:=by decide
 have hc:k = 0 ∨ k = 1 ∨ k = 2 ∨ k = 3:=by omega
 rcases hc with rfl | rfl | rfl | rfl
 ·
  refine ⟨a1.nat + 18446744073709551616 * (a2.nat + 18446744073709551616 * a3.nat),?_⟩
  show U.val _ / W64 ^ 0 = a0.nat + 18446744073709551616 * _
  rw [p0]; unfold U.val; simp only; omega
 ·
  refine ⟨a2.nat + 18446744073709551616 * a3.nat,?_⟩
  show U.val _ / W64 ^ 1 = a1.nat + 18446744073709551616 * _
  rw [p1]; unfold U.val; simp only; omega
 ·
  refine ⟨a3.nat,?_⟩
  show U.val _ / W64 ^ 2 = a2.nat + 18446744073709551616 * _
  rw [p2]; unfold U.val; simp only; omega
 ·
  refine ⟨0,?_⟩
  show U.val _ / W64 ^ 3 = a3.nat + 18446744073709551616 * _
  rw [p3]; unfold U.val; simp only; omega
theorem g4A (a:U) (i:Nat) (hi:i < 256):a.val / 2 ^ i % 2 = limb' a (i / 64) / 2 ^ (i % 64) % 2:=by
 obtain ⟨Y,hY⟩:=g8M a (i / 64) (by omega)
 rw [f1S i,← Nat.div_div_eq_div_mul,hY]
 have e:W64 = 2 ^ (i % 64) * (2 * 2 ^ (63 - i % 64)):=by
  have:2 * 2 ^ (63 - i % 64) = 2 ^ (64 - i % 64):=by rw [show 64 - i % 64 = (63 - i % 64) + 1 by omega,Nat.pow_succ,Nat.mul_comm]
  rw [this,← Nat.pow_add,show i % 64 + (64 - i % 64) = 64 by omega]
 rw [e,Nat.mul_assoc,Nat.add_mul_div_left _ _ (Nat.pow_pos (by decide)),Nat.mul_assoc,Nat.add_mul_mod_self_left]
end Sym

/- Quotients of 512 by 256 bits: what they are. -/
namespace Sym
open Go
theorem f9J:U.top = 2 ^ 256:=by decide
end Sym

/- The law of the gas price's bounds, of the plain functions. -/
namespace Sym
open Go
def e3X (t:U × U) (base:U):U × I .i64 :=
 if base.val ≤ t.1.val then (U.of (base.val + min t.2.val (t.1.val - base.val)),I.of .i64 0) else (U.of 0,I.of .i64 12)
end Sym

/- The law of the charge's total. -/
namespace Sym
open Go
theorem c6E {n:Nat} (h:n < U.top):c5H n = (U.of n,I.of .i64 0):=if_pos h
theorem d7I {n:Nat} (h:U.top ≤ n):c5H n = (U.of 0,I.of .i64 4):=if_neg (by omega)
theorem a9L {l:List Dg} {n:Nat} (h:IsB l n) (k:Nat) (hn:n < 65536 ^ k) (hk:k ≤ 1000000):l.length ≤ 1000000:=Nat.le_trans (h.len.2 hn) hk
theorem f0H:U.top = 65536 ^ 16:=by decide
theorem c0V {l:List Dg} {a:U} (h:IsB l a.val):l.length ≤ 1000000:=a9L h 16 (by rw [← f0H]; exact a.lt) (by decide)
end Sym

/- Products of 512 bits and shares of them. -/
namespace Sym
open Go
theorem f5X (n b:Nat) (hb:b ≤ 10000):n * b / 10000 ≤ n:=by
 have h1:n * b ≤ n * 10000:=Nat.mul_le_mul_left _ hb
 exact Nat.div_le_of_le_mul (by rw [Nat.mul_comm 10000 n]; exact h1)
end Sym

/- Sums that stop at the top; numbers by shape. -/
namespace Sym
open Go
theorem c6M (x n:I .i64) (h:0 < n.val):∃ y:I .i64,a5W K0 ((x,n,()),()) = some ((y,()),())∧0 ≤ y.val∧y.val < n.val:=by
 have hn:=b5D n
 have e:(I.conv .u64 n).val = n.val:=b9A ⟨by omega,by omega⟩
 have hx:=a6O (I.conv .u64 x)
 have er:(I.rem (I.conv .u64 x) (I.conv .u64 n)).val = (I.conv .u64 x).val % n.val:=by rw [f1W (by omega),e]
 have h3:=Int.emod_nonneg (I.conv .u64 x).val (b:=n.val) (by omega)
 have h4:=Int.emod_lt_of_pos (I.conv .u64 x).val (b:=n.val) (by omega)
 have ec:(I.conv .i64 (I.rem (I.conv .u64 x) (I.conv .u64 n))).val = (I.conv .u64 x).val % n.val:=by
  show (I.of .i64 _).val = _
  rw [er]
  exact b7K ⟨by omega,by omega⟩
 refine ⟨I.conv .i64 (I.rem (I.conv .u64 x) (I.conv .u64 n)),?_,by omega,by omega⟩
 refine Wp.out (T:=fun o=>o = _) ?_
 unfold a5W
 refine Wp.brnT (iff_nz.2 ?_) rfl
 show (I.conv .u64 n).val ≠ 0
 omega
end Sym

/- The law of the gas price's bounds: bytes, numbers, the law. -/
namespace Sym
open Go
theorem b5Y {X:Type} (l:List X) (x:X):(a2D l [x]).length = l.length + 1:=by simp [a2D]
theorem c7C (v:List (I .i64)) (hv:v.length ≤ 1000):∃ out:List (I .u8),a4H K0 ((v,()),()) = some ((out,()),())∧out.length ≤ 24 * v.length:=by
 have key:Wp (fun o=>∃ out:List (I .u8),o = some ((out,()),())∧out.length ≤ 24 * v.length) (a4H K0 ((v,()),())):=by
  have c1:(I.of .i64 1).val = 1:=rfl
  have c8:(I.of .i64 8).val = 8:=rfl
  have c24:(I.of .i64 24).val = 24:=rfl
  have c64:(I.of .i64 64).val = 64:=rfl
  have c20:(I.of .i64 1048576).val = 1048576:=rfl
  have c0:(I.of .i64 0).val = 0:=rfl
  have hlen:(I.ofNat .i64 (a0G v)).val = v.length:=a3F (by show v.length < _; omega)
  unfold a4H
  refine Wp.iter (fun x=>x.1.1 = v∧0 ≤ x.1.2.1.val∧x.1.2.1.val ≤ (v.length:Int)∧(x.2.1.length:Int) ≤ 24 * x.1.2.1.val) (fun x=>((v.length:Int) - x.1.2.1.val).toNat) ?_ ?_ ?_
  ·
   rintro ⟨⟨l,i,⟨⟩⟩,out,⟨⟩⟩ ⟨hl,hi0,hi1,ho⟩
   simp only at hl hi0 hi1 ho
   subst hl
   refine Wp.brn (fun h=>?_) (fun h=>?_)
   ·
    have h:=iff_ltb.1 h
    simp only [hlen] at h
    have hstep:(I.add i (I.of .i64 1)).val = i.val + 1:=by rw [a5Q (by omega)]; omega
    refine Wp.brnT (iff_inB.2 ⟨hi0,by simpa [a0G] using h⟩) ?_
    obtain ⟨y,hy,hy0,hy1⟩:=c6M (rdL (I.of .i64 0) l (I.nat i)) (I.of .i64 1048576) (by decide)
    refine Wp.optF hy ?_
    have q8:(I.quo y (I.of .i64 8)).val = y.val / 8:=b7H hy0 (by decide)
    have r24:(I.rem (I.quo y (I.of .i64 8)) (I.of .i64 24)).val = y.val / 8 % 24:=by rw [b6F (by omega) (by decide),q8]; rfl
    have hn:(I.add (I.of .i64 1) (I.rem (I.quo y (I.of .i64 8)) (I.of .i64 24))).val = 1 + y.val / 8 % 24:=by rw [a5Q (by omega)]; omega
    have hn2:1 ≤ (I.add (I.of .i64 1) (I.rem (I.quo y (I.of .i64 8)) (I.of .i64 24))).val∧(I.add (I.of .i64 1) (I.rem (I.quo y (I.of .i64 8)) (I.of .i64 24))).val ≤ 24:=by omega
    generalize I.add (I.of .i64 1) (I.rem (I.quo y (I.of .i64 8)) (I.of .i64 24)) = n at hn2
    refine Wp.jn (fun x=>x.1.1 = l∧x.1.2.1 = i∧x.1.2.2.1 = y∧x.1.2.2.2.1 = n∧x.2.1 = out) ?_ ?_
    ·
     rintro ⟨⟨l',i',y',n',m,b,⟨⟩⟩,out',⟨⟩⟩ ⟨e1,e2,e3,e4,e5⟩
     simp only at e1 e2 e3 e4 e5
     subst e1 e2 e3 e4 e5
     refine Wp.brn (fun _=>?_) (fun _=>?_)
     ·
      refine Wp.iter (fun x=>x.1.1 = l'∧x.1.2.1 = i'∧x.1.2.2.2.1 = n'∧0 ≤ x.1.2.2.2.2.1.val∧x.1.2.2.2.2.1.val ≤ n'.val∧(x.2.1.length:Int) ≤ 24 * i'.val + x.1.2.2.2.2.1.val) (fun x=>(n'.val - x.1.2.2.2.2.1.val).toNat) ?_ ⟨rfl,rfl,rfl,by show 0 ≤ (I.of .i64 0).val; decide,by show (I.of .i64 0).val ≤ n'.val; omega,by show (out'.length:Int) ≤ 24 * i'.val + (I.of .i64 0).val; omega⟩ (by rw [a6G]; show (n'.val - (I.of .i64 0).val).toNat < _; omega)
      rintro ⟨⟨l2,i2,y2,n2,j,⟨⟩⟩,out2,⟨⟩⟩ ⟨e1,e2,e3,hj0,hj1,ho2⟩
      simp only at e1 e2 e3 hj0 hj1 ho2
      subst e1 e2 e3
      refine Wp.brn (fun h=>?_) (fun h=>?_)
      ·
       have h:=iff_ltb.1 h
       simp only at h
       have hj:(I.add j (I.of .i64 1)).val = j.val + 1:=by rw [a5Q (by omega)]; omega
       refine Wp.brnT (iff_fits.2 ?_) ?_
       ·
        show (a2D out2 [_]).length ≤ _
        rw [b5Y]; omega
       ·
        refine Wp.again ⟨rfl,rfl,rfl,?_,?_,?_⟩ ?_
        ·
         show 0 ≤ (I.add j (I.of .i64 1)).val; omega
        ·
         show (I.add j (I.of .i64 1)).val ≤ _; omega
        ·
         show ((a2D out2 [_]).length:Int) ≤ _ + (I.add j (I.of .i64 1)).val
         rw [b5Y]; omega
        ·
         show (_ - (I.add j (I.of .i64 1)).val).toNat < _
         simp only; omega
      ·
       refine Wp.done (Wp.again ⟨rfl,?_,?_,?_⟩ ?_)
       ·
        show 0 ≤ (I.add i2 (I.of .i64 1)).val; omega
       ·
        show (I.add i2 (I.of .i64 1)).val ≤ _; omega
       ·
        show (out2.length:Int) ≤ 24 * (I.add i2 (I.of .i64 1)).val; omega
       ·
        show (_ - (I.add i2 (I.of .i64 1)).val).toNat < _
        simp only; omega
     ·
      refine Wp.jn (fun x=>x.1.1 = l'∧x.1.2.1 = i'∧x.1.2.2.1 = y'∧x.1.2.2.2.1 = n'∧x.2.1 = out') ?_ ?_
      ·
       rintro ⟨⟨l3,i3,y3,n3,b3,⟨⟩⟩,out3,⟨⟩⟩ ⟨e1,e2,e3,e4,e5⟩
       simp only at e1 e2 e3 e4 e5
       subst e1 e2 e3 e4 e5
       refine Wp.brn (fun _=>?_) (fun _=>?_)
       ·
        refine Wp.jn (fun x=>x.1.1 = l3∧x.1.2.1 = i3∧x.1.2.2.1 = n3∧x.2.1 = out3∧0 ≤ x.1.2.2.2.1.val∧x.1.2.2.2.1.val ≤ 24 * (l3.length:Int)) ?_ ?_
        ·
         rintro ⟨⟨l4,i4,n4,fr,⟨⟩⟩,out4,⟨⟩⟩ ⟨e1,e2,e4,e5,hf0,hf1⟩
         simp only at e1 e2 e4 e5 hf0 hf1
         subst e1 e2 e4 e5
         refine Wp.iter (fun x=>x.1.1 = l4∧x.1.2.1 = i4∧x.1.2.2.1 = n4∧x.1.2.2.2.1 = fr∧0 ≤ x.1.2.2.2.2.1.val∧x.1.2.2.2.2.1.val ≤ n4.val∧(x.2.1.length:Int) ≤ 24 * i4.val + x.1.2.2.2.2.1.val) (fun x=>(n4.val - x.1.2.2.2.2.1.val).toNat) ?_ ⟨rfl,rfl,rfl,rfl,by show 0 ≤ (I.of .i64 0).val; decide,by show (I.of .i64 0).val ≤ n4.val; omega,by show (out4.length:Int) ≤ 24 * i4.val + (I.of .i64 0).val; omega⟩ (by rw [a6G]; show (n4.val - (I.of .i64 0).val).toNat < _; omega)
         rintro ⟨⟨l2,i2,n2,f2,j,⟨⟩⟩,out2,⟨⟩⟩ ⟨e1,e2,e3,e4,hj0,hj1,ho2⟩
         simp only at e1 e2 e3 e4 hj0 hj1 ho2
         subst e1 e2 e3 e4
         have o1:0 ≤ (I.add i2 (I.of .i64 1)).val:=by omega
         have o2:(I.add i2 (I.of .i64 1)).val ≤ (l2.length:Int):=by omega
         have o3:(out2.length:Int) ≤ 24 * (I.add i2 (I.of .i64 1)).val:=by omega
         have o4:((l2.length:Int) - (I.add i2 (I.of .i64 1)).val).toNat < ((l2.length:Int) - i2.val).toNat:=by omega
         refine Wp.brn (fun h=>?_) (fun h=>Wp.done (Wp.again ⟨rfl,o1,o2,o3⟩ o4))
         have h:=iff_ltb.1 h
         simp only at h
         have hj:(I.add j (I.of .i64 1)).val = j.val + 1:=by rw [a5Q (by omega)]; omega
         have hfj:(I.add f2 j).val = f2.val + j.val:=by rw [a5Q (by omega)]
         have hol:(I.ofNat .i64 (a0G out2)).val = out2.length:=a3F (by show out2.length < _; omega)
         refine Wp.brn (fun h2=>?_) (fun h2=>Wp.done (Wp.again ⟨rfl,o1,o2,o3⟩ o4))
         have h2:=iff_ltb.1 h2
         simp only [hfj,hol] at h2
         refine Wp.brnT (iff_inB.2 ⟨by show 0 ≤ (I.add f2 j).val; omega,by show (I.add f2 j).val < (out2.length:Int); omega⟩) ?_
         refine Wp.brnT (iff_fits.2 ?_) ?_
         ·
          show (a2D out2 [_]).length ≤ _
          rw [b5Y]; omega
         ·
          refine Wp.again ⟨rfl,rfl,rfl,rfl,?_,?_,?_⟩ ?_
          ·
           show 0 ≤ (I.add j (I.of .i64 1)).val; omega
          ·
           show (I.add j (I.of .i64 1)).val ≤ _; omega
          ·
           show ((a2D out2 [_]).length:Int) ≤ _ + (I.add j (I.of .i64 1)).val
           rw [b5Y]; omega
          ·
           show (_ - (I.add j (I.of .i64 1)).val).toNat < _
           simp only; omega
        ·
         intro j4 hj4
         have hol:(I.ofNat .i64 (a0G out3)).val = out3.length:=a3F (by show out3.length < _; omega)
         refine Wp.brn (fun h=>?_) (fun h=>?_)
         ·
          have h:=iff_ltb.1 h
          simp only [hol] at h
          refine Wp.brnT (iff_nz.2 ?_) ?_
          ·
           show (I.ofNat .i64 (a0G out3)).val ≠ 0
           omega
          ·
           have q64:(I.quo y3 (I.of .i64 64)).val = y3.val / 64:=b7H hy0 (by decide)
           have hr:(I.rem (I.quo y3 (I.of .i64 64)) (I.ofNat .i64 (a0G out3))).val = y3.val / 64 % out3.length:=by rw [b6F (by omega) (by omega),q64,hol]
           refine hj4 _ ⟨rfl,rfl,rfl,rfl,?_,?_⟩
           ·
            show 0 ≤ (I.rem (I.quo y3 (I.of .i64 64)) (I.ofNat .i64 (a0G out3))).val
            rw [hr]
            exact Int.emod_nonneg _ (by omega)
           ·
            show (I.rem (I.quo y3 (I.of .i64 64)) (I.ofNat .i64 (a0G out3))).val ≤ _
            rw [hr]
            have:=Int.emod_lt_of_pos (y3.val / 64) (b:=(out3.length:Int)) (by omega)
            omega
         ·
          refine hj4 _ ⟨rfl,rfl,rfl,rfl,?_,?_⟩
          ·
           show 0 ≤ (I.of .i64 0).val; omega
          ·
           show (I.of .i64 0).val ≤ _; omega
       ·
        refine Wp.iter (fun x=>x.1.1 = l3∧x.1.2.1 = i3∧x.1.2.2.2.1 = n3∧0 ≤ x.1.2.2.2.2.1.val∧x.1.2.2.2.2.1.val ≤ n3.val∧(x.2.1.length:Int) ≤ 24 * i3.val + x.1.2.2.2.2.1.val) (fun x=>(n3.val - x.1.2.2.2.2.1.val).toNat) ?_ ⟨rfl,rfl,rfl,by show 0 ≤ (I.of .i64 0).val; decide,by show (I.of .i64 0).val ≤ n3.val; omega,by show (out3.length:Int) ≤ 24 * i3.val + (I.of .i64 0).val; omega⟩ (by rw [a6G]; show (n3.val - (I.of .i64 0).val).toNat < _; omega)
        rintro ⟨⟨l2,i2,y2,n2,j,⟨⟩⟩,out2,⟨⟩⟩ ⟨e1,e2,e3,hj0,hj1,ho2⟩
        simp only at e1 e2 e3 hj0 hj1 ho2
        subst e1 e2 e3
        refine Wp.brn (fun h=>?_) (fun h=>?_)
        ·
         have h:=iff_ltb.1 h
         simp only at h
         have hj:(I.add j (I.of .i64 1)).val = j.val + 1:=by rw [a5Q (by omega)]; omega
         refine Wp.brnT (c3B _) ?_
         refine Wp.brnT (iff_fits.2 ?_) ?_
         ·
          show (a2D out2 [_]).length ≤ _
          rw [b5Y]; omega
         ·
          refine Wp.again ⟨rfl,rfl,rfl,?_,?_,?_⟩ ?_
          ·
           show 0 ≤ (I.add j (I.of .i64 1)).val; omega
          ·
           show (I.add j (I.of .i64 1)).val ≤ _; omega
          ·
           show ((a2D out2 [_]).length:Int) ≤ _ + (I.add j (I.of .i64 1)).val
           rw [b5Y]; omega
          ·
           show (_ - (I.add j (I.of .i64 1)).val).toNat < _
           simp only; omega
        ·
         refine Wp.done (Wp.again ⟨rfl,?_,?_,?_⟩ ?_)
         ·
          show 0 ≤ (I.add i2 (I.of .i64 1)).val; omega
         ·
          show (I.add i2 (I.of .i64 1)).val ≤ _; omega
         ·
          show (out2.length:Int) ≤ 24 * (I.add i2 (I.of .i64 1)).val; omega
         ·
          show (_ - (I.add i2 (I.of .i64 1)).val).toNat < _
          simp only; omega
      ·
       intro j3 hj3
       refine Wp.brn (fun _=>hj3 _ ⟨rfl,rfl,rfl,rfl,rfl⟩) (fun _=>Wp.brn (fun _=>hj3 _ ⟨rfl,rfl,rfl,rfl,rfl⟩) (fun _=>hj3 _ ⟨rfl,rfl,rfl,rfl,rfl⟩))
    ·
     intro j2 hj2
     exact Wp.brn (fun _=>hj2 _ ⟨rfl,rfl,rfl,rfl,rfl⟩) (fun _=>hj2 _ ⟨rfl,rfl,rfl,rfl,rfl⟩)
   ·
    exact Wp.done ⟨out,rfl,by omega⟩
  ·
   exact ⟨rfl,by show 0 ≤ (I.of .i64 0).val; decide,by show (I.of .i64 0).val ≤ (v.length:Int); omega,by show (([]:List (I .u8)).length:Int) ≤ 24 * (I.of .i64 0).val; simp [c0]⟩
  ·
   rw [a6G]
   show ((v.length:Int) - (I.of .i64 0).val).toNat < _
   omega
 exact key.out
end Sym

/- What is built of numbers; for the law of the gas price's bounds. -/
namespace Sym
open Go
end Sym

/- Natural numbers by digits of 65536: products, and quotients by one digit. -/
namespace Sym
open Go
theorem e9Z:∀ (l:List Dg) (i:Nat) (d:Dg),i < l.length→bv (l.set i d) + 65536 ^ i * (rd0 l i).nat = bv l + 65536 ^ i * d.nat
 | [],_,_,h=>by simp at h
 | x :: l,0,d,_=>by simp [bv,rd0,rdL]; omega
 | x :: l,i + 1,d,h=>by
  have ih:=e9Z l i d (by simpa using h)
  simp only [List.set_cons_succ,bv,Nat.pow_succ,rd0,rdL] at *
  have e1:65536 ^ i * 65536 * (rdL (I.of .i64 0) l i).nat = 65536 * (65536 ^ i * (rdL (I.of .i64 0) l i).nat):=by rw [Nat.mul_comm (65536 ^ i) 65536,Nat.mul_assoc]
  have e2:65536 ^ i * 65536 * d.nat = 65536 * (65536 ^ i * d.nat):=by rw [Nat.mul_comm (65536 ^ i) 65536,Nat.mul_assoc]
  rw [e1,e2]
  omega
theorem c7Z (l:List Dg) (i j:Nat) (d:Dg) (h:i ≠ j):rd0 (l.set i d) j = rd0 l j:=by
 unfold rd0
 rcases Nat.lt_or_ge j l.length with hj | hj
 ·
  rw [a4N _ _ _ (by simpa using hj),a4N _ _ _ hj,List.getElem_set_ne h]
 ·
  rw [c4H _ _ _ (by simpa using hj),c4H _ _ _ hj]
theorem d7L:∀ (n i:Nat),(rd0 (c0C n (I.of .i64 0)) i).nat = 0
 | 0,i=>rfl
 | n + 1,0=>rfl
 | n + 1,i + 1=>d7L n i
theorem d5G:∀ (n:Nat),bv (c0C n (I.of .i64 0)) = 0
 | 0=>rfl
 | n + 1=>by simp [c0C,bv,d5G n]; rfl
structure MulInv (a b:List Dg) (i k:Nat) (over:Nat) (out:List Dg):Prop where
 len:out.length = a.length + b.length
 dig:b9X out
 zero:∀ j,i + b.length ≤ j→(rd0 out j).nat = 0
 eq:bv out + 65536 ^ (i + k) * over = bv (a.take i) * bv b + (rd0 a i).nat * 65536 ^ i * bv (b.take k)
theorem f3K {a b:List Dg} {i k over:Nat} {out:List Dg} (h:MulInv a b i k over out) (hi:i < a.length) (hk:k < b.length) (d:Dg) (ov:Nat) (hd:DigOk d)
  (hs:d.nat + 65536 * ov = over + (rd0 out (i + k)).nat + (rd0 a i).nat * (rd0 b k).nat):MulInv a b i (k + 1) ov (out.set (i + k) d):=by
 refine ⟨by simpa using h.len,c2W h.dig _ hd,fun j hj=>?_,?_⟩
 ·
  rw [c7Z _ _ _ _ (by omega)]; exact h.zero j hj
 ·
  have hset:=e9Z out (i + k) d (by rw [h.len]; omega)
  have heq:=h.eq
  rw [c4S b k]
  have e1:(rd0 a i).nat * 65536 ^ i * (bv (b.take k) + 65536 ^ k * (rd0 b k).nat) = (rd0 a i).nat * 65536 ^ i * bv (b.take k) + 65536 ^ (i + k) * ((rd0 a i).nat * (rd0 b k).nat):=by
   rw [Nat.mul_add,Nat.pow_add]
   congr 1
   simp only [Nat.mul_comm,Nat.mul_left_comm,Nat.mul_assoc]
  have e2:65536 ^ (i + (k + 1)) * ov = 65536 ^ (i + k) * (65536 * ov):=by rw [← Nat.add_assoc,Nat.pow_succ,Nat.mul_assoc]
  have e3:=congrArg (fun t=>65536 ^ (i + k) * t) hs
  simp only [Nat.mul_add] at e3
  rw [e1,e2]
  omega
theorem f6Z {a b:List Dg} {i over:Nat} {out:List Dg} (h:MulInv a b i b.length over out) (hi:i < a.length) (d:Dg) (hd:DigOk d) (hv:d.nat = over):MulInv a b (i + 1) 0 0 (out.set (i + b.length) d):=by
 refine ⟨by simpa using h.len,c2W h.dig _ hd,fun j hj=>?_,?_⟩
 ·
  rw [c7Z _ _ _ _ (by omega)]; exact h.zero j (by omega)
 ·
  have hset:=e9Z out (i + b.length) d (by rw [h.len]; omega)
  have hz:=h.zero (i + b.length) (Nat.le_refl _)
  have heq:=h.eq
  rw [hz,Nat.mul_zero,Nat.add_zero,hv] at hset
  rw [List.take_length] at heq
  rw [c4S a i,Nat.add_mul]
  have e:65536 ^ i * (rd0 a i).nat * bv b = (rd0 a i).nat * 65536 ^ i * bv b:=by rw [Nat.mul_comm (65536 ^ i)]
  simp only [List.take_zero,bv,Nat.mul_zero,Nat.add_zero]
  rw [e]
  omega
theorem b2O {a b:List Dg} {m n:Nat} (ha:IsB a m) (hb:IsB b n) (hal:a.length ≤ 1000000) (hbl:b.length ≤ 1000000):∃ r,a2C K0 ((a,b,()),()) = some ((r,()),())∧IsB r (m * n):=by
 have hol:(I.ofNat .i64 (a0G a)).val = a.length:=a3F (by show a.length < _; omega)
 have hol2:(I.ofNat .i64 (a0G b)).val = b.length:=a3F (by show b.length < _; omega)
 have c0:(I.of .i64 0).val = 0:=rfl
 have c1:(I.of .i64 1).val = 1:=rfl
 have hadd:(I.add (I.ofNat .i64 (a0G a)) (I.ofNat .i64 (a0G b))).val = a.length + b.length:=by rw [a5Q (by omega),hol,hol2]
 have hn:I.nat (I.add (I.ofNat .i64 (a0G a)) (I.ofNat .i64 (a0G b))) = a.length + b.length:=by unfold I.nat; omega
 have key:Wp (fun o=>∃ r,o = some ((r,()),())∧IsB r (m * n)) (a2C K0 ((a,b,()),())):=by
  unfold a2C
  refine Wp.brnT ?_ (Wp.brnT ?_ ?_)
  ·
   show (decide (0 ≤ (I.add (I.ofNat .i64 (a0G a)) (I.ofNat .i64 (a0G b))).val) && decide ((I.add (I.ofNat .i64 (a0G a)) (I.ofNat .i64 (a0G b))).val ≤ ((I.nat (I.add (I.ofNat .i64 (a0G a)) (I.ofNat .i64 (a0G b))):Nat):Int))) = true
   rw [hn,hadd]; simp; omega
  ·
   show (decide (0 ≤ (I.add (I.ofNat .i64 (a0G a)) (I.ofNat .i64 (a0G b))).val) && decide ((I.add (I.ofNat .i64 (a0G a)) (I.ofNat .i64 (a0G b))).val ≤ ((1073741824:Nat):Int))) = true
   rw [hadd]; simp; omega
  refine Wp.iter (fun x=>x.1.1 = a∧x.1.2.1 = b∧0 ≤ x.1.2.2.1.val∧x.1.2.2.1.val ≤ (a.length:Int)∧MulInv a b x.1.2.2.1.val.toNat 0 0 x.2.1) (fun x=>((a.length:Int) - x.1.2.2.1.val).toNat) ?_ ?_ ?_
  ·
   rintro ⟨⟨a',b',i,⟨⟩⟩,out0,⟨⟩⟩ ⟨e1,e2,hi0,hi1,hI⟩
   simp only at e1 e2 hi0 hi1 hI
   subst e1 e2
   refine Wp.brn (fun h=>?_) (fun h=>?_)
   ·
    have hlt:=iff_ltb.1 h
    simp only [hol] at hlt
    clear h
    have si:(I.add i (I.of .i64 1)).val = i.val + 1:=by rw [a5Q (by omega)]; omega
    have sin:(I.add i (I.of .i64 1)).val.toNat = i.val.toNat + 1:=by omega
    have hmi:((a'.length:Int) - (I.add i (I.of .i64 1)).val).toNat < ((a'.length:Int) - i.val).toNat:=by omega
    refine Wp.iter (fun x=>x.1.1 = a'∧x.1.2.1 = b'∧x.1.2.2.1 = i∧0 ≤ x.1.2.2.2.1.val∧x.1.2.2.2.1.val < 65536∧0 ≤ x.1.2.2.2.2.1.val∧x.1.2.2.2.2.1.val ≤ (b'.length:Int)∧MulInv a' b' i.val.toNat x.1.2.2.2.2.1.val.toNat (I.nat (k:=.i64) x.1.2.2.2.1) x.2.1) (fun x=>((b'.length:Int) - x.1.2.2.2.2.1.val).toNat) ?_ ?_ ?_
    ·
     rintro ⟨⟨a2,b2,i2,over,k,⟨⟩⟩,out,⟨⟩⟩ ⟨e1,e2,e3,ho0,ho1,hk0,hk1,hinv⟩
     simp only at e1 e2 e3 ho0 ho1 hk0 hk1 hinv
     subst e1 e2 e3
     have hlen:=hinv.len
     refine Wp.brn (fun h=>?_) (fun h=>?_)
     ·
      have hkl:=iff_ltb.1 h
      simp only [hol2] at hkl
      clear h
      have sk:(I.add k (I.of .i64 1)).val = k.val + 1:=by rw [a5Q (by omega)]; omega
      have skn:(I.add k (I.of .i64 1)).val.toNat = k.val.toNat + 1:=by omega
      have sik:(I.add i2 k).val = i2.val + k.val:=a5Q (by omega)
      have nik:I.nat (I.add i2 k) = i2.val.toNat + k.val.toNat:=by unfold I.nat; omega
      have hmk:((b2.length:Int) - (I.add k (I.of .i64 1)).val).toNat < ((b2.length:Int) - k.val).toNat:=by omega
      have bik:inB (I.add i2 k) (a0G out) = true:=iff_inB.2 ⟨by omega,by show (I.add i2 k).val < ((out.length:Nat):Int); omega⟩
      refine Wp.brnT bik (Wp.brnT (iff_inB.2 ⟨hi0,by show i2.val < ((a2.length:Nat):Int); omega⟩) (Wp.brnT (iff_inB.2 ⟨hk0,by show k.val < ((b2.length:Nat):Int); omega⟩) (Wp.brnT bik ?_)))
      have da:=b5H ha.dig i2.val.toNat
      have db:=b5H hb.dig k.val.toNat
      have dq:=b5H hinv.dig (i2.val.toNat + k.val.toNat)
      have na:=da.nat
      have nb:=db.nat
      have nq:=dq.nat
      unfold DigOk at da db dq
      have hprod:(rd0 a2 i2.val.toNat).val * (rd0 b2 k.val.toNat).val = (((rd0 a2 i2.val.toNat).nat * (rd0 b2 k.val.toNat).nat:Nat):Int):=by rw [Int.natCast_mul,na.1,nb.1]
      have hple:(rd0 a2 i2.val.toNat).nat * (rd0 b2 k.val.toNat).nat ≤ 65535 * 65535:=Nat.mul_le_mul (by omega) (by omega)
      have hm1:(I.mul (rd0 a2 i2.val.toNat) (rd0 b2 k.val.toNat)).val = (((rd0 a2 i2.val.toNat).nat * (rd0 b2 k.val.toNat).nat:Nat):Int):=by rw [c3Q (by rw [hprod]; omega),hprod]
      have hs1:(I.add over (rd0 out (i2.val.toNat + k.val.toNat))).val = over.val + (rd0 out (i2.val.toNat + k.val.toNat)).val:=a5Q (by omega)
      have hs2:(I.add (I.add over (rd0 out (i2.val.toNat + k.val.toNat))) (I.mul (rd0 a2 i2.val.toNat) (rd0 b2 k.val.toNat))).val = over.val + (rd0 out (i2.val.toNat + k.val.toNat)).val + (((rd0 a2 i2.val.toNat).nat * (rd0 b2 k.val.toNat).nat:Nat):Int):=by rw [a5Q (by rw [hs1,hm1]; omega),hs1,hm1]
      generalize hS:I.add (I.add over (rd0 out (i2.val.toNat + k.val.toNat))) (I.mul (rd0 a2 i2.val.toNat) (rd0 b2 k.val.toNat)) = s at hs2
      have hsh:=c8J s (by omega)
      have han:=e1S s (by omega)
      have hdig:DigOk (I.and s (I.of .i64 65535)):=by unfold DigOk; omega
      have hon:(over.nat:Int) = over.val:=by unfold I.nat; omega
      have st:=f3K hinv (by omega) (by omega) (I.and s (I.of .i64 65535)) (I.shr s (I.of .u64 16)).nat hdig (by
       have h1:=hdig.nat
       have h2:((I.shr s (I.of .u64 16)).nat:Int) = (I.shr s (I.of .u64 16)).val:=by unfold I.nat; omega
       omega)
      refine Wp.again ⟨rfl,rfl,rfl,?_,?_,?_,?_,?_⟩ hmk
      ·
       show 0 ≤ (I.shr (I.add (I.add over (rd0 out (I.nat (I.add i2 k)))) (I.mul (rd0 a2 (I.nat i2)) (rd0 b2 (I.nat k)))) (I.of .u64 16)).val
       rw [nik]
       show 0 ≤ (I.shr (I.add (I.add over (rd0 out (i2.val.toNat + k.val.toNat))) (I.mul (rd0 a2 i2.val.toNat) (rd0 b2 k.val.toNat))) (I.of .u64 16)).val
       rw [hS]; omega
      ·
       show (I.shr (I.add (I.add over (rd0 out (I.nat (I.add i2 k)))) (I.mul (rd0 a2 (I.nat i2)) (rd0 b2 (I.nat k)))) (I.of .u64 16)).val < 65536
       rw [nik]
       show (I.shr (I.add (I.add over (rd0 out (i2.val.toNat + k.val.toNat))) (I.mul (rd0 a2 i2.val.toNat) (rd0 b2 k.val.toNat))) (I.of .u64 16)).val < 65536
       rw [hS]; omega
      ·
       show 0 ≤ (I.add k (I.of .i64 1)).val; omega
      ·
       show (I.add k (I.of .i64 1)).val ≤ _; omega
      ·
       show MulInv a2 b2 i2.val.toNat (I.add k (I.of .i64 1)).val.toNat (I.nat (I.shr (I.add (I.add over (rd0 out (I.nat (I.add i2 k)))) (I.mul (rd0 a2 (I.nat i2)) (rd0 b2 (I.nat k)))) (I.of .u64 16))) (setAt out (I.nat (I.add i2 k)) (I.and (I.add (I.add over (rd0 out (I.nat (I.add i2 k)))) (I.mul (rd0 a2 (I.nat i2)) (rd0 b2 (I.nat k)))) (I.of .i64 65535)))
       rw [nik,skn,a7X]
       show MulInv a2 b2 i2.val.toNat (k.val.toNat + 1) (I.nat (I.shr (I.add (I.add over (rd0 out (i2.val.toNat + k.val.toNat))) (I.mul (rd0 a2 i2.val.toNat) (rd0 b2 k.val.toNat))) (I.of .u64 16))) (out.set (i2.val.toNat + k.val.toNat) (I.and (I.add (I.add over (rd0 out (i2.val.toNat + k.val.toNat))) (I.mul (rd0 a2 i2.val.toNat) (rd0 b2 k.val.toNat))) (I.of .i64 65535)))
       rw [hS]; exact st
     ·
      have h:=niff_ltb.1 h
      simp only [hol2] at h
      have hk:k.val.toNat = b2.length:=by omega
      rw [hk] at hinv
      have sib:(I.add i2 (I.ofNat .i64 (a0G b2))).val = i2.val + b2.length:=by rw [a5Q (by omega),hol2]
      have nib:I.nat (I.add i2 (I.ofNat .i64 (a0G b2))) = i2.val.toNat + b2.length:=by unfold I.nat; omega
      refine Wp.done (Wp.brnT (iff_inB.2 ⟨by show 0 ≤ (I.add i2 (I.ofNat .i64 (a0G b2))).val; omega,by show (I.add i2 (I.ofNat .i64 (a0G b2))).val < ((out.length:Nat):Int); omega⟩) ?_)
      have st:=f6Z hinv (by omega) over ⟨ho0,ho1⟩ rfl
      refine Wp.again ⟨rfl,rfl,?_,?_,?_⟩ hmi
      ·
       show 0 ≤ (I.add i2 (I.of .i64 1)).val; omega
      ·
       show (I.add i2 (I.of .i64 1)).val ≤ _; omega
      ·
       show MulInv a2 b2 (I.add i2 (I.of .i64 1)).val.toNat 0 0 (setAt out (I.nat (I.add i2 (I.ofNat .i64 (a0G b2)))) over)
       rw [sin,nib,a7X]
       exact st
    ·
     refine ⟨rfl,rfl,rfl,by show 0 ≤ (I.of .i64 0).val; decide,by show (I.of .i64 0).val < 65536; decide,by show 0 ≤ (I.of .i64 0).val; decide,by show (I.of .i64 0).val ≤ (b'.length:Int); omega,?_⟩
     exact hI
    ·
     exact b8G _ (by show ((b'.length:Int) - (I.of .i64 0).val).toNat < _; omega)
   ·
    have h:=niff_ltb.1 h
    simp only [hol] at h
    have hi:i.val.toNat = a'.length:=by omega
    rw [hi] at hI
    have heq:=hI.eq
    rw [List.take_length,Nat.mul_zero,Nat.add_zero,List.take_zero] at heq
    have hlen:=hI.len
    obtain ⟨r,hr,hB⟩:=d5F out0 hI.dig (by omega)
    refine Wp.done (Wp.optF hr ⟨r,rfl,hB.dig,hB.lead,?_⟩)
    rw [hB.val,heq,ha.val,hb.val]
    simp [bv]
  ·
   refine ⟨rfl,rfl,by show 0 ≤ (I.of .i64 0).val; decide,by show (I.of .i64 0).val ≤ (a.length:Int); omega,?_⟩
   show MulInv a b (I.of .i64 0).val.toNat 0 0 (c0C (I.nat (I.add (I.ofNat .i64 (a0G a)) (I.ofNat .i64 (a0G b)))) (I.of .i64 0))
   rw [hn]
   refine ⟨b2Q _ _,c1X _,fun j _=>d7L _ _,?_⟩
   have e:(I.of .i64 0).val.toNat = 0:=rfl
   rw [d5G,e]
   simp [bv]
  ·
   exact b8G _ (by show ((a.length:Int) - (I.of .i64 0).val).toNat < _; omega)
 exact key.out
end Sym

/- The law of the gas price and of cover. -/
namespace Sym
open Go
theorem top_pow':U.top = 65536 ^ 16:=by decide
theorem a6U {l:List Dg} {n:Nat} (h:IsB l n) (hn:n < 65536 ^ 64):l.length ≤ 1000000:=Nat.le_trans (h.len.2 hn) (by decide)
theorem b4P {n:Nat} (h:n < U.top + U.top):n < 65536 ^ 64:=Nat.lt_trans h (by decide)
theorem g4E {n:Nat} (h:n < U.top * U.top + U.top):n < 65536 ^ 64:=Nat.lt_trans h (by decide)
theorem f1G {a b:List Dg} {m n:Nat} (ha:IsB a m) (hb:IsB b n) (hal:a.length ≤ 1000000) (hbl:b.length ≤ 1000000):∃ r,a4K K0 ((a,b,()),()) = some ((r,()),())∧IsB r (min m n):=by
 have key:Wp (fun o=>∃ r,o = some ((r,()),())∧IsB r (min m n)) (a4K K0 ((a,b,()),())):=by
  unfold a4K
  refine Wp.optF (c1M ha hb hal hbl) ?_
  unfold c0Z
  rcases Nat.lt_trichotomy m n with h | h | h
  ·
   rw [if_pos h]
   exact Wp.brnF rfl ⟨a,rfl,by rw [Nat.min_eq_left (by omega)]; exact ha⟩
  ·
   rw [if_neg (by omega),if_neg (by omega)]
   exact Wp.brnF rfl ⟨a,rfl,by rw [Nat.min_eq_left (by omega)]; exact ha⟩
  ·
   rw [if_neg (by omega),if_pos h]
   exact Wp.brnT rfl ⟨b,rfl,by rw [Nat.min_eq_right (by omega)]; exact hb⟩
 exact key.out
theorem f7I (f1 f2 f3 f5 f8 f9) (v c t base:U) (h:base.val ≤ c.val):∃ r,a8Y K0 (((f1,f2,f3,v,f5,c,t,f8,f9,()),base,()),()) = some ((r,()),())∧IsB r (min t.val (c.val - base.val)):=by
 have hc:=c.lt
 have ht:=t.lt
 have key:Wp (fun o=>∃ r,o = some ((r,()),())∧IsB r (min t.val (c.val - base.val))) (a8Y K0 (((f1,f2,f3,v,f5,c,t,f8,f9,()),base,()),())):=by
  unfold a8Y
  obtain ⟨l0,e0,b0⟩:=a0X t
  obtain ⟨l1,e1,b1⟩:=a0X c
  obtain ⟨l2,e2,b2⟩:=a0X base
  refine Wp.optF e0 (Wp.optF e1 (Wp.optF e2 ?_))
  obtain ⟨l3,e3,b3⟩:=c6H b1 b2 h (a6U b1 (b4P (by omega)))
  refine Wp.optF e3 ?_
  obtain ⟨l4,e4,b4⟩:=f1G b0 b3 (a6U b0 (b4P (by omega))) (a6U b3 (b4P (by omega)))
  exact Wp.optF e4 ⟨l4,rfl,b4⟩
 exact key.out
theorem g1F (f1 f2 f3 f5 f8 f9) (v c t base:U):a9N K0 (((f1,f2,f3,v,f5,c,t,f8,f9,()),base,()),()) = some (((e3X (c,t) base).1,(e3X (c,t) base).2,()),()):=by
 refine Wp.out (T:=fun o=>o = some (((e3X (c,t) base).1,(e3X (c,t) base).2,()),())) ?_
 have hc:=c.lt
 have hb:=base.lt
 unfold a9N e3X
 obtain ⟨l1,e1,b1⟩:=a0X c
 obtain ⟨l2,e2,b2⟩:=a0X base
 refine Wp.optF e1 (Wp.optF e2 ?_)
 refine Wp.optF (c1M b1 b2 (a6U b1 (b4P (by omega))) (a6U b2 (b4P (by omega)))) ?_
 by_cases h:base.val ≤ c.val
 ·
  rw [if_pos h]
  refine Wp.brnF ?_ ?_
  ·
   show I.ltb (c0Z _ _) (I.of .i64 0) = false
   unfold c0Z
   rw [if_neg (by omega)]
   split <;> rfl
  refine Wp.optF e2 ?_
  obtain ⟨l3,e3,b3⟩:=f7I f1 f2 f3 f5 f8 f9 v c t base h
  refine Wp.optF e3 ?_
  obtain ⟨l4,e4,b4⟩:=a9P b2 b3 (a6U b2 (b4P (by omega))) (a6U b3 (b4P (by omega)))
  refine Wp.optF e4 ?_
  refine Wp.optF (Checked_ok' b4 (a6U b4 (b4P (by omega)))) ?_
  rw [show c5H (base.val + min t.val (c.val - base.val)) = (U.of (base.val + min t.val (c.val - base.val)),I.of .i64 0) from if_pos (by omega)]
  rfl
 ·
  rw [if_neg h]
  refine Wp.brnT ?_ rfl
  show I.ltb (c0Z _ _) (I.of .i64 0) = true
  unfold c0Z
  rw [if_pos (by omega)]; rfl
def d4X (lim:I .u64) (price value bal:U):Bool:=decide (lim.nat * price.val + value.val ≤ bal.val)
theorem g1S (f1 f2 f3 f5 f8:I .u64) (f9:List (I .u8)) (v c t price bal:U):b0L K0 (((f1,f2,f3,v,f5,c,t,f8,f9,()),price,bal,()),()) = some ((d4X f5 price v bal,()),()):=by
 have hbal:=bal.lt
 have hp:=price.lt
 have hv:=v.lt
 have hf:I.nat f5 < U.top:=by
  have:=a3V f5
  have:U.top = 115792089237316195423570985008687907853269984665640564039457584007913129639936:=rfl
  omega
 have hm:I.nat f5 * price.val < U.top * U.top:=by
  have h1:I.nat f5 * price.val ≤ (U.top - 1) * (U.top - 1):=Nat.mul_le_mul (by omega) (by omega)
  exact Nat.lt_of_le_of_lt h1 (by decide)
 refine Wp.out (T:=fun o=>o = some ((d4X f5 price v bal,()),())) ?_
 unfold b0L d4X
 obtain ⟨l0,e0,b0⟩:=a1P f5
 obtain ⟨l1,e1,b1⟩:=a0X price
 refine Wp.optF e0 (Wp.optF e1 ?_)
 obtain ⟨l2,e2,b2⟩:=b2O b0 b1 (a6U b0 (b4P (by omega))) (a6U b1 (b4P (by omega)))
 refine Wp.optF e2 ?_
 obtain ⟨l3,e3,b3⟩:=a0X v
 refine Wp.optF e3 ?_
 obtain ⟨l4,e4,b4⟩:=a9P b2 b3 (a6U b2 (g4E (by omega))) (a6U b3 (b4P (by omega)))
 refine Wp.optF e4 ?_
 obtain ⟨l5,e5,b5⟩:=a0X bal
 refine Wp.optF e5 ?_
 refine Wp.optF (c1M b5 b4 (a6U b5 (b4P (by omega))) (a6U b4 (g4E (by omega)))) ?_
 show some ((I.leb (I.of .i64 0) (c0Z bal.val (I.nat f5 * price.val + v.val)),()),()) = _
 unfold c0Z
 by_cases h3:I.nat f5 * price.val + v.val ≤ bal.val
 ·
  rw [if_neg (by omega),decide_eq_true h3]
  split <;> rfl
 ·
  rw [if_pos (by omega),decide_eq_false h3]; rfl
end Sym

/- Signed numbers of 256 bits: what the program's functions compute, told of whole numbers. -/
namespace Sym
open Go
abbrev S:Type:=Bool × U × Unit
def S.int (x:S):Int:=if x.1 then -(x.2.1.val:Int) else x.2.1.val
def S.of (z:Int):S:=(decide (z < 0),U.of z.natAbs,())
def b0C (x:S):Bool:=!(x.1 && decide (x.2.1.val = 0))
theorem S.abs (x:S):x.int.natAbs = x.2.1.val:=by
 unfold S.int
 split <;> omega
theorem S.lt (x:S):x.int.natAbs < U.top:=by rw [S.abs]; exact U.lt _
def g2S (z:Int):S × I .i64:=if z.natAbs < U.top then (S.of z,I.of .i64 0) else (S.of 0,I.of .i64 4)
theorem eqz (a:U):Ty.eqb (.arr 4 (.int .u64)) a (I.of .u64 0,I.of .u64 0,I.of .u64 0,I.of .u64 0,()) = decide (a.val = 0):=e2Y a (U.of 0)
def sgn (n:Bool) (m:Nat):Int:=if n then -(m:Int) else m
theorem e1N {z:Int} (h:z.natAbs < U.top):g2S z = (S.of z,I.of .i64 0):=if_pos h
theorem g1I {z:Int} (h:U.top ≤ z.natAbs):g2S z = (S.of 0,I.of .i64 4):=if_neg (by omega)
end Sym

/- Signed numbers of 256 bits: differences, products, quotients, order. -/
namespace Sym
open Go
theorem f8T (n m:Bool) (a b:Nat):sgn n a * sgn m b = sgn (!(n == m)) (a * b):=by
 unfold sgn
 cases n <;> cases m <;> simp [Int.neg_mul,Int.mul_neg]
theorem e9C (n:Bool) (a:Nat):(sgn n a).natAbs = a:=by unfold sgn; cases n <;> simp
theorem g1Y (a d:Nat) (hd:0 < d):-(a:Int) / (d:Int) = if a % d = 0 then -((a / d:Nat):Int) else -((a / d + 1:Nat):Int):=by
 have h1:=Nat.div_add_mod a d
 have h2:=Nat.mod_lt a hd
 have h1':(d:Int) * ((a / d:Nat):Int) + ((a % d:Nat):Int) = (a:Int):=by rw [← Int.natCast_mul]; omega
 by_cases h:a % d = 0
 ·
  rw [if_pos h]
  refine ((Int.ediv_emod_unique (r:=0) (by omega)).2 ⟨?_,by omega,by omega⟩).1
  rw [h] at h1'
  rw [Int.mul_neg]
  simp only [Int.ofNat_zero] at h1'
  omega
 ·
  rw [if_neg h]
  refine ((Int.ediv_emod_unique (r:=(d:Int) - ((a % d:Nat):Int)) (by omega)).2 ⟨?_,by omega,by omega⟩).1
  rw [Int.natCast_add,Int.mul_neg,Int.mul_add,show ((1:Nat):Int) = 1 from rfl,Int.mul_one]
  omega
def d3M (a:U) (y:S):U × I .i64:=if b0C y then (if (a.val:Int) + y.int < 0 then (U.of 0,I.of .i64 0) else c5H ((a.val:Int) + y.int).toNat) else (U.of 0,I.of .i64 2)
end Sym

/- Signed numbers: what the reference's functions compute; two laws. -/
namespace Sym
open Go
abbrev SB:Type:=Bool × List Dg × Unit
structure IsSB (s:SB) (z:Int):Prop where
 neg:s.1 = decide (z < 0)
 abs:IsB s.2.1 z.natAbs
def Bd (n:Nat):Prop:=n < 65536 ^ 64
theorem len_small' {l:List Dg} {n:Nat} (h:IsB l n) (k:Nat) (hn:n < 65536 ^ k) (hk:k ≤ 1000000):l.length ≤ 1000000:=Nat.le_trans (h.len.2 hn) hk
theorem Bd.len {l:List Dg} {n:Nat} (h:IsB l n) (hb:Bd n):l.length ≤ 1000000:=len_small' h 64 hb (by decide)
theorem Bd.of_top {n:Nat} (h:n < U.top):Bd n:=Nat.lt_trans h (by decide)
theorem Bd.of_two {n:Nat} (h:n < U.top + U.top):Bd n:=Nat.lt_trans h (by decide)
theorem f1R {l:List Dg} {n:Nat} (h:IsB l n):0 < l.length ↔ n ≠ 0:=by
 have:=h.len (k:=0)
 rw [Nat.pow_zero] at this
 omega
theorem b7J (n:Bool) {l:List Dg} {m:Nat} (h:IsB l m) (hl:l.length ≤ 1000000):∃ s:SB,a2P K0 ((n,l,()),()) = some ((s,()),())∧IsSB s (sgn n m):=by
 have key:Wp (fun o=>∃ s:SB,o = some ((s,()),())∧IsSB s (sgn n m)) (a2P K0 ((n,l,()),())):=by
  have hol:(I.ofNat .i64 (a0G l)).val = l.length:=a3F (by show l.length < _; omega)
  have c0:(I.of .i64 0).val = 0:=rfl
  have hp:=f1R h
  unfold a2P
  cases n with
  | false=>exact Wp.brnF rfl ⟨_,rfl,(decide_eq_false (by unfold sgn; simp)).symm,by rw [e9C]; exact h⟩
  | true =>
   refine Wp.brnT rfl ⟨_,rfl,?_,by rw [e9C]; exact h⟩
   show I.ltb (I.of .i64 0) (I.ofNat .i64 (a0G l)) = decide (sgn true m < 0)
   unfold I.ltb
   rw [c0,hol]
   have:((0:Int) < (l.length:Int)) ↔ sgn true m < 0:=by unfold sgn; simp; omega
   simp only [this]
 exact key.out
theorem c8H (x:S):∃ s:SB,a3K K0 ((x,()),()) = some ((s,()),())∧IsSB s x.int:=by
 have key:Wp (fun o=>∃ s:SB,o = some ((s,()),())∧IsSB s x.int) (a3K K0 ((x,()),())):=by
  unfold a3K
  obtain ⟨l,hl,hB⟩:=a0X x.2.1
  refine Wp.optF hl ?_
  obtain ⟨s,hs,hS⟩:=b7J x.1 hB (Bd.len hB (Bd.of_top (U.lt _)))
  exact Wp.optF hs ⟨s,rfl,hS⟩
 exact key.out
theorem d7H {s t:SB} {z w:Int} (hs:IsSB s z) (ht:IsSB t w) (hz:Bd z.natAbs) (hw:Bd w.natAbs) (hzw:Bd (z.natAbs + w.natAbs)):∃ r:SB,a7B K0 ((s,t,()),()) = some ((r,()),())∧IsSB r (z + w):=by
 have key:Wp (fun o=>∃ r:SB,o = some ((r,()),())∧IsSB r (z + w)) (a7B K0 ((s,t,()),())):=by
  obtain ⟨n,l,⟨⟩⟩:=s
  obtain ⟨m,l2,⟨⟩⟩:=t
  obtain ⟨h1,h2⟩:=hs
  obtain ⟨h3,h4⟩:=ht
  simp only at h1 h2 h3 h4
  have len1:=Bd.len h2 hz
  have f3I:=Bd.len h4 hw
  unfold a7B
  by_cases hnm:n = m
  ·
   refine Wp.brnT (by show (n == m) = true; simp [hnm]) ?_
   obtain ⟨r,hr,hB⟩:=a9P h2 h4 len1 f3I
   refine Wp.optF hr ?_
   obtain ⟨q,hq,hQ⟩:=b7J n hB (Bd.len hB hzw)
   refine Wp.optF hq ⟨q,rfl,?_⟩
   have:sgn n (z.natAbs + w.natAbs) = z + w:=by
    unfold sgn
    subst hnm
    rw [h1] at h3 ⊢
    by_cases hz0:z < 0
    ·
     have:w < 0:=by simpa [hz0] using h3
     simp [hz0]; omega
    ·
     have:¬ w < 0:=by simpa [hz0] using h3
     simp [hz0]; omega
   rw [← this]; exact hQ
  ·
   refine Wp.brnF (by show (n == m) = false; simp [hnm]) ?_
   refine Wp.optF (c1M h2 h4 len1 f3I) ?_
   have hne:¬ (decide (z < 0) = decide (w < 0)):=by rw [← h1,← h3]; exact hnm
   by_cases hlt:z.natAbs < w.natAbs
   ·
    refine Wp.brnF (by show I.leb (I.of .i64 0) (c0Z _ _) = false; unfold c0Z; rw [if_pos hlt]; rfl) ?_
    obtain ⟨r,hr,hB⟩:=c6H h4 h2 (by omega) f3I
    refine Wp.optF hr ?_
    obtain ⟨q,hq,hQ⟩:=b7J m hB (Bd.len hB (Nat.lt_of_le_of_lt (Nat.sub_le _ _) hw))
    refine Wp.optF hq ⟨q,rfl,?_⟩
    have:sgn m (w.natAbs - z.natAbs) = z + w:=by
     unfold sgn
     rw [h3]
     by_cases hw0:w < 0
     ·
      have:¬ z < 0:=by simpa [hw0] using hne
      simp [hw0]; omega
     ·
      have:z < 0:=by simpa [hw0] using hne
      simp [hw0]; omega
    rw [← this]; exact hQ
   ·
    refine Wp.brnT (by show I.leb (I.of .i64 0) (c0Z _ _) = true; unfold c0Z; rw [if_neg hlt]; split <;> rfl) ?_
    obtain ⟨r,hr,hB⟩:=c6H h2 h4 (by omega) len1
    refine Wp.optF hr ?_
    obtain ⟨q,hq,hQ⟩:=b7J n hB (Bd.len hB (Nat.lt_of_le_of_lt (Nat.sub_le _ _) hz))
    refine Wp.optF hq ⟨q,rfl,?_⟩
    have:sgn n (z.natAbs - w.natAbs) = z + w:=by
     unfold sgn
     rw [h1]
     by_cases hz0:z < 0
     ·
      have:¬ w < 0:=by simpa [hz0] using hne
      simp [hz0]; omega
     ·
      have:w < 0:=by simpa [hz0] using hne
      simp [hz0]; omega
    rw [← this]; exact hQ
 exact key.out
theorem c7N {s:SB} {z:Int} (hs:IsSB s z) (hz:Bd z.natAbs):∃ r:SB,a5U K0 ((s,()),()) = some ((r,()),())∧IsSB r (-z):=by
 have key:Wp (fun o=>∃ r:SB,o = some ((r,()),())∧IsSB r (-z)) (a5U K0 ((s,()),())):=by
  unfold a5U
  obtain ⟨q,hq,hQ⟩:=b7J (!s.1) hs.abs (Bd.len hs.abs hz)
  refine Wp.optF hq ⟨q,rfl,?_⟩
  have:sgn (!s.1) z.natAbs = -z:=by
   rw [hs.neg]
   unfold sgn
   by_cases h:z < 0
   ·
    simp [h]; omega
   ·
    simp [h]; omega
  rw [← this]; exact hQ
 exact key.out
theorem d0I {s:SB} {z:Int} (hs:IsSB s z) (hz:Bd z.natAbs):a8H K0 ((s,()),()) = some (((g2S z).1,(g2S z).2,()),()):=by
 refine Wp.out (T:=fun o=>o = some (((g2S z).1,(g2S z).2,()),())) ?_
 unfold a8H
 refine Wp.optF (Checked_ok' hs.abs (Bd.len hs.abs hz)) ?_
 unfold c5H
 by_cases h:z.natAbs < U.top
 ·
  rw [if_pos h,e1N h]
  refine Wp.brnF rfl ?_
  show some (((s.1,U.of z.natAbs,()),I.of .i64 0,()),()) = some ((((decide (z < 0),U.of z.natAbs,()):S),I.of .i64 0,()),())
  rw [hs.neg]
 ·
  rw [if_neg h,g1I (by omega)]
  exact Wp.brnT rfl rfl
theorem c1E (a:U):a2I K0 ((a,()),()) = some ((decide (a.val = 0),()),()):=by
 refine Wp.out (T:=fun o=>o = some ((decide (a.val = 0),()),())) ?_
 unfold a2I
 show some ((Ty.eqb (.arr 4 (.int .u64)) a (I.of .u64 0,I.of .u64 0,I.of .u64 0,I.of .u64 0,()),()),()) = _
 rw [eqz]
theorem b8J (x:S):a4Q K0 ((x,()),()) = some ((b0C x,()),()):=by
 obtain ⟨n,a,⟨⟩⟩:=x
 refine Wp.out (T:=fun o=>o = some ((b0C (n,a,()),()),())) ?_
 unfold a4Q
 cases n with
 | false=>exact Wp.brnF rfl rfl
 | true=>exact Wp.brnT rfl (Wp.optF (c1E a) rfl)
theorem f5V (a b:U):b4F K0 ((a,b,()),()) = some ((S.of ((a.val:Int) - b.val),()),()):=by
 have ha:=a.lt
 have hb:=b.lt
 refine Wp.out (T:=fun o=>o = some ((S.of ((a.val:Int) - b.val),()),())) ?_
 unfold b4F
 obtain ⟨l,hl,hB⟩:=a0X a
 refine Wp.optF hl ?_
 obtain ⟨s,hs,hS⟩:=b7J false hB (Bd.len hB (Bd.of_top ha))
 refine Wp.optF hs ?_
 obtain ⟨l2,hl2,hB2⟩:=a0X b
 refine Wp.optF hl2 ?_
 obtain ⟨s2,hs2,hS2⟩:=b7J true hB2 (Bd.len hB2 (Bd.of_top hb))
 refine Wp.optF hs2 ?_
 have e1:sgn false a.val = (a.val:Int):=rfl
 have e2:sgn true b.val = -(b.val:Int):=rfl
 rw [e1] at hS
 rw [e2] at hS2
 obtain ⟨r,hr,hR⟩:=d7H hS hS2 (Bd.of_top (by omega)) (Bd.of_top (by omega)) (Bd.of_two (by omega))
 refine Wp.optF hr ?_
 rw [show (a.val:Int) + -(b.val:Int) = (a.val:Int) - b.val by omega] at hR
 refine Wp.optF (d0I hR (Bd.of_top (by omega))) ?_
 rw [e1N (by omega)]
 rfl
theorem f1N (a:U) (y:S):a8K K0 ((a,y,()),()) = some (((d3M a y).1,(d3M a y).2,()),()):=by
 have ha:=a.lt
 have hy:=y.lt
 refine Wp.out (T:=fun o=>o = some (((d3M a y).1,(d3M a y).2,()),())) ?_
 unfold a8K d3M
 refine Wp.optF (b8J y) ?_
 cases h1:b0C y with
 | false=>exact Wp.brnT rfl rfl
 | true =>
  rw [if_pos rfl]
  refine Wp.brnF rfl ?_
  obtain ⟨l,hl,hB⟩:=a0X a
  refine Wp.optF hl ?_
  obtain ⟨s,hs,hS⟩:=b7J false hB (Bd.len hB (Bd.of_top ha))
  refine Wp.optF hs ?_
  obtain ⟨s2,hs2,hS2⟩:=c8H y
  refine Wp.optF hs2 ?_
  have e1:sgn false a.val = (a.val:Int):=rfl
  rw [e1] at hS
  obtain ⟨r,hr,hR⟩:=d7H hS hS2 (Bd.of_top (by omega)) (Bd.of_top (by omega)) (Bd.of_two (by omega))
  refine Wp.optF hr ?_
  by_cases hz:(a.val:Int) + y.int < 0
  ·
   rw [if_pos hz]
   refine Wp.brnT (by show r.1 = true; rw [hR.neg]; exact decide_eq_true hz) rfl
  ·
   rw [if_neg hz]
   refine Wp.brnF (by show r.1 = false; rw [hR.neg]; exact decide_eq_false hz) ?_
   have hb:Bd ((a.val:Int) + y.int).natAbs:=Bd.of_two (by omega)
   refine Wp.optF (Checked_ok' hR.abs (Bd.len hR.abs hb)) ?_
   rw [show ((a.val:Int) + y.int).natAbs = ((a.val:Int) + y.int).toNat by omega]
   rfl
end Sym

/- Signed numbers: the laws of order, negation and algebra. -/
namespace Sym
open Go
end Sym

/- Signed numbers: the law of algebra. -/
namespace Sym
open Go
theorem d1O (z:Int) (d:Nat) (hd:d ≠ 0):(z / (d:Int)).natAbs ≤ z.natAbs:=by
 have h1:=Int.mul_ediv_add_emod z d
 have h2:=Int.emod_nonneg z (b:=(d:Int)) (by omega)
 have h3:=Int.emod_lt_of_pos z (b:=(d:Int)) (by omega)
 rcases Int.lt_or_le z 0 with h | h
 ·
  have h4:z / (d:Int) < 0:=by
   rcases Int.lt_or_le (z / (d:Int)) 0 with h7 | h7
   ·
    exact h7
   ·
    have:=Int.mul_nonneg (show (0:Int) ≤ (d:Int) by omega) h7
    omega
  have h5:z ≤ z / (d:Int):=by
   have:(d:Int) * (z / (d:Int)) ≤ 1 * (z / (d:Int)):=Int.mul_le_mul_of_nonpos_right (by omega) (by omega)
   have h6:z - (z % d) = (d:Int) * (z / (d:Int)):=by omega
   rcases Int.lt_or_le (z / (d:Int)) z with h7 | h7
   ·
    exfalso
    have:(d:Int) * (z / (d:Int) + 1) ≤ (d:Int) * z:=Int.mul_le_mul_of_nonneg_left (by omega) (by omega)
    rw [Int.mul_add,Int.mul_one] at this
    have h8:(d:Int) * z ≤ 1 * z:=Int.mul_le_mul_of_nonpos_right (by omega) (by omega)
    omega
   ·
    exact h7
  omega
 ·
  have h4:0 ≤ z / (d:Int):=Int.ediv_nonneg h (by omega)
  have h5:z / (d:Int) ≤ z:=Int.ediv_le_self _ h
  omega
end Sym

/- Signed numbers: the laws of arithmetic. -/
namespace Sym
open Go
theorem g0I {s t:SB} {z w:Int} (hs:IsSB s z) (ht:IsSB t w) (hz:Bd z.natAbs) (hw:Bd w.natAbs) (hzw:Bd (z.natAbs * w.natAbs)):∃ r:SB,b2M K0 ((s,t,()),()) = some ((r,()),())∧IsSB r (z * w):=by
 have key:Wp (fun o=>∃ r:SB,o = some ((r,()),())∧IsSB r (z * w)) (b2M K0 ((s,t,()),())):=by
  unfold b2M
  obtain ⟨l,hl,hB⟩:=b2O hs.abs ht.abs (Bd.len hs.abs hz) (Bd.len ht.abs hw)
  refine Wp.optF hl ?_
  obtain ⟨r,hr,hR⟩:=b7J (!(s.1 == t.1)) hB (Bd.len hB hzw)
  refine Wp.optF hr ⟨r,rfl,?_⟩
  have e1:sgn s.1 z.natAbs = z:=by rw [hs.neg]; unfold sgn; by_cases h:z < 0 <;> simp [h] <;> omega
  have e2:sgn t.1 w.natAbs = w:=by rw [ht.neg]; unfold sgn; by_cases h:w < 0 <;> simp [h] <;> omega
  rw [← f8T,e1,e2] at hR
  exact hR
 exact key.out
theorem e8V (x n:I .i64) (h:0 < n.val):∃ y:I .i64,a5W K0 ((x,n,()),()) = some ((y,()),())∧0 ≤ y.val∧y.val < n.val:=by
 have hn:=b5D n
 have e:(I.conv .u64 n).val = n.val:=b9A ⟨by omega,by omega⟩
 have hx:=a6O (I.conv .u64 x)
 have er:(I.rem (I.conv .u64 x) (I.conv .u64 n)).val = (I.conv .u64 x).val % n.val:=by rw [f1W (by omega),e]
 have h3:=Int.emod_nonneg (I.conv .u64 x).val (b:=n.val) (by omega)
 have h4:=Int.emod_lt_of_pos (I.conv .u64 x).val (b:=n.val) (by omega)
 have ec:(I.conv .i64 (I.rem (I.conv .u64 x) (I.conv .u64 n))).val = (I.conv .u64 x).val % n.val:=by
  show (I.of .i64 _).val = _
  rw [er]
  exact b7K ⟨by omega,by omega⟩
 refine ⟨I.conv .i64 (I.rem (I.conv .u64 x) (I.conv .u64 n)),?_,by omega,by omega⟩
 refine Wp.out (T:=fun o=>o = _) ?_
 unfold a5W
 refine Wp.brnT (iff_nz.2 ?_) rfl
 show (I.conv .u64 n).val ≠ 0
 omega
end Sym

/- Natural numbers by digits of 65536: quotients. -/
namespace Sym
open Go
theorem d3Q (l:List Dg) (i:Nat) (d:Dg) (h:i < l.length):rd0 (l.set i d) i = d:=by
 unfold rd0
 rw [a4N _ _ _ (by simpa using h)]
 simp
theorem c2Y (l:List Dg) (i:Nat) (d:Dg):(l.set i d).drop (i + 1) = l.drop (i + 1):=by
 rw [List.drop_set_of_lt (by omega)]
theorem e0Z (l:List Dg) (i:Nat) (d:Dg) (h:i < l.length):bv ((l.set i d).drop i) = d.nat + 65536 * bv (l.drop (i + 1)):=by
 rw [b8T,d3Q _ _ _ h,c2Y]
structure ShInv (a:List Dg) (d:Nat) (left:Nat) (j:Nat) (q:List Dg):Prop where
 len:q.length = a.length
 dig:b9X q
 lt:left < d
 eq:bv (a.drop j) = bv (q.drop j) * d + left
theorem f8V {a q:List Dg} {d left j x:Nat} (h:ShInv a d left (j + 1) q) (hj:j < a.length) (hx:x = 65536 * left + (rd0 a j).nat) (v:Dg) (hv:v.nat = x / d) (hd:DigOk v) (hd0:0 < d):ShInv a d (x % d) j (q.set j v):=by
 refine ⟨by simpa using h.len,c2W h.dig _ hd,Nat.mod_lt _ hd0,?_⟩
 rw [b8T a j,e0Z _ _ _ (by rw [h.len]; exact hj),hv,h.eq,Nat.add_mul,Nat.mul_assoc]
 have h1:=Nat.div_add_mod x d
 rw [Nat.mul_comm] at h1
 rw [Nat.mul_add]
 omega
theorem f5Y {a:List Dg} {m:Nat} (ha:IsB a m) (hal:a.length ≤ 1000000) (d:Dg) (hd:DigOk d) (h0:d.val ≠ 0):∃ q r,a9X K0 ((a,d,()),()) = some ((q,r,()),())∧IsB q (m / d.nat)∧IsB r (m % d.nat):=by
 have hol:(I.ofNat .i64 (a0G a)).val = a.length:=a3F (by show a.length < _; omega)
 have hn:I.nat (I.ofNat .i64 (a0G a)) = a.length:=by unfold I.nat; omega
 have c0:(I.of .i64 0).val = 0:=rfl
 have c1:(I.of .i64 1).val = 1:=rfl
 have cB:(I.of .i64 65536).val = 65536:=rfl
 have dn:=hd.nat
 have hd':=hd
 unfold DigOk at hd'
 have key:Wp (fun o=>∃ q r,o = some ((q,r,()),())∧IsB q (m / d.nat)∧IsB r (m % d.nat)) (a9X K0 ((a,d,()),())):=by
  unfold a9X
  refine Wp.brnT ?_ (Wp.brnT ?_ ?_)
  ·
   show (decide (0 ≤ (I.ofNat .i64 (a0G a)).val) && decide ((I.ofNat .i64 (a0G a)).val ≤ ((I.nat (I.ofNat .i64 (a0G a)):Nat):Int))) = true
   rw [hn,hol]; simp
  ·
   show (decide (0 ≤ (I.ofNat .i64 (a0G a)).val) && decide ((I.ofNat .i64 (a0G a)).val ≤ ((1073741824:Nat):Int))) = true
   rw [hol]; simp; omega
  refine Wp.iter (fun x=>x.1.1 = a∧x.1.2.1 = d∧0 ≤ x.1.2.2.1.val∧-1 ≤ x.1.2.2.2.1.val∧x.1.2.2.2.1.val < (a.length:Int)∧ShInv a d.nat (I.nat (k:=.i64) x.1.2.2.1) (x.1.2.2.2.1.val + 1).toNat x.2.1) (fun x=>(x.1.2.2.2.1.val + 1).toNat) ?_ ?_ ?_
  ·
   rintro ⟨⟨a',d',left,i,⟨⟩⟩,q,⟨⟩⟩ ⟨e1,e2,hl0,hi0,hi1,hI⟩
   simp only at e1 e2 hl0 hi0 hi1 hI
   subst e1 e2
   have hlt:=hI.lt
   have hll:(left.nat:Int) = left.val:=by unfold I.nat; omega
   refine Wp.brn (fun h=>?_) (fun h=>?_)
   ·
    have hge:=iff_leb.1 h
    simp only [c0] at hge
    clear h
    have ej:(i.val + 1).toNat = i.val.toNat + 1:=by omega
    rw [ej] at hI
    have da:=b5H ha.dig i.val.toNat
    have na:=da.nat
    unfold DigOk at da
    have hs:(I.sub i (I.of .i64 1)).val = i.val - 1:=by rw [a9Z (by omega)]; omega
    have hm1:(I.mul (I.of .i64 65536) left).val = 65536 * left.val:=by rw [c3Q (by rw [cB]; omega),cB]
    have hx:(I.add (I.mul (I.of .i64 65536) left) (rd0 a' i.val.toNat)).val = 65536 * left.val + (rd0 a' i.val.toNat).val:=by rw [a5Q (by rw [hm1]; omega),hm1]
    generalize hX:I.add (I.mul (I.of .i64 65536) left) (rd0 a' i.val.toNat) = x at hx
    have hxn:(x.nat:Int) = x.val:=by unfold I.nat; omega
    have hq:(I.quo x d').val = x.val / d'.val:=b7H (by omega) (by omega)
    have hr:(I.rem x d').val = x.val % d'.val:=b6F (by omega) (by omega)
    have hq2:x.val / d'.val = ((x.nat / d'.nat:Nat):Int):=by rw [Int.natCast_ediv,hxn,dn.1]
    have hr2:x.val % d'.val = ((x.nat % d'.nat:Nat):Int):=by rw [Int.natCast_emod,hxn,dn.1]
    have hqlt:x.nat / d'.nat < 65536:=by
     rw [Nat.div_lt_iff_lt_mul (by omega)]
     omega
    have hqn:(I.quo x d').nat = x.nat / d'.nat:=by
     show (I.quo x d').val.toNat = _
     rw [hq,hq2,Int.toNat_natCast]
    have hrn:(I.rem x d').nat = x.nat % d'.nat:=by
     show (I.rem x d').val.toNat = _
     rw [hr,hr2,Int.toNat_natCast]
    have st:=f8V hI (by omega) (x:=x.nat) (by omega) (I.quo x d') hqn ⟨by rw [hq,hq2]; omega,by rw [hq,hq2]; omega⟩ (by omega)
    have hlen:=hI.len
    refine Wp.brnT (iff_inB.2 ⟨hge,by show i.val < ((a'.length:Nat):Int); omega⟩) ?_
    refine Wp.brnT (iff_nz.2 h0) (Wp.brnT (iff_nz.2 h0) ?_)
    refine Wp.brnT (iff_inB.2 ⟨hge,by show i.val < ((q.length:Nat):Int); omega⟩) ?_
    refine Wp.again ⟨rfl,rfl,?_,?_,?_,?_⟩ ?_
    ·
     show 0 ≤ (I.rem (I.add (I.mul (I.of .i64 65536) left) (rd0 a' i.val.toNat)) d').val
     rw [hX,hr,hr2]; omega
    ·
     show -1 ≤ (I.sub i (I.of .i64 1)).val; omega
    ·
     show (I.sub i (I.of .i64 1)).val < _; omega
    ·
     show ShInv a' d'.nat (I.nat (I.rem (I.add (I.mul (I.of .i64 65536) left) (rd0 a' i.val.toNat)) d')) ((I.sub i (I.of .i64 1)).val + 1).toNat (setAt q (I.nat i) (I.quo (I.add (I.mul (I.of .i64 65536) left) (rd0 a' i.val.toNat)) d'))
     rw [hX,a7X,hrn,show ((I.sub i (I.of .i64 1)).val + 1).toNat = i.val.toNat by omega]
     exact st
    ·
     show ((I.sub i (I.of .i64 1)).val + 1).toNat < (i.val + 1).toNat
     omega
   ·
    have h:=niff_leb.1 h
    simp only [c0] at h
    have e0:(i.val + 1).toNat = 0:=by omega
    rw [e0] at hI
    have heq:=hI.eq
    simp only [List.drop_zero] at heq
    rw [ha.val] at heq
    have hlen:=hI.len
    obtain ⟨qq,hq,hQ⟩:=d5F q hI.dig (by omega)
    have hdl:b9X [left]:=by intro e he; simp only [List.mem_singleton] at he; subst he; exact ⟨by omega,by omega⟩
    obtain ⟨rr,hr,hR⟩:=d5F [left] hdl (by simp)
    refine Wp.done (Wp.optF hq (Wp.optF hr ⟨qq,rr,rfl,?_,?_⟩))
    ·
     refine ⟨hQ.dig,hQ.lead,?_⟩
     rw [hQ.val,heq,Nat.mul_comm,Nat.mul_add_div (by omega),Nat.div_eq_of_lt hlt,Nat.add_zero]
    ·
     refine ⟨hR.dig,hR.lead,?_⟩
     rw [hR.val,heq,Nat.mul_comm,Nat.mul_add_mod,Nat.mod_eq_of_lt hlt]
     simp [bv]
  ·
   refine ⟨rfl,rfl,by show 0 ≤ (I.of .i64 0).val; decide,?_,?_,?_⟩
   ·
    show -1 ≤ (I.sub (I.ofNat .i64 (a0G a)) (I.of .i64 1)).val
    rw [a9Z (by omega)]; omega
   ·
    show (I.sub (I.ofNat .i64 (a0G a)) (I.of .i64 1)).val < _
    rw [a9Z (by omega)]; omega
   ·
    show ShInv a d.nat (I.of .i64 0).nat ((I.sub (I.ofNat .i64 (a0G a)) (I.of .i64 1)).val + 1).toNat (c0C (I.nat (I.ofNat .i64 (a0G a))) (I.of .i64 0))
    rw [a9Z (by omega),hn,hol,c1,show ((a.length:Int) - 1 + 1).toNat = a.length by omega]
    refine ⟨b2Q _ _,c1X _,by show 0 < d.nat; omega,?_⟩
    rw [List.drop_of_length_le (Nat.le_refl _),List.drop_of_length_le (by rw [b2Q]; omega)]
    simp [bv]; rfl
  ·
   refine b8G _ ?_
   show ((I.sub (I.ofNat .i64 (a0G a)) (I.of .i64 1)).val + 1).toNat < _
   rw [a9Z (by omega)]; omega
 exact key.out
end Sym
