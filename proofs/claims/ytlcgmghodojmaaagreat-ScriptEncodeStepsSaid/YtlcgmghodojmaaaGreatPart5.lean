/- The contracts of the given functions. -/
import Derived.Test.YtlcgmghodojmaaaGreatProg
import Derived.Test.YtlcgmghodojmaaaGreatPart4
import Derived.Test.YtlcgmghodojmaaaGreatPart3
namespace Sym
open Go Go.Proofs
set_option maxRecDepth 100000
noncomputable abbrev tp:Program:=Tryz.prog
def tys:List (Nat×Ty):=[(1,.fnc),(2,(.int .i64)),(3,(.int .i64)),(4,.bool),(5,(.int .u8)),(6,(.int .u8)),(7,a9V),(8,a9V),(9,.str),(10,.str),(11,.str),(22,(.sl (.int .u8))),(23,(.sl (.sl (.int .u8)))),(29,(.int .i64)),(35,(.sl (.int .i64))),(36,.opq),(37,(.sl a0V)),(38,(.sl a3D)),(43,(.int .u64)),(44,(.int .u64)),(46,a1K),(48,a1O),(50,a1L),(51,(.sl (.arr 32 (.int .u8)))),(53,a4D),(55,a0V),(57,a0G),(59,a1Q),(61,a1Y),(62,(.sl a1C)),(64,a0X),(65,(.sl a1E)),(66,(.arr 4 a1K)),(67,(.sl a1L)),(68,(.sl .bool)),(69,(.sl a0U)),(71,c9U),(76,.opq),(81,a3W),(83,a3D),(88,.fnc),(93,(.arr 2 (.sl a0V))),(97,(.int .u64)),(98,.opq),(116,.opq),(118,.opq),(120,.opq),(123,b0F),(136,a1C),(138,.opq),(140,.opq),(143,a1U),(147,a0M),(148,(.sl (.int .u64))),(150,a1A),(152,a0Y),(166,(.arr 32 (.int .u8))),(171,a0M),(172,.opq),(175,a7V),(177,a3E),(179,a1L),(182,a1E),(184,a0U),(214,a2E),(226,(.sl (.int .i64))),(231,(.arr 12 (.int .u64))),(238,(.arr 6 (.int .u64))),(251,tY0),(284,(.arr 12 a1K)),(310,.opq),(315,a1F),(343,(.arr 12 .bool)),(354,.opq),(356,.opq),(357,.opq),(371,(.int .u32)),(372,(.arr 8 (.int .u32))),(389,(.arr 8 (.int .u64))),(393,(.arr 64 (.int .u32)))]
def eqs:List (Nat×Ty):=[(2,(.int .i64)),(3,(.int .i64)),(4,.bool),(5,(.int .u8)),(6,(.int .u8)),(7,a9V),(8,a9V),(29,(.int .i64)),(36,.opq),(43,(.int .u64)),(44,(.int .u64)),(46,a1K),(50,a1L),(57,a0G),(59,a1Q),(61,a1Y),(66,(.arr 4 a1K)),(76,.opq),(81,a3W),(97,(.int .u64)),(98,.opq),(116,.opq),(118,.opq),(120,.opq),(136,a1C),(138,.opq),(140,.opq),(166,(.arr 32 (.int .u8))),(172,.opq),(179,a1L),(182,a1E),(184,a0U),(231,(.arr 12 (.int .u64))),(238,(.arr 6 (.int .u64))),(284,(.arr 12 a1K)),(310,.opq),(343,(.arr 12 .bool)),(354,.opq),(356,.opq),(357,.opq),(371,(.int .u32)),(372,(.arr 8 (.int .u32))),(389,(.arr 8 (.int .u64))),(393,(.arr 64 (.int .u32)))]
theorem g6F:tys.all (fun x=>tiB tp x.1 x.2)=true:=by kernel_rfl
theorem g5K:eqs.all (fun x=>h3E tp x.1 x.2)=true:=by kernel_rfl
theorem follows:tp.follows .mixedOrders=true:=by kernel_rfl
theorem f8U:f4T tp:=g0W (by kernel_rfl)
def owns:List Nat:=[71,83,123,143,147,150,171,175,177,251,407,409]
def meths : List (Nat × String × FuncId × Option Nat) := [(411, "Len", 426, some 407), (411, "Less", 427, some 407), (411, "Pop", 429, none), (411, "Push", 430, none), (411, "Swap", 428, some 407)]
theorem e6W:meths.all (fun x=>f6J tp x.1 x.2.1 x.2.2.1 x.2.2.2)=true:=by kernel_rfl
theorem a2P {C:Con} {n k:Nat} {hs:List (Nat×How)} {A:g4T} (h:HowsOk tp hs) (e:∀ x,f0Z (e7F tp tys eqs hs owns meths) A n C.In C.Out k K0 x=C.F x) (hko:c6Z C.In.heap C.Out.heap=true:=by rfl):a0Z tp n C:=e3P (E:=e7F tp tys eqs hs owns meths) (g8O g6F g5K h follows e6W) f8U (fun x _ h=>⟨A,k,K0,(e x).trans h⟩) hko
theorem h4T {C:Con} {n k:Nat} {hs:List (Nat×How)} {A:g4T} (ow:List Nat) (h:HowsOk tp hs) (e:∀ x,f0Z (e7F tp tys eqs hs ow meths) A n C.In C.Out k K0 x=C.F x) (hko:c6Z C.In.heap C.Out.heap=true:=by rfl):a0Z tp n C:=e3P (E:=e7F tp tys eqs hs ow meths) (g8O g6F g5K h follows e6W) f8U (fun x _ h=>⟨A,k,K0,(e x).trans h⟩) hko
theorem f6K {C:Con} {n k:Nat} {hs:List (Nat×How)} {A:g4T} (h:HowsOk tp hs) (e:∀ x,d6Y (e7F tp tys eqs hs owns meths) A n C.In C.Out k K0 x=C.F x):c2J tp n C:=e6S (E:=e7F tp tys eqs hs owns meths) (g8O g6F g5K h follows e6W) f8U fun x _ h=>⟨A,k,K0,(e x).trans h⟩
noncomputable section
def c6U:Con:=⟨⟨[.pl (.sl (.int .u8))],[]⟩,⟨[.ptr 0 []],[.box a0Y (.pl a0Y)]⟩,c8W K0⟩
theorem i0Q:a0Z tp 34 c6U:=a2P (n:=34) (k:=140) (hs:=[]) (A:=fun _ _=>none) trivial (by intro x; kernel_rfl)
def b6R:Con:=⟨⟨[.bp a0Y],[]⟩,⟨[.pl .bool],[]⟩,b7J K0⟩
theorem i0M:a0Z tp 35 b6R:=a2P (n:=35) (k:=140) (hs:=[]) (A:=fun _ _=>none) trivial (by intro x; kernel_rfl)
def b7Q:Con:=⟨⟨[.bp a0Y],[]⟩,⟨[.pl .bool],[]⟩,b3Q K0⟩
theorem h9F:a0Z tp 36 b7Q:=a2P (n:=36) (k:=140) (hs:=[]) (A:=fun _ _=>none) trivial (by intro x; kernel_rfl)
def c8V:Con:=⟨⟨[.pl (.sl (.int .u8)),.pl (.int .i64),.pl (.int .i64)],[]⟩,⟨[.pl a1K,.pl (.int .i64),.pl (.int .i64)],[]⟩,d1D K0⟩
theorem h6H:a0Z tp 161 c8V:=a2P (n:=161) (k:=60) (hs:=[]) (A:=b0H [([1000000,161],11,.join ⟨(dd 1 (.pl (.int .i64)::dd 4 (.ptr 0 []::dd 2 (.pl (.sl (.int .u8))::.pl (.int .i64)::dd 74 [])))),[.box a1K (.pl a1K)]⟩),([1000000,161],4,.join ⟨(.pl (.sl (.int .u8))::.pl (.int .i64)::.pl (.int .i64)::dd 3 (.ptr 0 []::dd 78 [])),[.box a1K (.pl a1K)]⟩),([161],0,.tmpl ⟨(dd 1 (.pl (.int .i64)::dd 4 (.ptr 0 []::dd 2 (.pl (.sl (.int .u8))::.pl (.int .i64)::.ptr 1 []::dd 44 (.pl (.int .i64)::.pl (.int .i64)::dd 27 []))))),[.box a1K (.pl a1K),.box a1K (.pl a1K)]⟩)]) trivial (by intro x; kernel_rfl)
def c5V:Con:=⟨⟨[.pl (.sl (.int .u8)),.pl (.int .i64)],[]⟩,⟨[.pl (.int .u64),.pl (.int .i64),.pl (.int .i64)],[]⟩,c7J K0⟩
theorem h3S:a0Z tp 116 c5V:=a2P (n:=116) (k:=60) (hs:=[(161,.con c8V)]) (A:=fun _ _=>none) ⟨h6H,trivial⟩ (by intro x; kernel_rfl)
def b3O:Con:=⟨⟨[.pl (.sl (.int .u8))],[]⟩,⟨[.pl (.sl (.int .u8))],[]⟩,a9L K0⟩
theorem h1I:a0Z tp 117 b3O:=a2P (n:=117) (k:=60) (hs:=[]) (A:=fun _ _=>none) trivial (by intro x; exact Eq.trans (b:=b4Z K0 x) (by kernel_rfl) (b9P K0 x))
def c7B:Con:=⟨⟨[.pl (.sl (.int .u8)),.pl (.int .i64)],[]⟩,⟨[.pl (.sl (.int .u8)),.pl (.int .i64),.pl (.int .i64)],[]⟩,c8S K0⟩
theorem i0D:a0Z tp 78 c7B:=a2P (n:=78) (k:=60) (hs:=[(116,.con c5V),(117,.con b3O)]) (A:=fun _ _=>none) ⟨h3S,h1I,trivial⟩ (by intro x; kernel_rfl)
def b4L:Con:=⟨⟨[.ptr 0 [],.pl (.int .i64),.pl (.int .i64)],[.box a0Y (.pl a0Y)]⟩,⟨[.pl .bool],[.box a0Y (.pl a0Y)]⟩,b4W K0⟩
theorem h9Q:a0Z tp 79 b4L:=a2P (n:=79) (k:=140) (hs:=[]) (A:=fun _ _=>none) trivial (by intro x; kernel_rfl)
def b6G:Con:=⟨⟨[.ptr 0 []],[.box a0Y (.pl a0Y)]⟩,⟨[.pl (.sl (.int .u8))],[.box a0Y (.pl a0Y)]⟩,b6O K0⟩
theorem i0T:a0Z tp 37 b6G:=a2P (n:=37) (k:=140) (hs:=[(78,.con c7B),(79,.con b4L)]) (A:=fun _ _=>none) ⟨i0D,h9Q,trivial⟩ (by intro x; kernel_rfl)
def c9A:Con:=⟨⟨[.pl (.sl (.int .u8))],[]⟩,⟨[.pl (.sl (.sl (.int .u8))),.pl (.int .i64)],[]⟩,d0X K0⟩
theorem h8S:a0Z tp 13 c9A:=a2P (n:=13) (k:=60) (hs:=[(34,.con c6U),(35,.con b6R),(36,.con b7Q),(37,.con b6G)]) (A:=b0H [([1000000,13],6,.join ⟨(dd 4 (.whole 0::.ptr 1 []::dd 18 [])),[.row (.sl (.int .u8)),.box a0Y (.pl a0Y)]⟩),([13],0,.tmpl ⟨(dd 4 (.whole 0::.ptr 1 []::dd 18 [])),[.row (.sl (.int .u8)),.box a0Y (.pl a0Y)]⟩)]) ⟨i0Q,i0M,h9F,i0T,trivial⟩ (by intro x; kernel_rfl)
def a4T:Con:=⟨⟨[.pl (.int .u64)],[]⟩,⟨[.pl a1K],[]⟩,a1P K0⟩
theorem g6G:a0Z tp 93 a4T:=a2P (n:=93) (k:=60) (hs:=[]) (A:=fun _ _=>none) trivial (by intro x; kernel_rfl)
def c7W:Con:=⟨⟨[],[]⟩,⟨[.pl a0G],[]⟩,c9H K0⟩
theorem i0E:a0Z tp 49 c7W:=a2P (n:=49) (k:=60) (hs:=[(93,.con a4T)]) (A:=fun _ _=>none) ⟨g6G,trivial⟩ (by intro x; kernel_rfl)
def d7F:Con:=⟨⟨[.pl a0G,.pl (.int .i64)],[]⟩,⟨[.pl a1K,.pl (.int .i64)],[]⟩,d8N K0⟩
theorem h6E:a0Z tp 312 d7F:=a2P (n:=312) (k:=90) (hs:=[(93,.con a4T),(304,.inl),(305,.inl)]) (A:=fun _ _=>none) ⟨g6G,trivial⟩ (by intro x; kernel_rfl)
def c9G:Con:=⟨⟨[.pl a0G,.pl (.int .i64)],[]⟩,⟨[.pl (.int .u64),.pl (.int .u64)],[]⟩,d0M K0⟩
theorem h3Z:a0Z tp 313 c9G:=a2P (n:=313) (k:=60) (hs:=[]) (A:=b0H [([1000000,313],12,.join ⟨(dd 2 (.ptr 0 []::dd 3 (.pl (.int .i64)::dd 7 (.pl .bool::dd 10 [])))),[.box a0G (.pl a0G)]⟩),([1000000,313],6,.join ⟨(dd 2 (.ptr 0 []::dd 3 (.pl (.int .i64)::.pl .bool::dd 17 []))),[.box a0G (.pl a0G)]⟩),([1000000,313],9,.join ⟨(dd 2 (.ptr 0 []::dd 3 (.pl (.int .i64)::dd 4 (.pl .bool::dd 13 [])))),[.box a0G (.pl a0G)]⟩)]) trivial (by intro x; kernel_rfl)
def c7E:Con:=⟨⟨[.pl a1K,.pl a1K],[]⟩,⟨[.pl (.int .i64)],[]⟩,c1W⟩
theorem h0H:a0Z tp 314 c7E:=a2P (n:=314) (k:=60) (hs:=[]) (A:=fun p _=>match p with | 1000000::_=>none | _=>some (.unroll 6)) trivial (by intro x; kernel_rfl)
def c0M:Con:=⟨⟨[.pl a0G],[]⟩,⟨[.pl (.int .i64)],[]⟩,c1X K0⟩
theorem h6Q:a0Z tp 263 c0M:=a2P (n:=263) (k:=60) (hs:=[(93,.con a4T),(312,.con d7F),(313,.con c9G),(314,.con c7E)]) (A:=b0H [([263],0,.tmpl ⟨(dd 1 (.ptr 0 []::dd 1 (.pl (.int .i64)::dd 33 []))),[.box a0G (.pl a0G)]⟩)]) ⟨g6G,h6E,h3Z,h0H,trivial⟩ (by intro x; kernel_rfl)
def d0J:Con:=⟨⟨[.pl a0G],[]⟩,⟨[.pl .bool],[]⟩,d3N K0⟩
theorem h6O:a0Z tp 211 d0J:=a2P (n:=211) (k:=60) (hs:=[(263,.con c0M)]) (A:=fun _ _=>none) ⟨h6Q,trivial⟩ (by intro x; kernel_rfl)
def b5H:Con:=⟨⟨[.pl (.int .u64),.pl (.int .u64)],[]⟩,⟨[.pl (.int .u64),.pl (.int .u64)],[]⟩,b6J K0⟩
theorem g8P:a0Z tp 212 b5H:=a2P (n:=212) (k:=60) (hs:=[]) (A:=fun _ _=>none) trivial (by intro x; kernel_rfl)
def c9J:Con:=⟨⟨[.pl (.int .u64),.pl (.int .u64),.pl (.int .u64)],[]⟩,⟨[.pl (.int .u64)],[]⟩,d0U K0⟩
theorem h7T:a0Z tp 254 c9J:=a2P (n:=254) (k:=60) (hs:=[(212,.con b5H)]) (A:=fun _ _=>none) ⟨g8P,trivial⟩ (by intro x; kernel_rfl)
def c6J:Con:=⟨⟨[.pl (.int .u64),.pl (.int .u64),.pl (.int .u64)],[]⟩,⟨[.pl (.int .u64)],[]⟩,c9F K0⟩
theorem h3G:a0Z tp 213 c6J:=a2P (n:=213) (k:=60) (hs:=[(254,.con c9J)]) (A:=fun _ _=>none) ⟨h7T,trivial⟩ (by intro x; kernel_rfl)
def b9I:Con:=⟨⟨[.pl (.int .u64)],[]⟩,⟨[.pl (.int .i64)],[]⟩,b0V K0⟩
theorem h2B:a0Z tp 220 b9I:=a2P (n:=220) (k:=60) (hs:=[]) (A:=b0H [([1000000,220],5,.join ⟨(.pl (.int .u64)::dd 1 (.pl (.int .i64)::dd 22 [])),[]⟩),([1000000,220],8,.join ⟨(.pl (.int .u64)::dd 1 (.pl (.int .i64)::dd 22 [])),[]⟩)]) trivial (by intro x; kernel_rfl)
def b4T:Con:=⟨⟨[.pl (.int .u64)],[]⟩,⟨[.pl (.int .i64)],[]⟩,b6D K0⟩
theorem h4A:a0Z tp 264 b4T:=a2P (n:=264) (k:=60) (hs:=[(220,.con b9I)]) (A:=fun _ _=>none) ⟨h2B,trivial⟩ (by intro x; kernel_rfl)
def c6B:Con:=⟨⟨[.pl (.int .u64),.pl (.int .u64),.pl (.int .u64)],[]⟩,⟨[.pl (.int .u64),.pl (.int .u64)],[]⟩,c6K K0⟩
theorem h7L:a0Z tp 214 c6B:=a2P (n:=214) (k:=60) (hs:=[(264,.con b4T)]) (A:=b0H [([1000000,214],19,.join ⟨(dd 2 (.pl (.int .u64)::dd 5 (.pl (.int .u64)::.pl (.int .u64)::.pl (.int .u64)::.pl (.int .u64)::dd 1 (.pl (.int .u64)::.pl (.int .u64)::.pl (.int .u64)::.pl (.int .u64)::dd 118 [])))),[]⟩),([1000000,214],22,.join ⟨(dd 2 (.pl (.int .u64)::dd 5 (.pl (.int .u64)::.pl (.int .u64)::.pl (.int .u64)::.pl (.int .u64)::dd 1 (.pl (.int .u64)::.pl (.int .u64)::.pl (.int .u64)::dd 119 [])))),[]⟩),([1000000,214],26,.join ⟨(dd 2 (.pl (.int .u64)::dd 5 (.pl (.int .u64)::.pl (.int .u64)::.pl (.int .u64)::dd 3 (.pl (.int .u64)::.pl (.int .u64)::.pl (.int .u64)::.pl (.int .u64)::.pl (.int .u64)::dd 116 [])))),[]⟩),([1000000,214],29,.join ⟨(dd 2 (.pl (.int .u64)::dd 5 (.pl (.int .u64)::dd 5 (.pl (.int .u64)::.pl (.int .u64)::dd 1 (.pl (.int .u64)::.pl (.int .u64)::dd 116 []))))),[]⟩),([1000000,214],4,.join ⟨(.pl (.int .u64)::.pl (.int .u64)::.pl (.int .u64)::dd 132 []),[]⟩),([1000000,214],6,.join ⟨(.pl (.int .u64)::.pl (.int .u64)::.pl (.int .u64)::dd 132 []),[]⟩),([214],0,.tmpl ⟨(dd 2 (.pl (.int .u64)::dd 5 (.pl (.int .u64)::.pl (.int .u64)::.pl (.int .u64)::.pl (.int .u64)::dd 1 (.pl (.int .u64)::.pl (.int .u64)::.pl (.int .u64)::.pl (.int .u64)::dd 118 [])))),[]⟩),([214],2,.tmpl ⟨(dd 2 (.pl (.int .u64)::dd 5 (.pl (.int .u64)::.pl (.int .u64)::.pl (.int .u64)::dd 3 (.pl (.int .u64)::.pl (.int .u64)::.pl (.int .u64)::.pl (.int .u64)::.pl (.int .u64)::dd 116 [])))),[]⟩)]) ⟨h4A,trivial⟩ (by intro x; kernel_rfl)
def c3W:Con:=⟨⟨[.pl (.int .u64),.pl a0G],[]⟩,⟨[.pl (.int .u64),.pl (.int .i64)],[]⟩,c5T K0⟩
theorem h4I:a0Z tp 154 c3W:=a2P (n:=154) (k:=60) (hs:=[(211,.con d0J),(212,.con b5H),(213,.con c6J),(214,.con c6B)]) (A:=fun _ _=>none) ⟨h6O,g8P,h3G,h7L,trivial⟩ (by intro x; kernel_rfl)
def e4Z:Con:=⟨⟨[.pl (.int .u64),.pl (.int .i64)],[]⟩,⟨[.pl (.int .u64),.pl (.int .i64)],[]⟩,f1C K0⟩
theorem h6W:a0Z tp 215 e4Z:=a2P (n:=215) (k:=60) (hs:=[]) (A:=b0H [([1000000,215],4,.join ⟨(.pl (.int .u64)::.pl (.int .i64)::dd 30 []),[]⟩),([215],0,.tmpl ⟨(.pl (.int .u64)::dd 5 (.pl (.int .u64)::.pl (.int .i64)::dd 24 [])),[]⟩)]) trivial (by intro x; kernel_rfl)
theorem h7B:a0Z tp 283 f6Q:=g1E (fn:=Tryz.f283) (by kernel_rfl) (by kernel_rfl) (by kernel_rfl) (by kernel_rfl) (by kernel_rfl)
def d6O:Con:=⟨⟨[.pl a1K,.pl a1K],[]⟩,⟨[.pl a1K,.pl a1K],[]⟩,d9T K0⟩
theorem h4F:a0Z tp 315 d6O:=a2P (n:=315) (k:=60) (hs:=[(212,.con b5H),(283,.con f6Q)]) (A:=b0H [([315],0,.tmpl ⟨(dd 2 (.ptr 0 []::.ptr 1 []::.ptr 2 []::.ptr 3 []::.ptr 4 []::dd 6 (.pl (.int .i64)::dd 55 []))),[.box a1K (.pl a1K),.box a1K (.pl a1K),.box a1K (.pl a1K),.box a1K (.pl a1K),.box (.arr 8 (.int .u64)) (.pl (.arr 8 (.int .u64)))]⟩),([315],2,.tmpl ⟨(dd 2 (.ptr 0 []::.ptr 1 []::.ptr 2 []::.ptr 3 []::.ptr 4 []::.pl (.int .i64)::.pl (.int .u64)::dd 4 (.pl (.int .i64)::dd 2 (.pl (.int .i64)::dd 52 [])))),[.box a1K (.pl a1K),.box a1K (.pl a1K),.box a1K (.pl a1K),.box a1K (.pl a1K),.box (.arr 8 (.int .u64)) (.pl (.arr 8 (.int .u64)))]⟩)]) ⟨g8P,h7B,trivial⟩ (by intro x; kernel_rfl)
def c3X:Con:=⟨⟨[.pl a1K,.pl (.int .u64)],[]⟩,⟨[.pl a1K,.pl (.int .u64)],[]⟩,c6A K0⟩
theorem h4D:a0Z tp 352 c3X:=a2P (n:=352) (k:=60) (hs:=[]) (A:=b0H [([352],0,.tmpl ⟨(dd 1 (.pl (.int .u64)::.ptr 0 []::dd 1 (.ptr 1 []::dd 1 (.pl (.int .u64)::.pl (.int .i64)::dd 27 [])))),[.box a1K (.pl a1K),.box a1K (.pl a1K)]⟩)]) trivial (by intro x; kernel_rfl)
theorem h5A:a0Z tp 341 f8M:=f9G (fn:=Tryz.f341) (by kernel_rfl) (by kernel_rfl) (by kernel_rfl) (by kernel_rfl) (by kernel_rfl)
def c7D:Con:=⟨⟨[.pl a1K,.pl a1K],[]⟩,⟨[.pl a1K],[]⟩,c3H K0⟩
theorem h4C:a0Z tp 353 c7D:=a2P (n:=353) (k:=60) (hs:=[(341,.con f8M)]) (A:=b0H [([353],0,.tmpl ⟨(dd 2 (.ptr 0 []::.ptr 1 []::.ptr 2 []::.pl (.int .u64)::dd 1 (.pl (.int .i64)::dd 17 []))),[.box a1K (.pl a1K),.box a1K (.pl a1K),.box a1K (.pl a1K)]⟩)]) ⟨h5A,trivial⟩ (by intro x; kernel_rfl)
def c9I:Con:=⟨⟨[.pl a1K,.pl a1K,.pl a1K],[]⟩,⟨[.pl a1K,.pl a1K,.pl (.int .i64)],[]⟩,d1H K0⟩
theorem h3O:a0Z tp 316 c9I:=a2P (n:=316) (k:=60) (hs:=[(314,.con c7E),(352,.con c3X),(353,.con c7D)]) (A:=b0H [([1000000,316],13,.join ⟨(dd 3 (.ptr 0 []::dd 1 (.ptr 1 []::.ptr 2 []::.ptr 3 []::dd 1 (.pl (.int .i64)::dd 37 (.pl .bool::dd 14 []))))),[.box a1K (.pl a1K),.box a1K (.pl a1K),.box a1K (.pl a1K),.box a1K (.pl a1K)]⟩),([316],0,.tmpl ⟨(dd 3 (.ptr 0 []::dd 1 (.ptr 1 []::.ptr 2 []::.ptr 3 []::dd 1 (.pl (.int .i64)::dd 52 [])))),[.box a1K (.pl a1K),.box a1K (.pl a1K),.box a1K (.pl a1K),.box a1K (.pl a1K)]⟩)]) ⟨h0H,h4D,h4C,trivial⟩ (by intro x; kernel_rfl)
def c1S:Con:=⟨⟨[.pl a1K,.pl a1K,.pl a1K],[]⟩,⟨[.pl a1K,.pl (.int .i64)],[]⟩,c2R K0⟩
theorem h3U:a0Z tp 265 c1S:=a2P (n:=265) (k:=60) (hs:=[(315,.con d6O),(316,.con c9I)]) (A:=fun _ _=>none) ⟨h4F,h3O,trivial⟩ (by intro x; kernel_rfl)
def d7E:Con:=⟨⟨[.pl a1K,.pl (.int .u64)],[]⟩,⟨[.pl a1K,.pl (.int .i64)],[]⟩,e0H K0⟩
theorem h6B:a0Z tp 216 d7E:=a2P (n:=216) (k:=60) (hs:=[(93,.con a4T),(265,.con c1S)]) (A:=fun _ _=>none) ⟨g6G,h3U,trivial⟩ (by intro x; kernel_rfl)
def c8T:Con:=⟨⟨[.pl a1K,.pl (.int .u64),.pl (.int .i64)],[]⟩,⟨[.pl a1K,.pl (.int .i64)],[]⟩,d1T K0⟩
theorem h7C:a0Z tp 155 c8T:=a2P (n:=155) (k:=60) (hs:=[(215,.con e4Z),(216,.con d7E)]) (A:=fun _ _=>none) ⟨h6W,h6B,trivial⟩ (by intro x; kernel_rfl)
def d3K:Con:=⟨⟨[.pl (.int .u64),.pl a0G],[]⟩,⟨[.pl a1K,.pl (.int .i64)],[]⟩,d7L K0⟩
theorem h8Q:a0Z tp 94 d3K:=a2P (n:=94) (k:=60) (hs:=[(154,.con c3W),(155,.con c8T)]) (A:=fun _ _=>none) ⟨h4I,h7C,trivial⟩ (by intro x; kernel_rfl)
def c8Q:Con:=⟨⟨[.pl a0G],[]⟩,⟨[.pl a1Q,.pl (.int .i64)],[]⟩,d1C K0⟩
theorem i0S:a0Z tp 50 c8Q:=a2P (n:=50) (k:=60) (hs:=[(94,.con d3K)]) (A:=fun _ _=>none) ⟨h8Q,trivial⟩ (by intro x; kernel_rfl)
def c6R:Con:=⟨⟨[],[]⟩,⟨[.pl a0X],[]⟩,c8P K0⟩
theorem i0C:a0Z tp 51 c6R:=a2P (n:=51) (k:=60) (hs:=[(93,.con a4T)]) (A:=fun _ _=>none) ⟨g6G,trivial⟩ (by intro x; kernel_rfl)
def d6H:Con:=⟨⟨[],[]⟩,⟨[.ptr 0 []],a2B⟩,d9V K0⟩
theorem h8X:a0Z tp 52 d6H:=a2P (n:=52) (k:=140) (hs:=[]) (A:=fun _ _=>none) trivial (by intro x; kernel_rfl)
def d7G:Con:=⟨⟨[],[]⟩,⟨[.ptr 0 []],d1F⟩,e0K K0⟩
theorem h9I:a0Z tp 95 d7G:=a2P (n:=95) (k:=140) (hs:=[]) (A:=fun _ _=>none) trivial (by intro x; kernel_rfl)
def d4S:Con:=⟨⟨[],[]⟩,⟨[.ptr 0 []],b6I⟩,d8R K0⟩
theorem i0H:a0Z tp 53 d4S:=a2P (n:=53) (k:=140) (hs:=[(95,.con d7G)]) (A:=fun _ _=>none) ⟨h9I,trivial⟩ (by intro x; kernel_rfl)
def d7I:Con:=⟨⟨[],[]⟩,⟨[.ptr 0 []],c6I⟩,d9J K0⟩
theorem i0G:a0Z tp 54 d7I:=a2P (n:=54) (k:=140) (hs:=[]) (A:=fun _ _=>none) trivial (by intro x; kernel_rfl)
def d0N:Con:=⟨⟨[],[]⟩,⟨[.ptr 0 []],b2K⟩,d3D K0⟩
theorem h9Y:a0Z tp 20 d0N:=a2P (n:=20) (k:=140) (hs:=[(49,.con c7W),(50,.con c8Q),(51,.con c6R),(52,.con d6H),(53,.con d4S),(54,.con d7I)]) (A:=fun _ _=>none) ⟨i0E,i0S,i0C,h8X,i0H,i0G,trivial⟩ (by intro x; kernel_rfl)
def a6W:Con:=⟨⟨[.pl (.sl a1E)],[]⟩,⟨[.whole 0],[.row a1E]⟩,a4K K0⟩
theorem h4S:a0Z tp 97 a6W:=a2P (n:=97) (k:=60) (hs:=[]) (A:=fun _ _=>none) trivial (by intro x; exact Eq.trans (b:=a7R K0 x) (by kernel_rfl) (b0X K0 x))
def b6Z:Con:=⟨⟨[.bp a0M],[]⟩,⟨[.whole 0],[.row a1E]⟩,b7I K0⟩
theorem h9G:a0Z tp 60 b6Z:=a2P (n:=60) (k:=140) (hs:=[(97,.con a6W)]) (A:=fun _ _=>none) ⟨h4S,trivial⟩ (by intro x; kernel_rfl)
def b8S:Con:=⟨⟨[.bp a0M],[]⟩,⟨[.pl (.arr 4 a1K)],[]⟩,c0B K0⟩
theorem i0N:a0Z tp 61 b8S:=a2P (n:=61) (k:=140) (hs:=[]) (A:=fun _ _=>none) trivial (by intro x; kernel_rfl)
def a7C:Con:=⟨⟨[.pl (.sl a1L)],[]⟩,⟨[.whole 0],[.row a1L]⟩,a4J K0⟩
theorem h5H:a0Z tp 98 a7C:=a2P (n:=98) (k:=60) (hs:=[]) (A:=fun _ _=>none) trivial (by intro x; exact Eq.trans (b:=a7W K0 x) (by kernel_rfl) (b1C K0 x))
def c2I:Con:=⟨⟨[.ptr 0 []],b6I⟩,⟨[.whole 4],[.box a7V (.pair (.whole 2) (.pair (.ptr 1 []) (.pl .nil))),.box tY0 (.pair (.whole 3) (.pl .nil)),.row a1L,.row (.arr 32 (.int .u8)),.row a1L]⟩,c3Q K0⟩
theorem h8Y:a0Z tp 62 c2I:=a2P (n:=62) (k:=140) (hs:=[(98,.con a7C)]) (A:=fun _ _=>none) ⟨h5H,trivial⟩ (by intro x; kernel_rfl)
def b7O:Con:=⟨⟨[.bp a3E],[]⟩,⟨[.pl a1K],[]⟩,b8Z K0⟩
theorem h8Z:a0Z tp 63 b7O:=a2P (n:=63) (k:=140) (hs:=[]) (A:=fun _ _=>none) trivial (by intro x; kernel_rfl)
def a7A:Con:=⟨⟨[.pl (.sl a0U)],[]⟩,⟨[.whole 0],[.row a0U]⟩,a4L K0⟩
theorem h7G:a0Z tp 99 a7A:=a2P (n:=99) (k:=60) (hs:=[]) (A:=fun _ _=>none) trivial (by intro x; exact Eq.trans (b:=a7U K0 x) (by kernel_rfl) (b0Y K0 x))
def b5E:Con:=⟨⟨[.bp a3E],[]⟩,⟨[.whole 0],[.row a0U]⟩,b6H K0⟩
theorem h9D:a0Z tp 64 b5E:=a2P (n:=64) (k:=140) (hs:=[(99,.con a7A)]) (A:=fun _ _=>none) ⟨h7G,trivial⟩ (by intro x; kernel_rfl)
def a7P:Con:=⟨⟨[.pl (.sl a1C)],[]⟩,⟨[.whole 0],[.row a1C]⟩,a4X K0⟩
theorem h5M:a0Z tp 65 a7P:=a2P (n:=65) (k:=60) (hs:=[]) (A:=fun _ _=>none) trivial (by intro x; exact Eq.trans (b:=a8L K0 x) (by kernel_rfl) (b2B K0 x))
def c1O:Con:=⟨⟨[.bp a3E],[]⟩,⟨[.pl (.int .i64)],[]⟩,c2W K0⟩
theorem h4L:a0Z tp 100 c1O:=a2P (n:=100) (k:=140) (hs:=[]) (A:=fun _ _=>none) trivial (by intro x; kernel_rfl)
def b7S:Con:=⟨⟨[.bp a3E,.pl (.int .u64)],[]⟩,⟨[.pl .bool],[]⟩,b8P K0⟩
theorem h9A:a0Z tp 66 b7S:=a2P (n:=66) (k:=140) (hs:=[(100,.con c1O)]) (A:=fun _ _=>none) ⟨h4L,trivial⟩ (by intro x; kernel_rfl)
def b6N:Con:=⟨⟨[.ptr 0 []],b2K⟩,⟨[.pair (.pl (.int .u64)) (.pair (.pl a0G) (.pair (.pl a1Q) (.pair (.pl (.int .u64)) (.pair (.pair (.pl a1K) (.pair (.pl (.int .u64)) (.pair (.pl (.int .u64)) (.pair (.pl (.int .u64)) (.pair (.pl a1Y) (.pair (.whole 11) (.pl .nil))))))) (.pair (.whole 12) (.pair (.pl (.arr 4 a1K)) (.pair (.whole 13) (.pair (.whole 14) (.pair (.pl a1K) (.pair (.whole 15) (.pl .nil)))))))))))],[.box b0F (.pair (.pl (.int .u64)) (.pair (.pl a0G) (.pair (.pl a1Q) (.pair (.pl (.int .u64)) (.pair (.pl a0X) (.pair (.ptr 1 []) (.pair (.ptr 2 []) (.pair (.ptr 4 []) (.pl .nil))))))))),.box a0M (.pair (.whole 5) (.pl (.cons (.arr 4 a1K) .nil))),.box a7V (.pair (.whole 6) (.pair (.ptr 3 []) (.pl .nil))),.box tY0 (.pair (.whole 7) (.pl .nil)),.box a3E (.pair (.whole 8) (.pair (.whole 9) (.pair (.pl a1K) (.pair (.whole 10) (.pl .nil))))),.row a1E,.row a1L,.row (.arr 32 (.int .u8)),.row (.arr 32 (.int .u8)),.row .bool,.row a0U,.row a1C,.row a1E,.row a1L,.row .bool,.row a0U]⟩,b7M K0⟩
theorem i0F:a0Z tp 24 b6N:=a2P (n:=24) (k:=140) (hs:=[(60,.con b6Z),(61,.con b8S),(62,.con c2I),(63,.con b7O),(64,.con b5E),(65,.con a7P),(66,.con b7S)]) (A:=b0H [([24],0,.tmpl ⟨(.ptr 0 []::dd 1 (.ptr 11 []::.ptr 17 []::dd 58 (.pl (.int .i64)::.pl (.int .i64)::dd 16 (.ptr 0 []::.ptr 1 []::.ptr 3 []::.ptr 5 []::.ptr 7 []::[])))),[.box b0F ((.pair (.pl (.int .u64)) ((.pair (.pl a0G) ((.pair (.pl a1Q) ((.pair (.pl (.int .u64)) ((.pair (.pl a0X) ((.pair (.ptr 1 []) ((.pair (.ptr 3 []) ((.pair (.ptr 7 []) (.pl .nil))))))))))))))))),.box a0M ((.pair (.whole 2) (.pl (.cons (.arr 4 a1K) .nil)))),.row a1E,.box a7V ((.pair (.whole 4) ((.pair (.ptr 5 []) (.pl .nil))))),.row a1L,.box tY0 ((.pair (.whole 6) (.pl .nil))),.row (.arr 32 (.int .u8)),.box a3E ((.pair (.whole 8) ((.pair (.whole 9) ((.pair (.pl a1K) ((.pair (.whole 10) (.pl .nil))))))))),.row (.arr 32 (.int .u8)),.row .bool,.row a0U,.box c9U ((.pair (.pl (.int .u64)) ((.pair (.pl a0G) ((.pair (.pl a1Q) ((.pair (.pl (.int .u64)) ((.pair ((.pair (.pl a1K) ((.pair (.pl (.int .u64)) ((.pair (.pl (.int .u64)) ((.pair (.pl (.int .u64)) ((.pair (.pl a1Y) ((.pair (.whole 12) (.pl .nil))))))))))))) ((.pair (.whole 13) ((.pair (.pl (.arr 4 a1K)) ((.pair (.whole 14) ((.pair (.whole 15) ((.pair (.pl a1K) ((.pair (.whole 16) (.pl .nil))))))))))))))))))))))),.row a1C,.row a1E,.row a1L,.row .bool,.row a0U,.box c9U ((.pair (.pl (.int .u64)) ((.pair (.pl a0G) ((.pair (.pl a1Q) ((.pair (.pl (.int .u64)) ((.pair ((.pair (.pl a1K) ((.pair (.pl (.int .u64)) ((.pair (.pl (.int .u64)) ((.pair (.pl (.int .u64)) ((.pair (.pl a1Y) ((.pair (.whole 18) (.pl .nil))))))))))))) ((.pair (.whole 19) ((.pair (.pl (.arr 4 a1K)) ((.pair (.whole 20) ((.pair (.whole 21) ((.pair (.pl a1K) ((.pair (.whole 22) (.pl .nil))))))))))))))))))))))),.row a1C,.row a1E,.row a1L,.row .bool,.row a0U]⟩)]) ⟨h9G,i0N,h8Y,h8Z,h9D,h5M,h9A,trivial⟩ (by intro x; kernel_rfl)
def c1Y:Con:=⟨⟨[],[]⟩,⟨[.pl .bool],[]⟩,b2G K0⟩
theorem h8V:a0Z tp 10 c1Y:=a2P (n:=10) (k:=160) (hs:=[(13,.con c9A),(18,.inl),(20,.con d0N),(24,.con b6N),(48,.inl)]) (A:=fun p _=>match p with | 1000000::_=>none | 48::_=>some (.unroll 1) | _=>none) ⟨h8S,h9Y,i0F,trivial⟩ (by intro x; kernel_rfl)
def b5I:Con:=⟨⟨[.pl (.int .i64),.pl (.int .i64)],[]⟩,⟨[.pl (.int .i64)],[]⟩,a4O K0⟩
theorem h3Q:a0Z tp 12 b5I:=a2P (n:=12) (k:=160) (hs:=[]) (A:=fun _ _=>none) trivial (by intro x; kernel_rfl)
def b7E:Con:=⟨⟨[.pl (.sl (.int .u8)),.pl (.sl (.int .u8))],[]⟩,⟨[.pl .bool],[]⟩,b2D K0⟩
theorem h9M:a0Z tp 15 b7E:=a2P (n:=15) (k:=160) (hs:=[]) (A:=fun _ _=>none) trivial (by intro x; kernel_rfl)
def b8R:Con:=⟨⟨[],[]⟩,⟨[.pl a0G],[]⟩,b9V K0⟩
theorem h9J:a0Z tp 67 b8R:=a2P (n:=67) (k:=60) (hs:=[]) (A:=fun _ _=>none) trivial (by intro x; kernel_rfl)
def a1R:Con:=⟨⟨[.pl (.sl (.int .i64))],[]⟩,⟨[.pl a1K],[]⟩,a0P K0⟩
theorem d0A:a0Z tp 143 a1R:=a2P (n:=143) (k:=60) (hs:=[]) (A:=b0H [([1000000,143],6,.join ⟨(.pl (.sl (.int .i64))::dd 1 (.ptr 0 []::.ptr 1 []::.pl (.int .i64)::dd 5 (.pl (.int .i64)::.pl .bool::dd 22 []))),[.box a1K (.pl a1K),.box a1K (.pl a1K)]⟩),([143],0,.tmpl ⟨(.pl (.sl (.int .i64))::dd 1 (.ptr 0 []::.ptr 1 []::.pl (.int .i64)::dd 29 [])),[.box a1K (.pl a1K),.box a1K (.pl a1K)]⟩)]) trivial (by intro x; kernel_rfl)
def a4V:Con:=⟨⟨[.pl (.sl (.int .i64)),.pl (.sl (.int .i64))],[]⟩,⟨[.pl (.int .i64)],[]⟩,a2X K0⟩
theorem e1G:a0Z tp 198 a4V:=a2P (n:=198) (k:=60) (hs:=[]) (A:=b0H [([198],0,.tmpl ⟨(.pl (.sl (.int .i64))::.pl (.sl (.int .i64))::dd 3 (.pl (.int .i64)::dd 35 [])),[]⟩)]) trivial (by intro x; kernel_rfl)
def a9S:Con:=⟨⟨[.pl (.sl (.int .i64)),.pl (.sl (.int .i64))],[]⟩,⟨[.pl (.sl (.int .i64))],[]⟩,a4N K0⟩
theorem f6P:a0Z tp 144 a9S:=a2P (n:=144) (k:=60) (hs:=[(198,.con a4V)]) (A:=fun _ _=>none) ⟨e1G,trivial⟩ (by intro x; kernel_rfl)
def b4E:Con:=⟨⟨[.pl (.sl (.int .i64))],[]⟩,⟨[.pl (.sl (.int .i64))],[]⟩,a6Q K0⟩
theorem g5R:a0Z tp 190 b4E:=a2P (n:=190) (k:=60) (hs:=[]) (A:=b0H [([190],0,.tmpl ⟨(.pl (.sl (.int .i64))::dd 2 (.pl (.int .i64)::dd 17 [])),[]⟩)]) trivial (by intro x; kernel_rfl)
def a0R:Con:=⟨⟨[.pl a1K],[]⟩,⟨[.pl (.sl (.int .i64))],[]⟩,a0C K0⟩
theorem b9L:a0Z tp 138 a0R:=a2P (n:=138) (k:=60) (hs:=[(190,.con b4E)]) (A:=b0H [([138],0,.tmpl ⟨(dd 1 (.ptr 0 []::dd 1 (.whole 1::.pl (.int .i64)::dd 21 []))),[.box a1K (.pl a1K),.row (.int .i64)]⟩)]) ⟨g5R,trivial⟩ (by intro x; kernel_rfl)
def a1T:Con:=⟨⟨[.pl (.int .u64)],[]⟩,⟨[.pl (.sl (.int .i64))],[]⟩,a0H K0⟩
theorem d2M:a0Z tp 145 a1T:=a2P (n:=145) (k:=60) (hs:=[(138,.con a0R)]) (A:=fun _ _=>none) ⟨b9L,trivial⟩ (by intro x; kernel_rfl)
def a3P:Con:=⟨⟨[.pl (.sl (.int .i64)),.pl (.sl (.int .i64))],[]⟩,⟨[.pl (.sl (.int .i64))],[]⟩,a2A K0⟩
theorem d6B:a0Z tp 149 a3P:=a2P (n:=149) (k:=60) (hs:=[(190,.con b4E)]) (A:=b0H [([149],0,.tmpl ⟨(.pl (.sl (.int .i64))::.pl (.sl (.int .i64))::dd 3 (.whole 0::.pl (.int .i64)::dd 56 [])),[.row (.int .i64)]⟩),([149],2,.tmpl ⟨(.pl (.sl (.int .i64))::.pl (.sl (.int .i64))::dd 3 (.whole 0::.pl (.int .i64)::.pl (.int .i64)::.pl (.int .i64)::dd 54 [])),[.row (.int .i64)]⟩)]) ⟨g5R,trivial⟩ (by intro x; kernel_rfl)
def a6R:Con:=⟨⟨[.pl (.sl (.int .i64)),.pl (.sl (.int .i64))],[]⟩,⟨[.pl (.sl (.int .i64))],[]⟩,a2Q K0⟩
theorem d6D:c2J tp 167 a6R:=f6K (n:=167) (k:=80) (hs:=[(190,.inl)]) (A:=b0H [([1000000,167],10,.join ⟨(.pl (.sl (.int .i64))::.pl (.sl (.int .i64))::dd 3 (.whole 0::dd 1 (.pl (.int .i64)::.pl (.int .i64)::dd 35 []))),[.row (.int .i64)]⟩),([167],0,.tmpl ⟨(.pl (.sl (.int .i64))::.pl (.sl (.int .i64))::dd 3 (.whole 0::.pl (.int .i64)::.pl (.int .i64)::dd 36 [])),[.row (.int .i64)]⟩),([190,14,1,167],0,.tmpl ⟨(.whole 0::dd 2 (.pl (.int .i64)::dd 61 [])),[.row (.int .i64)]⟩)]) trivial (by intro x; kernel_rfl)
def c2K:Con:=⟨⟨[.pl (.sl (.int .i64)),.pl (.int .i64)],[]⟩,⟨[.pl (.sl (.int .i64)),.pl (.sl (.int .i64))],[]⟩,b0P K0⟩
theorem h6T:a0Z tp 222 c2K:=a2P (n:=222) (k:=60) (hs:=[(190,.con b4E)]) (A:=b0H [([222],0,.tmpl ⟨(.pl (.sl (.int .i64))::.pl (.int .i64)::dd 4 (.whole 0::.pl (.int .i64)::.pl (.int .i64)::dd 32 [])),[.row (.int .i64)]⟩)]) ⟨g5R,trivial⟩ (by intro x; kernel_rfl)
def a5O:Con:=⟨⟨[.pl (.sl (.int .i64)),.pl (.sl (.int .i64))],[]⟩,⟨[.pl (.sl (.int .i64)),.pl (.sl (.int .i64))],[]⟩,a3R K0⟩
theorem e5L:a0Z tp 168 a5O:=a2P (n:=168) (k:=90) (hs:=[(167,.fresh a6R),(190,.inl),(198,.con a4V),(222,.con c2K)]) (A:=b0H [([168],0,.tmpl ⟨(.pl (.sl (.int .i64))::.pl (.sl (.int .i64))::dd 4 (.whole 0::.whole 1::.pl (.int .i64)::dd 105 [])),[.row (.int .i64),.row (.int .i64)]⟩),([168],2,.tmpl ⟨(.pl (.sl (.int .i64))::.pl (.sl (.int .i64))::dd 4 (.whole 0::.whole 1::.pl (.int .i64)::.pl (.int .i64)::dd 104 [])),[.row (.int .i64),.row (.int .i64)]⟩),([168],4,.tmpl ⟨(.pl (.sl (.int .i64))::.pl (.sl (.int .i64))::dd 4 (.whole 0::.whole 1::.pl (.int .i64)::.pl (.int .i64)::.pl (.int .i64)::.pl (.int .i64)::dd 102 [])),[.row (.int .i64),.row (.int .i64)]⟩),([168],6,.tmpl ⟨(.pl (.sl (.int .i64))::.pl (.sl (.int .i64))::dd 4 (.whole 0::.whole 1::.pl (.int .i64)::.pl (.int .i64)::dd 2 (.pl (.sl (.int .i64))::.pl (.int .i64)::dd 100 []))),[.row (.int .i64),.row (.int .i64)]⟩),([190,18,1,168],0,.tmpl ⟨(.whole 0::dd 2 (.pl (.int .i64)::dd 17 (.pl (.sl (.int .i64))::.pl (.sl (.int .i64))::dd 4 (.whole 1::.whole 0::.pl (.int .i64)::.pl (.int .i64)::dd 104 [])))),[.row (.int .i64),.row (.int .i64)]⟩),([190,19,1,168],0,.tmpl ⟨(.whole 0::dd 2 (.pl (.int .i64)::dd 17 (.pl (.sl (.int .i64))::.pl (.sl (.int .i64))::dd 4 (.whole 1::.whole 0::.pl (.int .i64)::.pl (.int .i64)::dd 104 [])))),[.row (.int .i64),.row (.int .i64)]⟩),([190,27,1,168],0,.tmpl ⟨(.whole 0::dd 2 (.pl (.int .i64)::dd 24 (.whole 1::dd 106 []))),[.row (.int .i64),.row (.int .i64)]⟩),([190,27,3,168],0,.tmpl ⟨(.whole 0::dd 2 (.pl (.int .i64)::dd 128 (.pl (.sl (.int .i64))::dd 2 []))),[.row (.int .i64)]⟩)]) ⟨d6D,e1G,h6T,trivial⟩ (by intro x; kernel_rfl)
def c5R:Con:=⟨⟨[.pl (.int .u64),.pl (.int .u64),.pl (.int .u64)],[]⟩,⟨[.pl .bool],[]⟩,a3Q K0⟩
theorem h4U:a0Z tp 274 c5R:=a2P (n:=274) (k:=60) (hs:=[]) (A:=fun _ _=>none) trivial (by intro x; kernel_rfl)
def b1F:Con:=⟨⟨[.pl a1K],[]⟩,⟨[.pl (.int .u64),.pl .bool],[]⟩,a8D K0⟩
theorem g8M:a0Z tp 172 b1F:=a2P (n:=172) (k:=60) (hs:=[]) (A:=fun _ _=>none) trivial (by intro x; kernel_rfl)
def b9G:Con:=⟨⟨[.pl a1K,.pl (.int .u64)],[]⟩,⟨[.pl .bool],[]⟩,a6N K0⟩
theorem h7Q:a0Z tp 275 b9G:=a2P (n:=275) (k:=60) (hs:=[(172,.con b1F)]) (A:=fun _ _=>none) ⟨g8M,trivial⟩ (by intro x; kernel_rfl)
def b4F:Con:=⟨⟨[.pl a0G],[]⟩,⟨[.pl (.int .i64)],[]⟩,a7I K0⟩
theorem h7N:a0Z tp 235 b4F:=a2P (n:=235) (k:=90) (hs:=[(274,.con c5R),(275,.con b9G)]) (A:=fun p _=>match p with | 1000000::_=>none | _=>some (.unroll 14)) ⟨h4U,h7Q,trivial⟩ (by intro x; kernel_rfl)
def a5Q:Con:=⟨⟨[.pl a0G],[]⟩,⟨[.pl .bool],[]⟩,a3S K0⟩
theorem f3H:a0Z tp 187 a5Q:=a2P (n:=187) (k:=60) (hs:=[(235,.con b4F)]) (A:=fun _ _=>none) ⟨h7N,trivial⟩ (by intro x; kernel_rfl)
def b6L:Con:=⟨⟨[.pl (.int .u64),.pl (.int .u64),.pl (.int .u64)],[]⟩,⟨[.pl (.int .u64)],[]⟩,b0U K0⟩
theorem h1F:a0Z tp 186 b6L:=a2P (n:=186) (k:=60) (hs:=[(143,.con a1R),(145,.con a1T),(149,.con a3P),(167,.fresh a6R),(198,.con a4V)]) (A:=fun _ _=>none) ⟨d0A,d2M,d6B,d6D,e1G,trivial⟩ (by intro x; kernel_rfl)
def c0E:Con:=⟨⟨[.pl (.int .u64),.pl (.int .u64),.pl (.int .u64)],[]⟩,⟨[.pl (.int .u64)],[]⟩,b1H K0⟩
theorem h3R:a0Z tp 217 c0E:=a2P (n:=217) (k:=60) (hs:=[(186,.con b6L)]) (A:=fun _ _=>none) ⟨h1F,trivial⟩ (by intro x; kernel_rfl)
def b7F:Con:=⟨⟨[.pl (.int .u64),.pl a0G],[]⟩,⟨[.pl (.int .u64),.pl (.int .i64)],[]⟩,a9Y K0⟩
theorem h3K:a0Z tp 156 b7F:=a2P (n:=156) (k:=60) (hs:=[(143,.con a1R),(144,.con a9S),(145,.con a1T),(149,.con a3P),(168,.con a5O),(187,.con a5Q),(217,.con c0E)]) (A:=fun _ _=>none) ⟨d0A,f6P,d2M,d6B,e5L,f3H,h3R,trivial⟩ (by intro x; kernel_rfl)
def a2D:Con:=⟨⟨[.pl (.sl (.int .i64)),.pl (.sl (.int .i64))],[]⟩,⟨[.pl (.sl (.int .i64))],[]⟩,a1M K0⟩
theorem c6C:a0Z tp 137 a2D:=a2P (n:=137) (k:=60) (hs:=[]) (A:=b0H [([1000000,137],7,.join ⟨(.pl (.sl (.int .i64))::.pl (.sl (.int .i64))::dd 3 (.whole 0::.pl (.int .i64)::.pl (.int .i64)::dd 44 [])),[.row (.int .i64)]⟩),([1000000,137],9,.join ⟨(.pl (.sl (.int .i64))::.pl (.sl (.int .i64))::dd 3 (.whole 0::.pl (.int .i64)::.pl (.int .i64)::dd 44 [])),[.row (.int .i64)]⟩),([137],0,.tmpl ⟨(.pl (.sl (.int .i64))::.pl (.sl (.int .i64))::dd 3 (.whole 0::.pl (.int .i64)::.pl (.int .i64)::dd 44 [])),[.row (.int .i64)]⟩)]) trivial (by intro x; kernel_rfl)
def c5Z:Con:=⟨⟨[.pl (.int .u64),.pl (.int .i64)],[]⟩,⟨[.pl (.int .u64),.pl (.int .i64)],[]⟩,b6P K0⟩
theorem h6Y:a0Z tp 218 c5Z:=a2P (n:=218) (k:=60) (hs:=[(137,.con a2D),(143,.con a1R),(145,.con a1T),(149,.con a3P),(168,.con a5O)]) (A:=b0H [([1000000,218],4,.join ⟨(.pl (.int .u64)::.pl (.int .i64)::dd 43 []),[]⟩),([218],0,.tmpl ⟨(.pl (.int .u64)::dd 5 (.pl (.sl (.int .i64))::.pl (.int .i64)::dd 37 [])),[]⟩)]) ⟨c6C,d0A,d2M,d6B,e5L,trivial⟩ (by intro x; kernel_rfl)
def a5W:Con:=⟨⟨[.pl (.sl (.int .i64))],[]⟩,⟨[.pl .bool],[]⟩,a2F K0⟩
theorem e7C:a0Z tp 136 a5W:=a2P (n:=136) (k:=60) (hs:=[]) (A:=fun _ _=>none) trivial (by intro x; kernel_rfl)
def a3O:Con:=⟨⟨[.pl (.sl (.int .i64))],[]⟩,⟨[.pl a1K,.pl (.int .i64)],[]⟩,a2O K0⟩
theorem e5P:a0Z tp 185 a3O:=a2P (n:=185) (k:=60) (hs:=[(136,.con a5W),(143,.con a1R)]) (A:=fun _ _=>none) ⟨e7C,d0A,trivial⟩ (by intro x; kernel_rfl)
def c2Y:Con:=⟨⟨[.pl a1K,.pl (.int .u64)],[]⟩,⟨[.pl a1K,.pl (.int .i64)],[]⟩,b4D K0⟩
theorem h3J:a0Z tp 219 c2Y:=a2P (n:=219) (k:=60) (hs:=[(138,.con a0R),(145,.con a1T),(149,.con a3P),(168,.con a5O),(185,.con a3O)]) (A:=fun _ _=>none) ⟨b9L,d2M,d6B,e5L,e5P,trivial⟩ (by intro x; kernel_rfl)
def b8Y:Con:=⟨⟨[.pl a1K,.pl (.int .u64),.pl (.int .i64)],[]⟩,⟨[.pl a1K,.pl (.int .i64)],[]⟩,b0M K0⟩
theorem h3N:a0Z tp 157 b8Y:=a2P (n:=157) (k:=60) (hs:=[(218,.con c5Z),(219,.con c2Y)]) (A:=fun _ _=>none) ⟨h6Y,h3J,trivial⟩ (by intro x; kernel_rfl)
def b8E:Con:=⟨⟨[.pl (.int .u64),.pl a0G],[]⟩,⟨[.pl a1K,.pl (.int .i64)],[]⟩,b2A K0⟩
theorem h0X:a0Z tp 101 b8E:=a2P (n:=101) (k:=60) (hs:=[(156,.con b7F),(157,.con b8Y)]) (A:=fun _ _=>none) ⟨h3K,h3N,trivial⟩ (by intro x; kernel_rfl)
def b8U:Con:=⟨⟨[.pl a0G],[]⟩,⟨[.pl a1Q,.pl (.int .i64)],[]⟩,c0H K0⟩
theorem h8W:a0Z tp 68 b8U:=a2P (n:=68) (k:=60) (hs:=[(101,.con b8E)]) (A:=fun _ _=>none) ⟨h0X,trivial⟩ (by intro x; kernel_rfl)
def b9F:Con:=⟨⟨[],[]⟩,⟨[.pl a0X],[]⟩,c0G K0⟩
theorem h9O:a0Z tp 69 b9F:=a2P (n:=69) (k:=60) (hs:=[]) (A:=fun _ _=>none) trivial (by intro x; kernel_rfl)
def c4R:Con:=⟨⟨[],[]⟩,⟨[.ptr 0 []],a2B⟩,c5O K0⟩
theorem h9R:a0Z tp 70 c4R:=a2P (n:=70) (k:=140) (hs:=[]) (A:=fun _ _=>none) trivial (by intro x; kernel_rfl)
def c4N:Con:=⟨⟨[],[]⟩,⟨[.ptr 0 []],a2S⟩,c5S K0⟩
theorem h9Z:a0Z tp 71 c4N:=a2P (n:=71) (k:=140) (hs:=[]) (A:=fun _ _=>none) trivial (by intro x; kernel_rfl)
def c4J:Con:=⟨⟨[],[]⟩,⟨[.ptr 0 []],a0F⟩,b9S K0⟩
theorem i0V:a0Z tp 25 c4J:=a2P (n:=25) (k:=140) (hs:=[(67,.con b8R),(68,.con b8U),(69,.con b9F),(70,.con c4R),(71,.con c4N)]) (A:=fun _ _=>none) ⟨h9J,h8W,h9O,h9R,h9Z,trivial⟩ (by intro x; kernel_rfl)
def b7D:Con:=⟨⟨[],[]⟩,⟨[.whole 0],[.row a0V]⟩,b2C K0⟩
theorem h9W:a0Z tp 39 b7D:=a2P (n:=39) (k:=140) (hs:=[]) (A:=b0H [([39],0,.tmpl ⟨(dd 1 (.whole 0::.pl (.int .u64)::dd 24 [])),[.row a0V]⟩),([39],2,.tmpl ⟨(dd 1 (.whole 0::dd 1 (.pl (.int .u64)::dd 23 []))),[.row a0V]⟩)]) trivial (by intro x; kernel_rfl)
def b1N:Con:=⟨⟨[.pl (.int .i64)],[]⟩,⟨[.pl .bool],[]⟩,a4C K0⟩
theorem h8L:a0Z tp 42 b1N:=a2P (n:=42) (k:=60) (hs:=[]) (A:=fun _ _=>none) trivial (by intro x; kernel_rfl)
def a3I:Con:=⟨⟨[.pl a1K],[]⟩,⟨[.pl .bool],[]⟩,a2M K0⟩
theorem e2U:a0Z tp 109 a3I:=a2P (n:=109) (k:=60) (hs:=[]) (A:=fun _ _=>none) trivial (by intro x; kernel_rfl)
def b1P:Con:=⟨⟨[.bp a0M,.pl (.int .u64)],[]⟩,⟨[.pl (.int .i64)],[]⟩,a6Y K0⟩
theorem g9U:a0Z tp 199 b1P:=a2P (n:=199) (k:=140) (hs:=[]) (A:=b0H [([199],0,.tmpl ⟨(.bp a0M::.pl (.int .u64)::dd 3 (.pl (.int .i64)::dd 20 [])),[]⟩)]) trivial (by intro x; kernel_rfl)
def a4M:Con:=⟨⟨[.bp a0M,.pl (.int .u64)],[]⟩,⟨[.pl a1E],[]⟩,a3F K0⟩
theorem f4W:a0Z tp 148 a4M:=a2P (n:=148) (k:=140) (hs:=[(199,.con b1P)]) (A:=fun _ _=>none) ⟨g9U,trivial⟩ (by intro x; kernel_rfl)
def b8F:Con:=⟨⟨[.pl a1O,.pl a1K],[]⟩,⟨[.pl (.sl (.int .i64))],[]⟩,a9N K0⟩
theorem h1U:a0Z tp 166 b8F:=a2P (n:=166) (k:=60) (hs:=[(138,.con a0R),(144,.con a9S),(167,.fresh a6R)]) (A:=fun _ _=>none) ⟨b9L,f6P,d6D,trivial⟩ (by intro x; kernel_rfl)
def b7R:Con:=⟨⟨[.pl a1O,.pl a1K],[]⟩,⟨[.pl a1K,.pl (.int .i64)],[]⟩,a9W K0⟩
theorem h4H:a0Z tp 162 b7R:=a2P (n:=162) (k:=60) (hs:=[(137,.con a2D),(138,.con a0R),(166,.con b8F),(185,.con a3O),(198,.con a4V)]) (A:=fun _ _=>none) ⟨c6C,b9L,h1U,e5P,e1G,trivial⟩ (by intro x; kernel_rfl)
def b4G:Con:=⟨⟨[.pl a1Q,.pl a0G],[]⟩,⟨[.pl (.int .u64)],[]⟩,a7J K0⟩
theorem h5L:a0Z tp 163 b4G:=a2P (n:=163) (k:=60) (hs:=[]) (A:=fun _ _=>none) trivial (by intro x; kernel_rfl)
def b9W:Con:=⟨⟨[.pl a1O,.pl a1K,.pl a1K],[]⟩,⟨[.pl .bool],[]⟩,b1B K0⟩
theorem h5Y:a0Z tp 164 b9W:=a2P (n:=164) (k:=60) (hs:=[(137,.con a2D),(138,.con a0R),(145,.con a1T),(149,.con a3P),(198,.con a4V)]) (A:=fun _ _=>none) ⟨c6C,b9L,d2M,d6B,e1G,trivial⟩ (by intro x; kernel_rfl)
def b3N:Con:=⟨⟨[.ptr 0 [],.pl a1O],a0F⟩,⟨[.pl a1K,.pl (.int .i64)],a0F⟩,a6U K0⟩
theorem h3Y:a0Z tp 119 b3N:=a2P (n:=119) (k:=140) (hs:=[(148,.con a4M),(162,.con b7R),(163,.con b4G),(164,.con b9W)]) (A:=b0H [([1000000,119],7,.join ⟨(.ptr 0 []::dd 2 (.ptr 8 []::.ptr 9 []::dd 1 (.ptr 10 []::dd 75 (.ptr 0 []::.ptr 1 []::.ptr 4 []::[])))),[.box a1U ((.pair (.pl (.int .u64)) ((.pair (.pl a0G) ((.pair (.pl a1Q) ((.pair (.pl (.int .u64)) ((.pair (.pl a0X) ((.pair (.ptr 1 []) ((.pair (.whole 3) ((.pair (.ptr 4 []) (.pl .nil))))))))))))))))),.box a0M ((.pair (.whole 2) (.pl (.cons (.arr 4 a1K) .nil)))),.row a1E,.row a1G,.box a1A ((.pair (.pl a1K) ((.pair (.whole 5) ((.pair (.whole 6) ((.pair (.whole 7) (.pl .nil))))))))),.row (.arr 32 (.int .u8)),.row (.int .u64),.row a0U,.box a1O (.pl a1O),.box a1K (.pl a1K),.box a1K (.pl a1K)]⟩)]) ⟨f4W,h4H,h5L,h5Y,trivial⟩ (by intro x; kernel_rfl)
def b5W:Con:=⟨⟨[.pl (.sl (.int .u8)),.pl (.int .i64),.pl (.int .i64)],[]⟩,⟨[.pl (.int .i64)],[]⟩,a8O K0⟩
theorem h6V:a0Z tp 354 b5W:=a2P (n:=354) (k:=60) (hs:=[]) (A:=b0H [([354],0,.tmpl ⟨(.pl (.sl (.int .u8))::.pl (.int .i64)::.pl (.int .i64)::dd 4 (.pl (.int .i64)::dd 30 [])),[]⟩)]) trivial (by intro x; kernel_rfl)
def c3T:Con:=⟨⟨[.pl (.sl (.int .u8)),.pl (.int .i64)],[]⟩,⟨[.pl (.int .i64),.pl (.int .i64)],[]⟩,b5O K0⟩
theorem h6J:a0Z tp 317 c3T:=a2P (n:=317) (k:=60) (hs:=[(354,.con b5W)]) (A:=b0H [([1000000,317],6,.join ⟨(.pl (.sl (.int .u8))::.pl (.int .i64)::dd 4 (.pl (.int .i64)::.pl (.int .i64)::.pl (.int .i64)::dd 4 (.pl (.int .i64)::.pl (.int .i64)::.pl .bool::dd 14 []))),[]⟩),([317],0,.tmpl ⟨(.pl (.sl (.int .u8))::.pl (.int .i64)::dd 4 (.pl (.int .i64)::.pl (.int .i64)::.pl (.int .i64)::dd 21 [])),[]⟩)]) ⟨h6V,trivial⟩ (by intro x; kernel_rfl)
def b8O:Con:=⟨⟨[.pl (.sl (.int .u8))],[]⟩,⟨[.pl (.sl (.int .u8))],[]⟩,b0N K0⟩
theorem h6X:a0Z tp 266 b8O:=a2P (n:=266) (k:=90) (hs:=[(317,.con c3T),(318,.inl)]) (A:=b0H [([266],0,.tmpl ⟨(.pl (.sl (.int .u8))::dd 2 (.whole 0::.pl (.int .i64)::.pl (.int .i64)::dd 45 [])),[.row (.int .u8)]⟩),([318,11,4,266],0,.tmpl ⟨(.whole 0::.pl (.sl (.int .u8))::dd 75 []),[.row (.int .u8)]⟩),([318,7,5,266],0,.tmpl ⟨(.whole 0::.pl (.sl (.int .u8))::dd 24 (.pl (.sl (.int .u8))::dd 4 (.pl (.int .i64)::.pl (.int .i64)::.pl (.int .i64)::dd 43 []))),[.row (.int .u8)]⟩)]) ⟨h6J,trivial⟩ (by intro x; kernel_rfl)
def c1F:Con:=⟨⟨[.pl (.sl (.int .u8)),.pl (.int .u64),.pl (.int .u64)],[]⟩,⟨[.pl (.int .u64),.pl (.int .i64)],[]⟩,b2L K0⟩
theorem h4Q:a0Z tp 221 c1F:=a2P (n:=221) (k:=60) (hs:=[(266,.con b8O)]) (A:=b0H [([1000000,221],9,.join ⟨(dd 2 (.pl (.int .u64)::dd 5 (.pl (.int .u64)::dd 20 []))),[]⟩)]) ⟨h6X,trivial⟩ (by intro x; kernel_rfl)
def c4I:Con:=⟨⟨[.pl a1O,.pl a1K,.pl a1K,.pl a0G],[]⟩,⟨[.pl (.int .u64),.pl (.int .u64),.pl (.int .i64)],[]⟩,b5L K0⟩
theorem h5C:a0Z tp 165 c4I:=a2P (n:=165) (k:=60) (hs:=[(109,.con a3I),(136,.con a5W),(138,.con a0R),(143,.con a1R),(145,.con a1T),(149,.con a3P),(168,.con a5O),(187,.con a5Q),(198,.con a4V),(221,.con c1F)]) (A:=fun _ _=>none) ⟨e2U,e7C,b9L,d0A,d2M,d6B,e5L,f3H,e1G,h4Q,trivial⟩ (by intro x; kernel_rfl)
def b9E:Con:=⟨⟨[.pl a1O,.pl a1K,.pl a1K,.pl a0G],[]⟩,⟨[.pl a3W,.pl (.int .i64)],[]⟩,b0J K0⟩
theorem h3T:a0Z tp 120 b9E:=a2P (n:=120) (k:=60) (hs:=[(136,.con a5W),(137,.con a2D),(138,.con a0R),(143,.con a1R),(144,.con a9S),(145,.con a1T),(149,.con a3P),(165,.con c4I),(166,.con b8F),(167,.fresh a6R),(168,.con a5O)]) (A:=b0H [([1000000,120],20,.join ⟨(dd 8 (.ptr 0 []::dd 4 (.ptr 1 []::dd 1 (.pl (.sl (.int .i64))::.pl (.sl (.int .i64))::dd 1 (.pl (.sl (.int .i64))::dd 1 (.pl (.sl (.int .i64))::dd 1 (.pl (.sl (.int .i64))::dd 111 []))))))),[.box a3W (.pl a3W),.box a3W (.pl a3W)]⟩),([1000000,120],9,.join ⟨(dd 4 (.ptr 0 []::.ptr 1 []::dd 1 (.ptr 2 []::.ptr 3 []::dd 2 (.pl (.int .u64)::dd 1 (.ptr 4 []::dd 120 []))))),[.box a1O (.pl a1O),.box a1K (.pl a1K),.box a0G (.pl a0G),.box a3W (.pl a3W),.box a3W (.pl a3W)]⟩)]) ⟨e7C,c6C,b9L,d0A,f6P,d2M,d6B,h5C,h1U,d6D,e5L,trivial⟩ (by intro x; kernel_rfl)
def b4Y:Con:=⟨⟨[.pl a1C],[]⟩,⟨[.pl .bool],[]⟩,a7Y K0⟩
theorem h6P:a0Z tp 267 b4Y:=a2P (n:=267) (k:=60) (hs:=[(109,.con a3I),(137,.con a2D),(138,.con a0R),(198,.con a4V)]) (A:=fun _ _=>none) ⟨e2U,c6C,b9L,e1G,trivial⟩ (by intro x; kernel_rfl)
def a5P:Con:=⟨⟨[.pl (.sl a1C)],[]⟩,⟨[.pl .bool],[]⟩,a4I K0⟩
theorem f2Q:a0Z tp 223 a5P:=a2P (n:=223) (k:=60) (hs:=[(267,.con b4Y)]) (A:=b0H [([223],0,.tmpl ⟨(.pl (.sl a1C)::dd 2 (.pl (.int .i64)::dd 33 [])),[]⟩)]) ⟨h6P,trivial⟩ (by intro x; kernel_rfl)
def b0D:Con:=⟨⟨[.pl a1Y],[]⟩,⟨[.pl .bool],[]⟩,a5A K0⟩
theorem f9S:a0Z tp 224 b0D:=a2P (n:=224) (k:=60) (hs:=[(109,.con a3I)]) (A:=fun _ _=>none) ⟨e2U,trivial⟩ (by intro x; kernel_rfl)
def b0Z:Con:=⟨⟨[.pl a0X],[]⟩,⟨[.pl .bool],[]⟩,a8F K0⟩
theorem g5M:a0Z tp 169 b0Z:=a2P (n:=169) (k:=60) (hs:=[(223,.con a5P),(224,.con b0D)]) (A:=b0H [([1000000,169],4,.join ⟨(dd 1 (.ptr 0 []::dd 28 [])),[.box a0X (.pl a0X)]⟩),([169],0,.tmpl ⟨(dd 1 (.ptr 0 []::dd 1 (.pl (.int .i64)::dd 26 []))),[.box a0X (.pl a0X)]⟩)]) ⟨f2Q,f9S,trivial⟩ (by intro x; kernel_rfl)
def b7H:Con:=⟨⟨[.pl a0X,.pl (.int .u64)],[]⟩,⟨[.pl a0X,.pl (.int .i64)],[]⟩,b0B K0⟩
theorem h7X:a0Z tp 121 b7H:=a2P (n:=121) (k:=60) (hs:=[(169,.con b0Z)]) (A:=fun _ _=>none) ⟨g5M,trivial⟩ (by intro x; kernel_rfl)
def a8B:Con:=⟨⟨[.ptr 0 [],.pl a1E],a2B⟩,⟨[],a2B⟩,a4Z K0⟩
theorem g7A:a0Z tp 171 a8B:=a2P (n:=171) (k:=140) (hs:=[(199,.con b1P)]) (A:=fun _ _=>none) ⟨g9U,trivial⟩ (by intro x; kernel_rfl)
def a7D:Con:=⟨⟨[.pl a1K,.pl a1K],[]⟩,⟨[.pl a1K,.pl (.int .i64)],[]⟩,a5J K0⟩
theorem f6U:a0Z tp 181 a7D:=a2P (n:=181) (k:=60) (hs:=[(138,.con a0R),(143,.con a1R),(167,.fresh a6R),(198,.con a4V)]) (A:=fun _ _=>none) ⟨b9L,d0A,d6D,e1G,trivial⟩ (by intro x; kernel_rfl)
def a6S:Con:=⟨⟨[.ptr 0 [],.pl (.int .u64),.pl a1K],a2B⟩,⟨[.pl .bool],a2B⟩,a4A K0⟩
theorem g7V:a0Z tp 170 a6S:=a2P (n:=170) (k:=140) (hs:=[(148,.con a4M),(171,.con a8B),(181,.con a7D)]) (A:=fun _ _=>none) ⟨f4W,g7A,f6U,trivial⟩ (by intro x; kernel_rfl)
def b1X:Con:=⟨⟨[.ptr 0 [],.pl (.int .u64),.pl (.int .i64),.pl a1K],a2B⟩,⟨[.pl (.int .i64)],a2B⟩,a2R K0⟩
theorem h7Z:a0Z tp 122 b1X:=a2P (n:=122) (k:=140) (hs:=[(137,.con a2D),(138,.con a0R),(143,.con a1R),(170,.con a6S)]) (A:=b0H [([1000000,122],4,.join ⟨(.ptr 0 []::.pl (.int .u64)::.pl (.int .i64)::dd 4 (.ptr 2 []::dd 34 (.ptr 0 []::[]))),[.box a0M ((.pair (.whole 1) (.pl (.cons (.arr 4 a1K) .nil)))),.row a1E,.box a1K (.pl a1K)]⟩)]) ⟨c6C,b9L,d0A,g7V,trivial⟩ (by intro x; kernel_rfl)
def a8V:Con:=⟨⟨[.ptr 0 [],.pl (.int .u64)],a2B⟩,⟨[.pl (.int .i64)],a2B⟩,a3Z K0⟩
theorem h5E:a0Z tp 123 a8V:=a2P (n:=123) (k:=140) (hs:=[(148,.con a4M),(171,.con a8B)]) (A:=fun _ _=>none) ⟨f4W,g7A,trivial⟩ (by intro x; kernel_rfl)
def c4L:Con:=⟨⟨[.pl (.int .u64),.pl (.int .u64)],[]⟩,⟨[.pl (.int .u64)],[]⟩,a9Q K0⟩
theorem h4K:a0Z tp 124 c4L:=a2P (n:=124) (k:=60) (hs:=[(137,.con a2D),(143,.con a1R),(145,.con a1T),(172,.con b1F)]) (A:=fun _ _=>none) ⟨c6C,d0A,d2M,g8M,trivial⟩ (by intro x; kernel_rfl)
def a9A:Con:=⟨⟨[.ptr 0 [],.pl (.int .u64),.pl a1K],a2B⟩,⟨[],a2B⟩,a5B K0⟩
theorem h0E:a0Z tp 173 a9A:=a2P (n:=173) (k:=140) (hs:=[(137,.con a2D),(138,.con a0R),(143,.con a1R),(148,.con a4M),(171,.con a8B)]) (A:=fun _ _=>none) ⟨c6C,b9L,d0A,f4W,g7A,trivial⟩ (by intro x; kernel_rfl)
def b1V:Con:=⟨⟨[.ptr 0 [],.pl (.int .u64),.pl (.int .u64),.pl a1K],a2B⟩,⟨[.pl (.int .i64)],a2B⟩,a5X K0⟩
theorem h4W:a0Z tp 125 b1V:=a2P (n:=125) (k:=140) (hs:=[(170,.con a6S),(173,.con a9A)]) (A:=b0H [([1000000,125],4,.join ⟨(.ptr 0 []::.pl (.int .u64)::.pl (.int .u64)::dd 4 (.ptr 2 []::dd 16 (.ptr 0 []::[]))),[.box a0M ((.pair (.whole 1) (.pl (.cons (.arr 4 a1K) .nil)))),.row a1E,.box a1K (.pl a1K)]⟩)]) ⟨g7V,h0E,trivial⟩ (by intro x; kernel_rfl)
def b1W:Con:=⟨⟨[.ptr 0 [],.pl (.int .u64),.pl a1K],a2B⟩,⟨[.pl (.int .i64)],a2B⟩,a5Z K0⟩
theorem h3W:a0Z tp 126 b1W:=a2P (n:=126) (k:=140) (hs:=[(170,.con a6S)]) (A:=fun _ _=>none) ⟨g7V,trivial⟩ (by intro x; kernel_rfl)
def c3B:Con:=⟨⟨[],[]⟩,⟨[.pl (.arr 64 (.int .u32))],[]⟩,c3Z K0⟩
theorem h6R:a0Z tp 355 c3B:=a2P (n:=355) (k:=60) (hs:=[]) (A:=fun _ _=>none) trivial (by intro x; kernel_rfl)
def c2N:Con:=⟨⟨[.pl (.int .u32),.pl (.int .u64)],[]⟩,⟨[.pl (.int .u32)],[]⟩,a2V K0⟩
theorem h3X:a0Z tp 356 c2N:=a2P (n:=356) (k:=60) (hs:=[]) (A:=fun _ _=>none) trivial (by intro x; kernel_rfl)
def c2M:Con:=⟨⟨[.pl (.arr 8 (.int .u32)),.pl (.sl (.int .u8))],[]⟩,⟨[.pl (.arr 8 (.int .u32))],[]⟩,b4B K0⟩
theorem h5O:a0Z tp 319 c2M:=a2P (n:=319) (k:=60) (hs:=[(355,.con c3B),(356,.con c2N)]) (A:=b0H [([319],0,.tmpl ⟨(dd 1 (.pl (.sl (.int .u8))::.ptr 0 []::dd 1 (.ptr 1 []::.ptr 2 []::.ptr 3 []::.pl (.int .i64)::dd 183 []))),[.box (.arr 8 (.int .u32)) (.pl (.arr 8 (.int .u32))),.box (.arr 8 (.int .u32)) (.pl (.arr 8 (.int .u32))),.box (.arr 64 (.int .u32)) (.pl (.arr 64 (.int .u32))),.box (.arr 64 (.int .u32)) (.pl (.arr 64 (.int .u32)))]⟩),([319],2,.tmpl ⟨(dd 2 (.ptr 0 []::dd 1 (.ptr 1 []::.ptr 2 []::.ptr 3 []::dd 3 (.ptr 4 []::.pl (.int .i64)::dd 179 [])))),[.box (.arr 8 (.int .u32)) (.pl (.arr 8 (.int .u32))),.box (.arr 8 (.int .u32)) (.pl (.arr 8 (.int .u32))),.box (.arr 64 (.int .u32)) (.pl (.arr 64 (.int .u32))),.box (.arr 64 (.int .u32)) (.pl (.arr 64 (.int .u32))),.box (.arr 8 (.int .u32)) (.pl (.arr 8 (.int .u32)))]⟩),([319],4,.tmpl ⟨(dd 2 (.ptr 0 []::dd 1 (.ptr 1 []::dd 5 (.ptr 2 []::dd 5 (.pl (.int .i64)::dd 174 []))))),[.box (.arr 8 (.int .u32)) (.pl (.arr 8 (.int .u32))),.box (.arr 8 (.int .u32)) (.pl (.arr 8 (.int .u32))),.box (.arr 8 (.int .u32)) (.pl (.arr 8 (.int .u32)))]⟩)]) ⟨h6R,h3X,trivial⟩ (by intro x; kernel_rfl)
def b5N:Con:=⟨⟨[.pl (.sl (.int .u8))],[]⟩,⟨[.pl (.arr 32 (.int .u8))],[]⟩,b0Q K0⟩
theorem g5X:a0Z tp 268 b5N:=a2P (n:=268) (k:=60) (hs:=[(319,.con c2M)]) (A:=b0H [([268],0,.tmpl ⟨(.pl (.sl (.int .u8))::dd 1 (.ptr 0 []::.whole 1::dd 67 [])),[.box (.arr 32 (.int .u8)) (.pl (.arr 32 (.int .u8))),.row (.int .u8)]⟩),([268],2,.tmpl ⟨(dd 2 (.ptr 0 []::.whole 1::.pl (.int .u64)::.pl (.int .i64)::dd 65 [])),[.box (.arr 32 (.int .u8)) (.pl (.arr 32 (.int .u8))),.row (.int .u8)]⟩),([268],4,.tmpl ⟨(dd 2 (.ptr 0 []::.whole 1::dd 2 (.ptr 2 []::.pl (.int .i64)::dd 63 []))),[.box (.arr 32 (.int .u8)) (.pl (.arr 32 (.int .u8))),.row (.int .u8),.box (.arr 8 (.int .u32)) (.pl (.arr 8 (.int .u32)))]⟩),([268],6,.tmpl ⟨(dd 2 (.ptr 0 []::dd 3 (.ptr 1 []::dd 1 (.ptr 2 []::.pl (.int .i64)::dd 61 [])))),[.box (.arr 32 (.int .u8)) (.pl (.arr 32 (.int .u8))),.box (.arr 8 (.int .u32)) (.pl (.arr 8 (.int .u32))),.box (.arr 32 (.int .u8)) (.pl (.arr 32 (.int .u8)))]⟩)]) ⟨h5O,trivial⟩ (by intro x; kernel_rfl)
def c4Q:Con:=⟨⟨[.pl (.sl (.int .u8))],[]⟩,⟨[.pl (.arr 32 (.int .u8))],[]⟩,b5J K0⟩
theorem h5X:a0Z tp 237 c4Q:=a2P (n:=237) (k:=60) (hs:=[(268,.con b5N)]) (A:=fun _ _=>none) ⟨g5X,trivial⟩ (by intro x; kernel_rfl)
def b5S:Con:=⟨⟨[.pl a1K],[]⟩,⟨[.pl (.sl (.int .u8))],[]⟩,a6F K0⟩
theorem h8H:a0Z tp 89 b5S:=a2P (n:=89) (k:=60) (hs:=[]) (A:=b0H [([89],0,.tmpl ⟨(dd 1 (.ptr 0 []::dd 1 (.whole 1::.pl (.int .i64)::dd 27 []))),[.box a1K (.pl a1K),.row (.int .u8)]⟩)]) trivial (by intro x; kernel_rfl)
def a9J:Con:=⟨⟨[.pl (.sl (.int .u8)),.pl a1K],[]⟩,⟨[.pl (.sl (.int .u8))],[]⟩,a5M K0⟩
theorem h8E:a0Z tp 44 a9J:=a2P (n:=44) (k:=60) (hs:=[(89,.con b5S)]) (A:=fun _ _=>none) ⟨h8H,trivial⟩ (by intro x; kernel_rfl)
def b5B:Con:=⟨⟨[.pl (.sl (.int .u8)),.pl (.int .u64)],[]⟩,⟨[.pl (.sl (.int .u8))],[]⟩,a5V K0⟩
theorem i0B:a0Z tp 45 b5B:=a2P (n:=45) (k:=60) (hs:=[(44,.con a9J)]) (A:=fun _ _=>none) ⟨h8E,trivial⟩ (by intro x; kernel_rfl)
def b9Z:Con:=⟨⟨[.pl a1L],[]⟩,⟨[.pl (.sl (.int .u8))],[]⟩,b1K K0⟩
theorem h7O:a0Z tp 238 b9Z:=a2P (n:=238) (k:=60) (hs:=[(44,.con a9J),(45,.con b5B)]) (A:=fun _ _=>none) ⟨h8E,i0B,trivial⟩ (by intro x; kernel_rfl)
def b6Y:Con:=⟨⟨[.pl a1L],[]⟩,⟨[.pl (.arr 32 (.int .u8))],[]⟩,a7F K0⟩
theorem h1C:a0Z tp 194 b6Y:=a2P (n:=194) (k:=60) (hs:=[(237,.con c4Q),(238,.con b9Z)]) (A:=fun _ _=>none) ⟨h5X,h7O,trivial⟩ (by intro x; kernel_rfl)
def b4N:Con:=⟨⟨[.pl (.sl a1L),.pl (.int .i64)],[]⟩,⟨[.pl (.sl (.arr 32 (.int .u8)))],[]⟩,a8X K0⟩
theorem h0A:a0Z tp 197 b4N:=a2P (n:=197) (k:=60) (hs:=[(194,.con b6Y)]) (A:=b0H [([197],0,.tmpl ⟨(.pl (.sl a1G)::.pl (.int .i64)::dd 3 (.whole 0::.pl (.int .i64)::dd 14 [])),[.row (.arr 32 (.int .u8))]⟩)]) ⟨h1C,trivial⟩ (by intro x; kernel_rfl)
def a8S:Con:=⟨⟨[.pl (.int .i64)],[]⟩,⟨[.pl (.int .i64)],[]⟩,a5K K0⟩
theorem g7P:a0Z tp 239 a8S:=a2P (n:=239) (k:=60) (hs:=[]) (A:=b0H [([239],0,.tmpl ⟨(.pl (.int .i64)::dd 2 (.pl (.int .i64)::dd 8 [])),[]⟩)]) trivial (by intro x; kernel_rfl)
def b7U:Con:=⟨⟨[.pl (.arr 32 (.int .u8)),.pl (.arr 32 (.int .u8))],[]⟩,⟨[.pl (.arr 32 (.int .u8))],[]⟩,a9T K0⟩
theorem h0O:a0Z tp 269 b7U:=a2P (n:=269) (k:=60) (hs:=[(268,.con b5N)]) (A:=fun _ _=>none) ⟨g5X,trivial⟩ (by intro x; kernel_rfl)
def b5T:Con:=⟨⟨[.pl (.sl (.arr 32 (.int .u8)))],[]⟩,⟨[.pl (.arr 32 (.int .u8))],[]⟩,a5I K0⟩
def c2C (k0:Nat):Con:=⟨⟨[.pl (.sl (.arr 32 (.int .u8)))],[]⟩,⟨[.pl (.arr 32 (.int .u8))],[]⟩,a3N K0 k0⟩
theorem g3Y:∀ k0,a0Z tp 225 (c2C k0)
 | 0=>fun x y h=>by cases h
 | k0+1=>a2P (n:=225) (k:=60) (hs:=[(225,.con (c2C k0)),(239,.con a8S),(268,.con b5N),(269,.con b7U)]) (A:=fun _ _=>none) ⟨(g3Y k0),g7P,g5X,h0O,trivial⟩ (by intro x; kernel_rfl)
theorem h2F:a0Z tp 225 b5T:=g3Y K0
def c2F:Con:=⟨⟨[.pl (.sl a1L),.pl (.int .i64)],[]⟩,⟨[.pl (.arr 32 (.int .u8)),.pl .bool],[]⟩,b0R K0⟩
theorem h5D:a0Z tp 174 c2F:=a2P (n:=174) (k:=60) (hs:=[(197,.con b4N),(225,.con b5T)]) (A:=b0H [([1000000,174],4,.join ⟨(.pl (.sl a1G)::.pl (.int .i64)::dd 2 (.ptr 0 []::dd 14 [])),[.box (.arr 32 (.int .u8)) (.pl (.arr 32 (.int .u8)))]⟩)]) ⟨h0A,h2F,trivial⟩ (by intro x; kernel_rfl)
def a9H:Con:=⟨⟨[.ptr 0 [],.pl (.int .u64),.pl a1K],a0F⟩,⟨[.pl a1L],a0F⟩,a5L K0⟩
theorem h1J:a0Z tp 127 a9H:=a2P (n:=127) (k:=140) (hs:=[(174,.con c2F)]) (A:=fun _ _=>none) ⟨h5D,trivial⟩ (by intro x; kernel_rfl)
def b5X:Con:=⟨⟨[.ptr 0 [],.pl a1O],a0F⟩,⟨[.pl a3D],a0F⟩,a8P K0⟩
theorem h9C:a0Z tp 81 b5X:=a2P (n:=81) (k:=140) (hs:=[(109,.con a3I),(119,.con b3N),(120,.con b9E),(121,.con b7H),(122,.con b1X),(123,.con a8V),(124,.con c4L),(125,.con b1V),(126,.con b1W),(127,.con a9H)]) (A:=b0H [([1000000,81],22,.join ⟨(.ptr 0 []::dd 2 (.ptr 8 []::.ptr 9 []::dd 4 (.ptr 11 []::dd 171 (.ptr 0 []::.ptr 1 []::.ptr 4 []::[])))),[.box a1U ((.pair (.pl (.int .u64)) ((.pair (.pl a0G) ((.pair (.pl a1Q) ((.pair (.pl (.int .u64)) ((.pair (.pl a0X) ((.pair (.ptr 1 []) ((.pair (.whole 3) ((.pair (.ptr 4 []) (.pl .nil))))))))))))))))),.box a0M ((.pair (.whole 2) (.pl (.cons (.arr 4 a1K) .nil)))),.row a1E,.row a1G,.box a1A ((.pair (.pl a1K) ((.pair (.whole 5) ((.pair (.whole 6) ((.pair (.whole 7) (.pl .nil))))))))),.row (.arr 32 (.int .u8)),.row (.int .u64),.row a0U,.box a1O (.pl a1O),.box a3D ((.pair (.pl (.int .i64)) ((.pair (.pl (.int .i64)) ((.pair (.pl a3W) ((.pair (.pl a1K) ((.pair (.pl a1K) ((.pair (.pl (.int .u64)) ((.pair (.pl a1K) ((.pair (.pl a1K) ((.pair (.whole 10) (.pl .nil))))))))))))))))))),.row a1G,.box a3D ((.pair (.pl (.int .i64)) ((.pair (.pl (.int .i64)) ((.pair (.pl a3W) ((.pair (.pl a1K) ((.pair (.pl a1K) ((.pair (.pl (.int .u64)) ((.pair (.pl a1K) ((.pair (.pl a1K) ((.pair (.whole 12) (.pl .nil))))))))))))))))))),.row a1G]⟩)]) ⟨e2U,h3Y,h3T,h7X,h7Z,h5E,h4K,h4W,h3W,h1J,trivial⟩ (by intro x; kernel_rfl)
def b7Z:Con:=⟨⟨[.pl (.sl a0U)],[]⟩,⟨[.pl a1K,.pl (.int .i64)],[]⟩,b1T K0⟩
theorem h0P:a0Z tp 130 b7Z:=a2P (n:=130) (k:=60) (hs:=[(137,.con a2D),(138,.con a0R),(185,.con a3O)]) (A:=b0H [([130],0,.tmpl ⟨(.pl (.sl a0U)::dd 1 (.ptr 0 []::dd 1 (.pl (.sl (.int .i64))::.pl (.int .i64)::dd 18 []))),[.box a1K (.pl a1K)]⟩)]) ⟨c6C,b9L,e5P,trivial⟩ (by intro x; kernel_rfl)
def b0C:Con:=⟨⟨[.pl (.sl a1C),.pl (.int .u64)],[]⟩,⟨[.pl (.int .i64)],[]⟩,a7E K0⟩
theorem f9T:a0Z tp 226 b0C:=a2P (n:=226) (k:=60) (hs:=[]) (A:=b0H [([226],0,.tmpl ⟨(.pl (.sl a1C)::.pl (.int .u64)::dd 3 (.pl (.int .i64)::dd 14 [])),[]⟩)]) trivial (by intro x; kernel_rfl)
def c1N:Con:=⟨⟨[.pl a1K],[]⟩,⟨[.pl (.int .i64)],[]⟩,b2Q K0⟩
theorem h7J:a0Z tp 227 c1N:=a2P (n:=227) (k:=60) (hs:=[]) (A:=b0H [([227],0,.tmpl ⟨(dd 1 (.ptr 0 []::dd 1 (.pl (.int .i64)::.pl (.int .i64)::dd 17 []))),[.box a1K (.pl a1K)]⟩)]) trivial (by intro x; kernel_rfl)
def c2B:Con:=⟨⟨[.pl a0X,.pl a0G,.pl a1L,.pl (.int .u64)],[]⟩,⟨[.pl (.int .i64)],[]⟩,b2X K0⟩
theorem h6I:a0Z tp 175 c2B:=a2P (n:=175) (k:=60) (hs:=[(169,.con b0Z),(187,.con a5Q),(226,.con b0C),(227,.con c1N)]) (A:=b0H [([1000000,175],10,.join ⟨(dd 6 (.ptr 0 []::dd 29 [])),[.box a1G (.pl a1G)]⟩)]) ⟨g5M,f3H,f9T,h7J,trivial⟩ (by intro x; kernel_rfl)
def b7L:Con:=⟨⟨[.pl (.int .u64),.pl (.int .u64),.pl (.int .u64),.pl (.int .u64)],[]⟩,⟨[.pl (.int .u64),.pl (.int .i64)],[]⟩,a9U K0⟩
theorem h5P:a0Z tp 176 b7L:=a2P (n:=176) (k:=60) (hs:=[(143,.con a1R),(145,.con a1T),(149,.con a3P),(168,.con a5O)]) (A:=b0H [([1000000,176],4,.join ⟨(.pl (.int .u64)::.pl (.int .u64)::.pl (.int .u64)::.pl (.int .u64)::dd 38 []),[]⟩)]) ⟨d0A,d2M,d6B,e5L,trivial⟩ (by intro x; kernel_rfl)
def c1K:Con:=⟨⟨[.pl a1K,.pl a1K],[]⟩,⟨[.pl a1K,.pl (.int .i64)],[]⟩,b2Y K0⟩
theorem h5R:a0Z tp 177 c1K:=a2P (n:=177) (k:=60) (hs:=[(138,.con a0R),(149,.con a3P),(185,.con a3O)]) (A:=fun _ _=>none) ⟨b9L,d6B,e5P,trivial⟩ (by intro x; kernel_rfl)
def c0K:Con:=⟨⟨[.pl (.sl a1C),.pl (.int .u64),.pl a1K,.pl a1K,.pl (.int .u64)],[]⟩,⟨[.pl (.sl a1C),.pl (.int .i64)],[]⟩,b1E K0⟩
theorem h4R:a0Z tp 178 c0K:=a2P (n:=178) (k:=60) (hs:=[(109,.con a3I),(136,.con a5W),(137,.con a2D),(138,.con a0R),(143,.con a1R),(223,.con a5P),(226,.con b0C)]) (A:=b0H [([1000000,178],4,.join ⟨(.pl (.sl a1C)::.pl (.int .u64)::dd 2 (.pl (.int .u64)::dd 2 (.ptr 0 []::.ptr 1 []::dd 97 []))),[.box a1K (.pl a1K),.box a1K (.pl a1K)]⟩)]) ⟨e2U,e7C,c6C,b9L,d0A,f2Q,f9T,trivial⟩ (by intro x; kernel_rfl)
def b9X:Con:=⟨⟨[.pl (.sl a1C)],[]⟩,⟨[.pl (.sl a1C)],[]⟩,b1S K0⟩
theorem h4V:a0Z tp 228 b9X:=a2P (n:=228) (k:=60) (hs:=[]) (A:=b0H [([1000000,228],10,.join ⟨(.pl (.sl a1C)::dd 2 (.whole 0::.pl (.int .i64)::.pl (.int .i64)::dd 76 [])),[.row a1C]⟩),([228],0,.tmpl ⟨(.pl (.sl a1C)::dd 2 (.whole 0::.pl (.int .i64)::dd 77 [])),[.row a1C]⟩),([228],2,.tmpl ⟨(.pl (.sl a1C)::dd 2 (.whole 0::.pl (.int .i64)::.pl (.int .i64)::dd 76 [])),[.row a1C]⟩)]) trivial (by intro x; kernel_rfl)
def c3A:Con:=⟨⟨[.pl (.sl a1C),.pl a1K],[]⟩,⟨[.pl (.sl a0U),.pl (.int .i64)],[]⟩,b4A K0⟩
theorem h3V:a0Z tp 179 c3A:=a2P (n:=179) (k:=60) (hs:=[(138,.con a0R),(143,.con a1R),(144,.con a9S),(167,.fresh a6R),(223,.con a5P),(228,.con b9X)]) (A:=b0H [([1000000,179],10,.join ⟨(dd 6 (.whole 0::.pl (.sl a1C)::.pl (.sl (.int .i64))::.pl (.int .i64)::dd 13 (.pl (.sl (.int .i64))::.pl (.int .i64)::.pl .bool::dd 26 []))),[.row a0U]⟩),([179],0,.tmpl ⟨(dd 6 (.whole 0::.pl (.sl a1C)::.pl (.sl (.int .i64))::.pl (.int .i64)::dd 42 [])),[.row a0U]⟩)]) ⟨b9L,d0A,f6P,d6D,f2Q,h4V,trivial⟩ (by intro x; kernel_rfl)
def b1R:Con:=⟨⟨[.pl a1K,.pl a1K],[]⟩,⟨[.pl a1K,.pl (.int .i64)],[]⟩,a7Z K0⟩
theorem g7U:a0Z tp 191 b1R:=a2P (n:=191) (k:=60) (hs:=[(137,.con a2D),(138,.con a0R),(185,.con a3O)]) (A:=fun _ _=>none) ⟨c6C,b9L,e5P,trivial⟩ (by intro x; kernel_rfl)
def c0D:Con:=⟨⟨[.pl (.sl a1C),.pl (.int .u64),.pl a1K],[]⟩,⟨[.pl (.sl a1C),.pl (.int .i64)],[]⟩,b1I K0⟩
theorem h5J:a0Z tp 229 c0D:=a2P (n:=229) (k:=60) (hs:=[(109,.con a3I),(181,.con a7D),(191,.con b1R),(223,.con a5P),(226,.con b0C)]) (A:=fun _ _=>none) ⟨e2U,f6U,g7U,f2Q,f9T,trivial⟩ (by intro x; kernel_rfl)
def c1A:Con:=⟨⟨[.pl (.sl a1C),.pl (.sl a0U)],[]⟩,⟨[.pl (.sl a1C),.pl (.int .i64)],[]⟩,b2U K0⟩
theorem h5B:a0Z tp 180 c1A:=a2P (n:=180) (k:=60) (hs:=[(229,.con c0D)]) (A:=b0H [([180],0,.tmpl ⟨(dd 1 (.pl (.sl a0U)::dd 4 (.pl (.sl a1C)::.pl (.int .i64)::dd 31 []))),[]⟩)]) ⟨h5J,trivial⟩ (by intro x; kernel_rfl)
def b7K:Con:=⟨⟨[.pl (.sl a1C)],[]⟩,⟨[.pl a1K,.pl (.int .i64)],[]⟩,b0E K0⟩
theorem h4J:a0Z tp 182 b7K:=a2P (n:=182) (k:=60) (hs:=[(137,.con a2D),(138,.con a0R),(185,.con a3O),(223,.con a5P)]) (A:=b0H [([182],0,.tmpl ⟨(.pl (.sl a1C)::dd 1 (.ptr 0 []::dd 1 (.pl (.sl (.int .i64))::.pl (.int .i64)::dd 22 []))),[.box a1K (.pl a1K)]⟩)]) ⟨c6C,b9L,e5P,f2Q,trivial⟩ (by intro x; kernel_rfl)
def b4O:Con:=⟨⟨[.pl a1F],[]⟩,⟨[.pl a1Y,.pl (.int .i64)],[]⟩,a8Y K0⟩
theorem h1Q:a0Z tp 230 b4O:=a2P (n:=230) (k:=60) (hs:=[(185,.con a3O)]) (A:=fun _ _=>none) ⟨e5P,trivial⟩ (by intro x; kernel_rfl)
def a5T:Con:=⟨⟨[.pl .bool,.pl (.sl (.int .i64))],[]⟩,⟨[.pl a1F],[]⟩,a2N K0⟩
theorem e8C:a0Z tp 232 a5T:=a2P (n:=232) (k:=60) (hs:=[]) (A:=fun _ _=>none) trivial (by intro x; kernel_rfl)
def b5Q:Con:=⟨⟨[.pl a1F,.pl a1F],[]⟩,⟨[.pl a1F],[]⟩,a7T K0⟩
theorem g8F:a0Z tp 231 b5Q:=a2P (n:=231) (k:=60) (hs:=[(137,.con a2D),(167,.fresh a6R),(198,.con a4V),(232,.con a5T)]) (A:=fun _ _=>none) ⟨c6C,d6D,e1G,e8C,trivial⟩ (by intro x; kernel_rfl)
def c4D:Con:=⟨⟨[.pl a1K,.pl a1K],[]⟩,⟨[.pl a1Y],[]⟩,b5K K0⟩
theorem h7R:a0Z tp 183 c4D:=a2P (n:=183) (k:=60) (hs:=[(138,.con a0R),(230,.con b4O),(231,.con b5Q),(232,.con a5T)]) (A:=fun _ _=>none) ⟨b9L,h1Q,g8F,e8C,trivial⟩ (by intro x; kernel_rfl)
def b8X:Con:=⟨⟨[.pl a1F,.pl (.sl (.int .i64))],[]⟩,⟨[.pl a1F],[]⟩,a5E K0⟩
theorem h6M:a0Z tp 270 b8X:=a2P (n:=270) (k:=60) (hs:=[(137,.con a2D),(145,.con a1T),(168,.con a5O),(232,.con a5T)]) (A:=b0H [([1000000,270],4,.join ⟨(dd 2 (.ptr 0 []::dd 1 (.ptr 1 []::.pl (.sl (.int .i64))::dd 14 (.pl .bool::dd 7 [])))),[.box a1F (.pl a1F),.box a1F (.pl a1F)]⟩)]) ⟨c6C,d2M,e5L,e8C,trivial⟩ (by intro x; kernel_rfl)
def c1C:Con:=⟨⟨[.pl a1F],[]⟩,⟨[.pl a1F],[]⟩,a6M K0⟩
theorem h3I:a0Z tp 271 c1C:=a2P (n:=271) (k:=60) (hs:=[(232,.con a5T)]) (A:=fun _ _=>none) ⟨e8C,trivial⟩ (by intro x; kernel_rfl)
def b1A:Con:=⟨⟨[.pl a1Y],[]⟩,⟨[.pl a1F],[]⟩,a3M K0⟩
theorem h0L:a0Z tp 272 b1A:=a2P (n:=272) (k:=60) (hs:=[(138,.con a0R),(232,.con a5T)]) (A:=fun _ _=>none) ⟨b9L,e8C,trivial⟩ (by intro x; kernel_rfl)
def c5N:Con:=⟨⟨[.pl a1F,.pl a1F],[]⟩,⟨[.pl a1F],[]⟩,b3G K0⟩
theorem h5U:a0Z tp 273 c5N:=a2P (n:=273) (k:=60) (hs:=[(149,.con a3P),(232,.con a5T)]) (A:=fun _ _=>none) ⟨d6B,e8C,trivial⟩ (by intro x; kernel_rfl)
def c2D:Con:=⟨⟨[.pl a1Y,.pl a1Y,.pl (.int .u64),.pl a0G],[]⟩,⟨[.pl a1Y,.pl (.int .i64)],[]⟩,b2W K0⟩
theorem h5T:a0Z tp 233 c2D:=a2P (n:=233) (k:=60) (hs:=[(136,.con a5W),(137,.con a2D),(145,.con a1T),(168,.con a5O),(187,.con a5Q),(224,.con b0D),(230,.con b4O),(231,.con b5Q),(270,.con b8X),(271,.con c1C),(272,.con b1A),(273,.con c5N)]) (A:=b0H [([1000000,233],13,.join ⟨(dd 2 (.pl (.int .u64)::dd 4 (.ptr 0 []::.ptr 1 []::dd 5 (.ptr 2 []::dd 81 [])))),[.box a0G (.pl a0G),.box a1Y (.pl a1Y),.box a1F (.pl a1F)]⟩),([1000000,233],6,.join ⟨(dd 2 (.pl (.int .u64)::dd 1 (.ptr 0 []::.ptr 1 []::dd 1 (.ptr 2 []::.ptr 3 []::dd 87 [])))),[.box a1Y (.pl a1Y),.box a1Y (.pl a1Y),.box a0G (.pl a0G),.box a1Y (.pl a1Y)]⟩)]) ⟨e7C,c6C,d2M,e5L,f3H,f9S,h1Q,g8F,h6M,h3I,h0L,h5U,trivial⟩ (by intro x; kernel_rfl)
def b6V:Con:=⟨⟨[.pl a1K,.pl a1Y],[]⟩,⟨[.pl a1K,.pl (.int .i64)],[]⟩,a9F K0⟩
theorem h4Y:a0Z tp 234 b6V:=a2P (n:=234) (k:=60) (hs:=[(138,.con a0R),(185,.con a3O),(224,.con b0D),(231,.con b5Q),(232,.con a5T),(272,.con b1A)]) (A:=fun _ _=>none) ⟨b9L,e5P,f9S,g8F,e8C,h0L,trivial⟩ (by intro x; kernel_rfl)
def c2L:Con:=⟨⟨[.pl a1K,.pl a1Y,.pl a1Y,.pl (.int .u64),.pl a0G],[]⟩,⟨[.pl a1K,.pl (.int .i64)],[]⟩,b3V K0⟩
theorem h6K:a0Z tp 184 c2L:=a2P (n:=184) (k:=60) (hs:=[(187,.con a5Q),(224,.con b0D),(233,.con c2D),(234,.con b6V)]) (A:=b0H [([1000000,184],6,.join ⟨(dd 3 (.pl (.int .u64)::dd 1 (.ptr 0 []::.ptr 1 []::.ptr 2 []::dd 1 (.ptr 3 []::.ptr 4 []::dd 36 [])))),[.box a1K (.pl a1K),.box a1Y (.pl a1Y),.box a1Y (.pl a1Y),.box a0G (.pl a0G),.box a1K (.pl a1K)]⟩)]) ⟨f3H,f9S,h5T,h4Y,trivial⟩ (by intro x; kernel_rfl)
def b9U:Con:=⟨⟨[.pl a0X,.pl a0G,.pl a1K,.pl a1L,.pl (.int .u64)],[]⟩,⟨[.pl a0X,.pl a2E,.pl (.int .i64)],[]⟩,b1G K0⟩
theorem h4G:a0Z tp 128 b9U:=a2P (n:=128) (k:=60) (hs:=[(130,.con b7Z),(175,.con c2B),(176,.con b7L),(177,.con c1K),(178,.con c0K),(179,.con c3A),(180,.con c1A),(181,.con a7D),(182,.con b7K),(183,.con c4D),(184,.con c2L)]) (A:=b0H [([1000000,128],11,.join ⟨(dd 5 (.ptr 0 []::.ptr 1 []::.ptr 2 []::.ptr 3 []::dd 1 (.ptr 4 []::.ptr 5 []::dd 2 (.ptr 6 []::.ptr 7 []::dd 153 [])))),[.box a0X (.pl a0X),.box a0G (.pl a0G),.box a1K (.pl a1K),.box a1G (.pl a1G),.box a0X (.pl a0X),.box a2E (.pl a2E),.box a2E (.pl a2E),.box a1K (.pl a1K)]⟩),([1000000,128],30,.join ⟨(dd 5 (.ptr 0 []::dd 2 (.ptr 1 []::dd 1 (.ptr 2 []::.ptr 3 []::dd 2 (.ptr 4 []::dd 2 (.pl (.sl a1C)::dd 151 [])))))),[.box a0X (.pl a0X),.box a1G (.pl a1G),.box a0X (.pl a0X),.box a2E (.pl a2E),.box a2E (.pl a2E)]⟩)]) ⟨h0P,h6I,h5P,h5R,h4R,h3V,h5B,f6U,h4J,h7R,h6K,trivial⟩ (by intro x; kernel_rfl)
def b4M:Con:=⟨⟨[.bp a0M,.pl (.int .i64)],[]⟩,⟨[.pl a1K],[]⟩,a7N K0⟩
theorem h6C:a0Z tp 129 b4M:=a2P (n:=129) (k:=140) (hs:=[]) (A:=fun _ _=>none) trivial (by intro x; kernel_rfl)
def a9G:Con:=⟨⟨[.ptr 0 [],.pl (.int .i64),.pl a1K],a2B⟩,⟨[.pl (.int .i64)],a2B⟩,a4H K0⟩
theorem h5W:a0Z tp 131 a9G:=a2P (n:=131) (k:=140) (hs:=[(181,.con a7D)]) (A:=b0H [([1000000,131],4,.join ⟨(.ptr 0 []::.pl (.int .i64)::dd 3 (.ptr 2 []::dd 30 (.ptr 0 []::[]))),[.box a0M ((.pair (.whole 1) (.pl (.cons (.arr 4 a1K) .nil)))),.row a1E,.box a1K (.pl a1K)]⟩)]) ⟨f6U,trivial⟩ (by intro x; kernel_rfl)
def b2M:Con:=⟨⟨[.ptr 0 [],.pl a1L],a0F⟩,⟨[.pl a3D],a0F⟩,a6H K0⟩
theorem h8T:a0Z tp 82 b2M:=a2P (n:=82) (k:=140) (hs:=[(127,.con a9H),(128,.con b9U),(129,.con b4M),(130,.con b7Z),(131,.con a9G)]) (A:=b0H [([82],0,.tmpl ⟨(.ptr 0 []::dd 3 (.ptr 8 []::dd 1 (.ptr 10 []::dd 1 (.ptr 11 []::.pl (.int .i64)::dd 82 (.ptr 0 []::.ptr 1 []::.ptr 4 []::[]))))),[.box a1U ((.pair (.pl (.int .u64)) ((.pair (.pl a0G) ((.pair (.pl a1Q) ((.pair (.pl (.int .u64)) ((.pair (.pl a0X) ((.pair (.ptr 1 []) ((.pair (.whole 3) ((.pair (.ptr 4 []) (.pl .nil))))))))))))))))),.box a0M ((.pair (.whole 2) (.pl (.cons (.arr 4 a1K) .nil)))),.row a1E,.row a1G,.box a1A ((.pair (.pl a1K) ((.pair (.whole 5) ((.pair (.whole 6) ((.pair (.whole 7) (.pl .nil))))))))),.row (.arr 32 (.int .u8)),.row (.int .u64),.row a0U,.box a3D ((.pair (.pl (.int .i64)) ((.pair (.pl (.int .i64)) ((.pair (.pl a3W) ((.pair (.pl a1K) ((.pair (.pl a1K) ((.pair (.pl (.int .u64)) ((.pair (.pl a1K) ((.pair (.pl a1K) ((.pair (.whole 9) (.pl .nil))))))))))))))))))),.row a1G,.box a2E (.pl a2E),.box a3D ((.pair (.pl (.int .i64)) ((.pair (.pl (.int .i64)) ((.pair (.pl a3W) ((.pair (.pl a1K) ((.pair (.pl a1K) ((.pair (.pl (.int .u64)) ((.pair (.pl a1K) ((.pair (.pl a1K) ((.pair (.whole 12) (.pl .nil))))))))))))))))))),.row a1G]⟩)]) ⟨h1J,h4G,h6C,h0P,h5W,trivial⟩ (by intro x; kernel_rfl)
def c1B:Con:=⟨⟨[.pl (.int .u64),.pl (.int .u64),.pl (.int .u64)],[]⟩,⟨[.pl (.int .u64)],[]⟩,b2F K0⟩
theorem h5N:a0Z tp 132 c1B:=a2P (n:=132) (k:=60) (hs:=[(186,.con b6L)]) (A:=fun _ _=>none) ⟨h1F,trivial⟩ (by intro x; kernel_rfl)
def c3C:Con:=⟨⟨[.pl a1Q,.pl (.int .u64),.pl (.int .u64),.pl a0G],[]⟩,⟨[.pl a1Q,.pl (.int .i64)],[]⟩,b3X K0⟩
theorem h4N:a0Z tp 133 c3C:=a2P (n:=133) (k:=60) (hs:=[(101,.con b8E)]) (A:=b0H [([1000000,133],4,.join ⟨(dd 1 (.pl (.int .u64)::.pl (.int .u64)::dd 1 (.ptr 0 []::dd 2 (.ptr 1 []::.ptr 2 []::dd 43 [])))),[.box a1Q (.pl a1Q),.box a0G (.pl a0G),.box a1Q (.pl a1Q)]⟩)]) ⟨h0X,trivial⟩ (by intro x; kernel_rfl)
def c3S:Con:=⟨⟨[.pl a0G],[]⟩,⟨[.pl (.arr 12 a1K)],[]⟩,c5X K0⟩
theorem h3L:a0Z tp 188 c3S:=a2P (n:=188) (k:=60) (hs:=[]) (A:=fun _ _=>none) trivial (by intro x; kernel_rfl)
def c4E:Con:=⟨⟨[.pl a0G,.pl (.int .i64),.pl a1K],[]⟩,⟨[.pl a0G,.pl (.int .i64)],[]⟩,a8J K0⟩
theorem h6L:a0Z tp 134 c4E:=a2P (n:=134) (k:=60) (hs:=[(172,.con b1F),(187,.con a5Q),(188,.con c3S)]) (A:=b0H [([1000000,134],4,.join ⟨(dd 1 (.pl (.int .i64)::dd 1 (.ptr 0 []::dd 1 (.ptr 1 []::.ptr 2 []::dd 76 [])))),[.box a0G (.pl a0G),.box a1K (.pl a1K),.box a0G (.pl a0G)]⟩),([134],0,.tmpl ⟨(dd 6 (.ptr 0 []::dd 1 (.ptr 1 []::.pl (.int .i64)::dd 73 []))),[.box a0G (.pl a0G),.box (.arr 12 a1K) (.pl (.arr 12 a1K))]⟩)]) ⟨g8M,f3H,h3L,trivial⟩ (by intro x; kernel_rfl)
def c3R:Con:=⟨⟨[.pl (.sl a1C),.pl (.int .u64)],[]⟩,⟨[.pl (.sl a1C),.pl (.int .i64)],[]⟩,b5M K0⟩
theorem h6U:a0Z tp 189 c3R:=a2P (n:=189) (k:=60) (hs:=[(223,.con a5P),(226,.con b0C)]) (A:=b0H [([1000000,189],14,.join ⟨(.pl (.sl a1C)::.pl (.int .u64)::dd 4 (.whole 0::.pl .bool::.pl (.int .i64)::dd 30 (.pl .bool::dd 20 []))),[.row a1C]⟩),([1000000,189],4,.join ⟨(.pl (.sl a1C)::.pl (.int .u64)::dd 58 []),[]⟩),([189],0,.tmpl ⟨(.pl (.sl a1C)::.pl (.int .u64)::dd 4 (.whole 0::.pl .bool::.pl (.int .i64)::dd 51 [])),[.row a1C]⟩)]) ⟨f2Q,f9T,trivial⟩ (by intro x; kernel_rfl)
def b6U:Con:=⟨⟨[.pl a0X,.pl (.int .u64)],[]⟩,⟨[.pl a0X,.pl (.int .i64)],[]⟩,a9C K0⟩
theorem h6G:a0Z tp 135 b6U:=a2P (n:=135) (k:=60) (hs:=[(169,.con b0Z),(189,.con c3R)]) (A:=fun _ _=>none) ⟨g5M,h6U,trivial⟩ (by intro x; kernel_rfl)
def b2J:Con:=⟨⟨[.ptr 0 [],.pl a1K],a2S⟩,⟨[.pl (.int .i64)],a2S⟩,a6J K0⟩
theorem h5Q:a0Z tp 139 b2J:=a2P (n:=139) (k:=140) (hs:=[(109,.con a3I),(191,.con b1R)]) (A:=fun _ _=>none) ⟨e2U,g7U,trivial⟩ (by intro x; kernel_rfl)
def c4A:Con:=⟨⟨[.pl (.sl (.int .i64)),.pl (.sl (.int .i64))],[]⟩,⟨[.whole 0],[.row (.int .i64)]⟩,a9O K0⟩
theorem g2N:a0Z tp 137 c4A:=a2P (n:=137) (k:=80) (hs:=[]) (A:=b0H [([1000000,137],7,.join ⟨(.pl (.sl (.int .i64))::.pl (.sl (.int .i64))::dd 3 (.whole 0::.pl (.int .i64)::.pl (.int .i64)::dd 44 [])),[.row (.int .i64)]⟩),([1000000,137],9,.join ⟨(.pl (.sl (.int .i64))::.pl (.sl (.int .i64))::dd 3 (.whole 0::.pl (.int .i64)::.pl (.int .i64)::dd 44 [])),[.row (.int .i64)]⟩),([137],0,.tmpl ⟨(.pl (.sl (.int .i64))::.pl (.sl (.int .i64))::dd 3 (.whole 0::.pl (.int .i64)::.pl (.int .i64)::dd 44 [])),[.row (.int .i64)]⟩)]) trivial (by intro x; kernel_rfl)
def b3J:Con:=⟨⟨[.bp a0M],[]⟩,⟨[.pl (.sl (.int .i64))],[]⟩,a6V K0⟩
theorem h2V:c2J tp 192 b3J:=f6K (n:=192) (k:=140) (hs:=[(137,.con c4A),(138,.con a0R)]) (A:=b0H [([192],0,.tmpl ⟨(.bp a0M::dd 2 (.whole 0::.pl (.int .i64)::dd 35 [])),[.row (.int .i64)]⟩),([192],2,.tmpl ⟨(.bp a0M::dd 2 (.whole 0::dd 1 (.pl (.int .i64)::dd 34 []))),[.row (.int .i64)]⟩)]) ⟨g2N,b9L,trivial⟩ (by intro x; kernel_rfl)
def b5F:Con:=⟨⟨[.ptr 0 [],.pl (.int .u64),.pl a1K],a2B⟩,⟨[.pl (.int .i64)],a2B⟩,a8E K0⟩
theorem h7H:a0Z tp 140 b5F:=a2P (n:=140) (k:=160) (hs:=[(136,.con a5W),(137,.con a2D),(138,.con a0R),(173,.con a9A),(192,.fresh b3J)]) (A:=fun _ _=>none) ⟨e7C,c6C,b9L,h0E,h2V,trivial⟩ (by intro x; kernel_rfl)
def b2N:Con:=⟨⟨[.bp a1A,.pl (.int .u64)],[]⟩,⟨[.pl .bool],[]⟩,a6G K0⟩
theorem i0U:a0Z tp 75 b2N:=a2P (n:=75) (k:=140) (hs:=[]) (A:=b0H [([75],0,.tmpl ⟨(.bp a1A::.pl (.int .u64)::dd 3 (.pl (.int .i64)::dd 18 [])),[]⟩)]) trivial (by intro x; kernel_rfl)
def c6P:Con:=⟨⟨[.pl (.int .i64),.pl (.int .i64),.pl (.arr 32 (.int .u8)),.pl (.sl (.arr 32 (.int .u8)))],[]⟩,⟨[.pl (.arr 32 (.int .u8)),.pl .bool],[]⟩,b8J K0⟩
def c7F (k0:Nat):Con:=⟨⟨[.pl (.int .i64),.pl (.int .i64),.pl (.arr 32 (.int .u8)),.pl (.sl (.arr 32 (.int .u8)))],[]⟩,⟨[.pl (.arr 32 (.int .u8)),.pl .bool],[]⟩,a5G K0 k0⟩
theorem g3J:∀ k0,a0Z tp 236 (c7F k0)
 | 0=>fun x y h=>by cases h
 | k0+1=>a2P (n:=236) (k:=60) (hs:=[(236,.con (c7F k0)),(239,.con a8S),(269,.con b7U)]) (A:=fun _ _=>none) ⟨(g3J k0),g7P,h0O,trivial⟩ (by intro x; kernel_rfl)
theorem h7Y:a0Z tp 236 c6P:=g3J K0
def c1G:Con:=⟨⟨[.pl (.arr 32 (.int .u8)),.pl (.int .i64),.pl (.int .i64),.pl (.arr 32 (.int .u8)),.pl (.sl (.arr 32 (.int .u8)))],[]⟩,⟨[.pl .bool],[]⟩,a8A K0⟩
theorem h5S:a0Z tp 193 c1G:=a2P (n:=193) (k:=60) (hs:=[(236,.con c6P)]) (A:=b0H [([1000000,193],4,.join ⟨(dd 1 (.pl (.int .i64)::.pl (.int .i64)::dd 1 (.pl (.sl (.arr 32 (.int .u8)))::.ptr 0 []::dd 2 (.ptr 1 []::dd 30 [])))),[.box (.arr 32 (.int .u8)) (.pl (.arr 32 (.int .u8))),.box (.arr 32 (.int .u8)) (.pl (.arr 32 (.int .u8)))]⟩)]) ⟨h7Y,trivial⟩ (by intro x; kernel_rfl)
def b0W:Con:=⟨⟨[.bp a1A,.pl (.int .u64)],[]⟩,⟨[.pl a1K],[]⟩,a5N K0⟩
theorem h6F:a0Z tp 195 b0W:=a2P (n:=195) (k:=140) (hs:=[]) (A:=b0H [([195],0,.tmpl ⟨(.bp a1A::.pl (.int .u64)::dd 2 (.ptr 0 []::.pl (.int .i64)::dd 28 [])),[.box a1K (.pl a1K)]⟩)]) trivial (by intro x; kernel_rfl)
def b4J:Con:=⟨⟨[.ptr 0 [],.pl a4D],a2S⟩,⟨[.pl (.int .i64)],a2S⟩,a7L K0⟩
theorem h4B:a0Z tp 141 b4J:=a2P (n:=141) (k:=140) (hs:=[(75,.con b2N),(109,.con a3I),(181,.con a7D),(191,.con b1R),(193,.con c1G),(194,.con b6Y),(195,.con b0W)]) (A:=b0H [([1000000,141],4,.join ⟨(.ptr 0 []::dd 2 (.ptr 4 []::dd 154 (.ptr 0 []::[]))),[.box a1A ((.pair (.pl a1K) ((.pair (.whole 1) ((.pair (.whole 2) ((.pair (.whole 3) (.pl .nil))))))))),.row (.arr 32 (.int .u8)),.row (.int .u64),.row a0U,.box a4D (.pl a4D)]⟩),([1000000,141],6,.join ⟨(.ptr 0 []::dd 2 (.ptr 4 []::dd 154 (.ptr 0 []::[]))),[.box a1A ((.pair (.pl a1K) ((.pair (.whole 1) ((.pair (.whole 2) ((.pair (.whole 3) (.pl .nil))))))))),.row (.arr 32 (.int .u8)),.row (.int .u64),.row a0U,.box a4D (.pl a4D)]⟩),([141],0,.tmpl ⟨(.ptr 0 []::dd 2 (.ptr 4 []::dd 4 (.ptr 5 []::.pl (.int .i64)::dd 148 (.ptr 0 []::[])))),[.box a1A ((.pair (.pl a1K) ((.pair (.whole 1) ((.pair (.whole 2) ((.pair (.whole 3) (.pl .nil))))))))),.row (.arr 32 (.int .u8)),.row (.int .u64),.row a0U,.box a4D (.pl a4D),.box a1K (.pl a1K)]⟩)]) ⟨i0U,e2U,f6U,g7U,h5S,h1C,h6F,trivial⟩ (by intro x; kernel_rfl)
def b3K:Con:=⟨⟨[.ptr 0 [],.pl a0V],a0F⟩,⟨[.pl (.int .i64)],a0F⟩,a6T K0⟩
theorem i0P:a0Z tp 83 b3K:=a2P (n:=83) (k:=140) (hs:=[(109,.con a3I),(132,.con c1B),(133,.con c3C),(134,.con c4E),(135,.con b6U),(136,.con a5W),(137,.con a2D),(138,.con a0R),(139,.con b2J),(140,.con b5F),(141,.con b4J)]) (A:=b0H [([1000000,83],22,.join ⟨(.ptr 0 []::dd 2 (.ptr 8 []::dd 142 (.ptr 0 []::.ptr 1 []::.ptr 4 []::[]))),[.box a1U ((.pair (.pl (.int .u64)) ((.pair (.pl a0G) ((.pair (.pl a1Q) ((.pair (.pl (.int .u64)) ((.pair (.pl a0X) ((.pair (.ptr 1 []) ((.pair (.whole 3) ((.pair (.ptr 4 []) (.pl .nil))))))))))))))))),.box a0M ((.pair (.whole 2) (.pl (.cons (.arr 4 a1K) .nil)))),.row a1E,.row a1G,.box a1A ((.pair (.pl a1K) ((.pair (.whole 5) ((.pair (.whole 6) ((.pair (.whole 7) (.pl .nil))))))))),.row (.arr 32 (.int .u8)),.row (.int .u64),.row a0U,.box a0V (.pl a0V)]⟩)]) ⟨e2U,h5N,h4N,h6L,h6G,e7C,c6C,b9L,h5Q,h7H,h4B,trivial⟩ (by intro x; kernel_rfl)
def b1Y:Con:=⟨⟨[.ptr 0 [],.pl a0V],a0F⟩,⟨[.pl a3D],a0F⟩,a4F K0⟩
theorem h9X:a0Z tp 40 b1Y:=a2P (n:=40) (k:=140) (hs:=[(42,.con b1N),(81,.con b5X),(82,.con b2M),(83,.con b3K)]) (A:=b0H [([1000000,40],4,.join ⟨(.ptr 0 []::dd 2 (.ptr 8 []::.ptr 9 []::dd 41 (.ptr 0 []::.ptr 1 []::.ptr 4 []::[]))),[.box a1U ((.pair (.pl (.int .u64)) ((.pair (.pl a0G) ((.pair (.pl a1Q) ((.pair (.pl (.int .u64)) ((.pair (.pl a0X) ((.pair (.ptr 1 []) ((.pair (.whole 3) ((.pair (.ptr 4 []) (.pl .nil))))))))))))))))),.box a0M ((.pair (.whole 2) (.pl (.cons (.arr 4 a1K) .nil)))),.row a1E,.row a1G,.box a1A ((.pair (.pl a1K) ((.pair (.whole 5) ((.pair (.whole 6) ((.pair (.whole 7) (.pl .nil))))))))),.row (.arr 32 (.int .u8)),.row (.int .u64),.row a0U,.box a0V (.pl a0V),.box a3D ((.pair (.pl (.int .i64)) ((.pair (.pl (.int .i64)) ((.pair (.pl a3W) ((.pair (.pl a1K) ((.pair (.pl a1K) ((.pair (.pl (.int .u64)) ((.pair (.pl a1K) ((.pair (.pl a1K) ((.pair (.whole 10) (.pl .nil))))))))))))))))))),.row a1G]⟩)]) ⟨h8L,h9C,h8T,i0P,trivial⟩ (by intro x; kernel_rfl)
def b9Y:Con:=⟨⟨[.pl (.int .i64),.pl (.int .u64),.pl .bool],[]⟩,⟨[.pl a0V],[]⟩,b1L K0⟩
theorem h9N:a0Z tp 84 b9Y:=a2P (n:=84) (k:=160) (hs:=[]) (A:=fun _ _=>none) trivial (by intro x; kernel_rfl)
def c1J:Con:=⟨⟨[.pl (.int .i64),.ptr 0 []],a0F⟩,⟨[.pl a1L],a0F⟩,b2Z K0⟩
theorem i0A:a0Z tp 85 c1J:=a2P (n:=85) (k:=160) (hs:=[]) (A:=fun _ _=>none) trivial (by intro x; kernel_rfl)
def c2S:Con:=⟨⟨[.pl (.int .i64)],[]⟩,⟨[.pl a0V],[]⟩,b3Y K0⟩
theorem h8R:a0Z tp 86 c2S:=a2P (n:=86) (k:=160) (hs:=[]) (A:=b0H [([1000000,86],7,.join ⟨(.pl (.int .i64)::dd 1 (.ptr 0 []::dd 3 (.ptr 1 []::dd 56 []))),[.box a0V (.pl a0V),.box a0V (.pl a0V)]⟩)]) trivial (by intro x; kernel_rfl)
def c2U:Con:=⟨⟨[.pl (.sl (.arr 32 (.int .u8))),.pl (.int .i64)],[]⟩,⟨[.whole 0],[.row (.arr 32 (.int .u8))]⟩,b3R K0⟩
def c2P (k0:Nat):Con:=⟨⟨[.pl (.sl (.arr 32 (.int .u8))),.pl (.int .i64)],[]⟩,⟨[.whole 0],[.row (.arr 32 (.int .u8))]⟩,a3U K0 k0⟩
theorem g4G:∀ k0,a0Z tp 196 (c2P k0)
 | 0=>fun x y h=>by cases h
 | k0+1=>a2P (n:=196) (k:=140) (hs:=[(196,.con (c2P k0)),(225,.con b5T),(239,.con a8S)]) (A:=fun _ _=>none) ⟨(g4G k0),h2F,g7P,trivial⟩ (by intro x; kernel_rfl)
theorem h7A:a0Z tp 196 c2U:=g4G K0
def c1L:Con:=⟨⟨[.pl (.sl a1L),.pl (.int .i64),.pl (.int .i64)],[]⟩,⟨[.whole 0,.pl .bool],[.row (.arr 32 (.int .u8))]⟩,b3A K0⟩
theorem h5K:a0Z tp 142 c1L:=a2P (n:=142) (k:=140) (hs:=[(196,.con c2U),(197,.con b4N)]) (A:=b0H [([1000000,142],4,.join ⟨(.pl (.sl a1G)::.pl (.int .i64)::.pl (.int .i64)::dd 23 []),[]⟩)]) ⟨h7A,h0A,trivial⟩ (by intro x; kernel_rfl)
def b5R:Con:=⟨⟨[],[]⟩,⟨[.pl a1K],[]⟩,b3B K0⟩
theorem h0C:a0Z tp 146 b5R:=a2P (n:=146) (k:=60) (hs:=[]) (A:=fun _ _=>none) trivial (by intro x; kernel_rfl)
def c2E:Con:=⟨⟨[.pl (.int .i64)],[]⟩,⟨[.pl (.arr 32 (.int .u8))],[]⟩,b2P K0⟩
theorem h6Z:a0Z tp 147 c2E:=a2P (n:=147) (k:=160) (hs:=[]) (A:=b0H [([147],0,.tmpl ⟨(.pl (.int .i64)::dd 1 (.ptr 0 []::.ptr 1 []::.pl (.int .i64)::dd 14 [])),[.box (.arr 32 (.int .u8)) (.pl (.arr 32 (.int .u8))),.box (.arr 32 (.int .u8)) (.pl (.arr 32 (.int .u8)))]⟩)]) trivial (by intro x; kernel_rfl)
def c2X:Con:=⟨⟨[.pl (.int .i64),.ptr 0 []],a0F⟩,⟨[.pl a4D],a0F⟩,b3U K0⟩
theorem h8U:a0Z tp 87 c2X:=a2P (n:=87) (k:=160) (hs:=[(137,.con a2D),(138,.con a0R),(142,.con c1L),(143,.con a1R),(144,.con a9S),(145,.con a1T),(146,.con b5R),(147,.con c2E)]) (A:=fun _ _=>none) ⟨c6C,b9L,h5K,d0A,f6P,d2M,h0C,h6Z,trivial⟩ (by intro x; kernel_rfl)
def b2S:Con:=⟨⟨[.pl (.sl (.int .i64))],[]⟩,⟨[.pl (.sl (.int .u8))],[]⟩,a4P K0⟩
theorem h4O:a0Z tp 150 b2S:=a2P (n:=150) (k:=160) (hs:=[(12,.con b5I)]) (A:=b0H [([1000000,150],15,.join ⟨(.pl (.sl (.int .i64))::dd 2 (.whole 0::.pl (.int .i64)::.pl (.int .i64)::.pl (.int .i64)::dd 20 (.pl (.int .i64)::dd 18 (.pl .bool::dd 50 [])))),[.row (.int .u8)]⟩),([1000000,150],22,.join ⟨(.pl (.sl (.int .i64))::dd 2 (.whole 0::.pl (.int .i64)::.pl (.int .i64)::.pl (.int .i64)::dd 55 (.pl .bool::dd 34 []))),[.row (.int .u8)]⟩),([1000000,150],25,.join ⟨(.pl (.sl (.int .i64))::dd 2 (.whole 0::.pl (.int .i64)::dd 1 (.pl (.int .i64)::dd 1 (.pl (.int .i64)::dd 88 [])))),[.row (.int .u8)]⟩),([1000000,150],28,.join ⟨(.pl (.sl (.int .i64))::dd 2 (.whole 0::.pl (.int .i64)::dd 1 (.pl (.int .i64)::dd 1 (.pl (.int .i64)::.pl (.int .i64)::dd 68 (.pl (.int .i64)::.pl (.int .i64)::.pl (.int .i64)::.whole 0::.pl (.int .i64)::.pl .bool::dd 13 []))))),[.row (.int .u8)]⟩),([150],0,.tmpl ⟨(.pl (.sl (.int .i64))::dd 2 (.whole 0::.pl (.int .i64)::dd 92 [])),[.row (.int .u8)]⟩),([150],3,.tmpl ⟨(.pl (.sl (.int .i64))::dd 2 (.whole 0::.pl (.int .i64)::.pl (.int .i64)::.pl (.int .i64)::dd 3 (.pl (.int .i64)::dd 86 []))),[.row (.int .u8)]⟩),([150],5,.tmpl ⟨(.pl (.sl (.int .i64))::dd 2 (.whole 0::.pl (.int .i64)::.pl (.int .i64)::.pl (.int .i64)::.pl (.int .i64)::dd 89 [])),[.row (.int .u8)]⟩),([150],7,.tmpl ⟨(.pl (.sl (.int .i64))::dd 2 (.whole 0::.pl (.int .i64)::dd 1 (.pl (.int .i64)::dd 1 (.pl (.int .i64)::.pl (.int .i64)::dd 87 [])))),[.row (.int .u8)]⟩)]) ⟨h3Q,trivial⟩ (by intro x; kernel_rfl)
def b6B:Con:=⟨⟨[.pl (.int .i64),.pl (.int .u64),.ptr 0 []],a0F⟩,⟨[.pl a1O],a0F⟩,a8T K0⟩
theorem h9P:a0Z tp 88 b6B:=a2P (n:=88) (k:=160) (hs:=[(138,.con a0R),(143,.con a1R),(145,.con a1T),(146,.con b5R),(148,.con a4M),(149,.con a3P),(150,.con b2S)]) (A:=fun _ _=>none) ⟨b9L,d0A,d2M,h0C,f4W,d6B,h4O,trivial⟩ (by intro x; kernel_rfl)
def b8N:Con:=⟨⟨[.pl (.int .i64),.ptr 0 [],.pl .bool],a0F⟩,⟨[.pl a0V],a0F⟩,b0L K0⟩
theorem h9V:a0Z tp 41 b8N:=a2P (n:=41) (k:=160) (hs:=[(12,.con b5I),(84,.con b9Y),(85,.con c1J),(86,.con c2S),(87,.con c2X),(88,.con b6B)]) (A:=b0H [([1000000,41],11,.join ⟨(dd 1 (.ptr 0 []::dd 4 (.ptr 8 []::dd 1 (.pl (.int .u64)::.pl (.int .i64)::dd 12 (.pl (.int .i64)::dd 7 (.pl .bool::dd 52 (.ptr 0 []::.ptr 1 []::.ptr 4 []::[]))))))),[.box a1U ((.pair (.pl (.int .u64)) ((.pair (.pl a0G) ((.pair (.pl a1Q) ((.pair (.pl (.int .u64)) ((.pair (.pl a0X) ((.pair (.ptr 1 []) ((.pair (.whole 3) ((.pair (.ptr 4 []) (.pl .nil))))))))))))))))),.box a0M ((.pair (.whole 2) (.pl (.cons (.arr 4 a1K) .nil)))),.row a1E,.row a1G,.box a1A ((.pair (.pl a1K) ((.pair (.whole 5) ((.pair (.whole 6) ((.pair (.whole 7) (.pl .nil))))))))),.row (.arr 32 (.int .u8)),.row (.int .u64),.row a0U,.box a0V (.pl a0V)]⟩),([1000000,41],26,.join ⟨(dd 1 (.ptr 0 []::dd 4 (.ptr 8 []::dd 1 (.pl (.int .u64)::.pl (.int .i64)::dd 61 (.pl .bool::dd 11 (.ptr 0 []::.ptr 1 []::.ptr 4 []::[])))))),[.box a1U ((.pair (.pl (.int .u64)) ((.pair (.pl a0G) ((.pair (.pl a1Q) ((.pair (.pl (.int .u64)) ((.pair (.pl a0X) ((.pair (.ptr 1 []) ((.pair (.whole 3) ((.pair (.ptr 4 []) (.pl .nil))))))))))))))))),.box a0M ((.pair (.whole 2) (.pl (.cons (.arr 4 a1K) .nil)))),.row a1E,.row a1G,.box a1A ((.pair (.pl a1K) ((.pair (.whole 5) ((.pair (.whole 6) ((.pair (.whole 7) (.pl .nil))))))))),.row (.arr 32 (.int .u8)),.row (.int .u64),.row a0U,.box a0V (.pl a0V)]⟩),([1000000,41],8,.join ⟨(dd 1 (.ptr 0 []::.pl .bool::dd 3 (.ptr 8 []::dd 1 (.pl (.int .u64)::.pl (.int .i64)::dd 12 (.pl (.int .i64)::.pl .bool::dd 59 (.ptr 0 []::.ptr 1 []::.ptr 4 []::[])))))),[.box a1U ((.pair (.pl (.int .u64)) ((.pair (.pl a0G) ((.pair (.pl a1Q) ((.pair (.pl (.int .u64)) ((.pair (.pl a0X) ((.pair (.ptr 1 []) ((.pair (.whole 3) ((.pair (.ptr 4 []) (.pl .nil))))))))))))))))),.box a0M ((.pair (.whole 2) (.pl (.cons (.arr 4 a1K) .nil)))),.row a1E,.row a1G,.box a1A ((.pair (.pl a1K) ((.pair (.whole 5) ((.pair (.whole 6) ((.pair (.whole 7) (.pl .nil))))))))),.row (.arr 32 (.int .u8)),.row (.int .u64),.row a0U,.box a0V (.pl a0V)]⟩)]) ⟨h3Q,h9N,i0A,h8R,h8U,h9P,trivial⟩ (by intro x; kernel_rfl)
def b8V:Con:=⟨⟨[.pl (.sl (.int .i64)),.pl .bool],[]⟩,⟨[.ptr 0 [],.whole 8,.whole 9],[.box a1U (.pair (.pl (.int .u64)) (.pair (.pl a0G) (.pair (.pl a1Q) (.pair (.pl (.int .u64)) (.pair (.pl a0X) (.pair (.ptr 1 []) (.pair (.whole 3) (.pair (.ptr 2 []) (.pl .nil))))))))),.box a0M (.pair (.whole 4) (.pl (.cons (.arr 4 a1K) .nil))),.box a1A (.pair (.pl a1K) (.pair (.whole 5) (.pair (.whole 6) (.pair (.whole 7) (.pl .nil))))),.row a1L,.row a1E,.row (.arr 32 (.int .u8)),.row (.int .u64),.row a0U,.row a0V,.row a3D]⟩,b0K K0⟩
theorem ok16:a0Z tp 16 b8V:=a2P (n:=16) (k:=160) (hs:=[(25,.con c4J),(39,.con b7D),(40,.con b1Y),(41,.con b8N)]) (A:=b0H [([16],0,.tmpl ⟨(.pl (.sl (.int .i64))::.pl .bool::dd 5 (.ptr 0 []::.whole 8::.whole 9::.pl (.int .i64)::dd 45 [])),[.box a1U ((.pair (.pl (.int .u64)) ((.pair (.pl a0G) ((.pair (.pl a1Q) ((.pair (.pl (.int .u64)) ((.pair (.pl a0X) ((.pair (.ptr 1 []) ((.pair (.whole 3) ((.pair (.ptr 4 []) (.pl .nil))))))))))))))))),.box a0M ((.pair (.whole 2) (.pl (.cons (.arr 4 a1K) .nil)))),.row a1E,.row a1G,.box a1A ((.pair (.pl a1K) ((.pair (.whole 5) ((.pair (.whole 6) ((.pair (.whole 7) (.pl .nil))))))))),.row (.arr 32 (.int .u8)),.row (.int .u64),.row a0U,.row a0V,.row a3D]⟩),([16],2,.tmpl ⟨(.pl (.sl (.int .i64))::.pl .bool::dd 5 (.ptr 0 []::.whole 8::.whole 9::dd 1 (.pl (.int .i64)::dd 44 []))),[.box a1U ((.pair (.pl (.int .u64)) ((.pair (.pl a0G) ((.pair (.pl a1Q) ((.pair (.pl (.int .u64)) ((.pair (.pl a0X) ((.pair (.ptr 1 []) ((.pair (.whole 3) ((.pair (.ptr 4 []) (.pl .nil))))))))))))))))),.box a0M ((.pair (.whole 2) (.pl (.cons (.arr 4 a1K) .nil)))),.row a1E,.row a1G,.box a1A ((.pair (.pl a1K) ((.pair (.whole 5) ((.pair (.whole 6) ((.pair (.whole 7) (.pl .nil))))))))),.row (.arr 32 (.int .u8)),.row (.int .u64),.row a0U,.row a0V,.row a3D]⟩)]) ⟨i0V,h9W,h9X,h9V,trivial⟩ (by intro x; kernel_rfl)
def a4S:Con:=⟨⟨[.pl (.sl (.int .u8)),.pl a1K],[]⟩,⟨[.whole 0],[.row (.int .u8)]⟩,a1V K0⟩
theorem d4Q:a0Z tp 44 a4S:=a2P (n:=44) (k:=60) (hs:=[(89,.con b5S)]) (A:=fun _ _=>none) ⟨h8H,trivial⟩ (by intro x; kernel_rfl)
def a5D:Con:=⟨⟨[.pl (.sl (.int .u8)),.pl (.int .u64)],[]⟩,⟨[.whole 0],[.row (.int .u8)]⟩,a1B K0⟩
theorem d4L:a0Z tp 45 a5D:=a2P (n:=45) (k:=60) (hs:=[(44,.con a4S)]) (A:=fun _ _=>none) ⟨d4Q,trivial⟩ (by intro x; kernel_rfl)
def a8C:Con:=⟨⟨[.pl (.sl (.int .u8)),.pl (.sl (.int .u8))],[]⟩,⟨[.whole 0],[.row (.int .u8)]⟩,a4Y K0⟩
theorem ok32:a0Z tp 32 a8C:=a2P (n:=32) (k:=60) (hs:=[(45,.con a5D)]) (A:=fun _ _=>none) ⟨d4L,trivial⟩ (by intro x; kernel_rfl)
def c0F:Con:=⟨⟨[.pl a1O],[]⟩,⟨[.pl (.sl (.int .u8)),.pl (.int .i64)],[]⟩,b1Q K0⟩
theorem h9E:a0Z tp 43 c0F:=a2P (n:=43) (k:=60) (hs:=[(32,.con a8C),(44,.con a4S),(45,.con a5D)]) (A:=fun _ _=>none) ⟨ok32,d4Q,d4L,trivial⟩ (by intro x; kernel_rfl)
def c1T:Con:=⟨⟨[.pl (.sl (.int .u8)),.pl a4D],[]⟩,⟨[.pl (.sl (.int .u8))],[]⟩,b2R K0⟩
theorem h9S:a0Z tp 46 c1T:=a2P (n:=46) (k:=60) (hs:=[(44,.con a4S),(45,.con a5D)]) (A:=b0H [([46],0,.tmpl ⟨(.whole 0::dd 2 (.ptr 1 []::dd 1 (.pl (.int .i64)::dd 34 []))),[.row (.int .u8),.box a4D (.pl a4D)]⟩)]) ⟨d4Q,d4L,trivial⟩ (by intro x; kernel_rfl)
def c0I:Con:=⟨⟨[.pl a0V],[]⟩,⟨[.pl (.sl (.int .u8)),.pl (.int .i64)],[]⟩,b1D K0⟩
theorem h9L:a0Z tp 17 c0I:=a2P (n:=17) (k:=60) (hs:=[(32,.con a8C),(42,.con b1N),(43,.con c0F),(44,.con a4S),(45,.con a5D),(46,.con c1T)]) (A:=fun _ _=>none) ⟨ok32,h8L,h9E,d4Q,d4L,h9S,trivial⟩ (by intro x; kernel_rfl)
def b9C:Con:=⟨⟨[.pl (.sl a0V)],[]⟩,⟨[.pl .bool],[]⟩,b0I K0⟩
theorem h9H:a0Z tp 31 b9C:=a2P (n:=31) (k:=160) (hs:=[]) (A:=b0H [([31],0,.tmpl ⟨(.pl (.sl a0V)::dd 2 (.pl (.int .i64)::dd 24 [])),[]⟩)]) trivial (by intro x; kernel_rfl)
def a8Z:Con:=⟨⟨[.pl (.sl (.sl (.int .u8)))],[]⟩,⟨[.whole 0],[.row (.int .u8)]⟩,a5C K0⟩
theorem h1O:a0Z tp 110 a8Z:=h4T [22] (n:=110) (k:=140) (hs:=[(159,.inl)]) (A:=b0H [([110],0,.tmpl ⟨(.pl (.sl (.sl (.int .u8)))::dd 2 (.pl (.int .i64)::dd 5 (.pl (.sl (.sl (.int .u8)))::.pl (.int .i64)::.pl (.int .i64)::dd 24 []))),[]⟩),([110],2,.tmpl ⟨(dd 6 (.whole 0::dd 18 (.pl (.sl (.sl (.int .u8)))::.pl (.int .i64)::.pl (.int .i64)::dd 8 []))),[.row (.int .u8)]⟩)]) trivial (by intro x; kernel_rfl)
def c6Y:Con:=⟨⟨[.pl a1K],[]⟩,⟨[.pl (.int .i64)],[]⟩,b8H K0⟩
theorem h7S:a0Z tp 160 c6Y:=a2P (n:=160) (k:=60) (hs:=[(220,.con b9I)]) (A:=b0H [([160],0,.tmpl ⟨(dd 1 (.ptr 0 []::dd 1 (.pl (.int .i64)::dd 15 []))),[.box a1K (.pl a1K)]⟩)]) ⟨h2B,trivial⟩ (by intro x; kernel_rfl)
def c6L:Con:=⟨⟨[.pl a1K],[]⟩,⟨[.pl (.sl (.int .u8))],[]⟩,c2A K0⟩
theorem h2T:a0Z tp 111 c6L:=a2P (n:=111) (k:=60) (hs:=[(160,.con c6Y)]) (A:=b0H [([111],0,.tmpl ⟨(dd 1 (.ptr 0 []::dd 2 (.whole 1::.pl (.int .i64)::dd 26 []))),[.box a1K (.pl a1K),.row (.int .u8)]⟩)]) ⟨h7S,trivial⟩ (by intro x; kernel_rfl)
def b3Z:Con:=⟨⟨[.pl (.sl (.int .u8)),.pl (.sl (.int .u8))],[]⟩,⟨[.whole 0],[.row (.int .u8)]⟩,a9P K0⟩
theorem h6A:a0Z tp 76 b3Z:=a2P (n:=76) (k:=60) (hs:=[(93,.con a4T),(110,.con a8Z),(111,.con c6L)]) (A:=fun _ _=>none) ⟨g6G,h1O,h2T,trivial⟩ (by intro x; kernel_rfl)
def c8X:Con:=⟨⟨[.pl (.sl (.sl (.int .u8)))],[]⟩,⟨[.pl (.sl (.int .u8))],[]⟩,c0R K0⟩
theorem i0O:a0Z tp 29 c8X:=a2P (n:=29) (k:=60) (hs:=[(76,.con b3Z)]) (A:=b0H [([29],0,.tmpl ⟨(dd 3 (.whole 0::dd 2 (.pl (.sl (.sl (.int .u8)))::.pl (.int .i64)::.pl (.int .i64)::dd 9 []))),[.row (.int .u8)]⟩)]) ⟨h6A,trivial⟩ (by intro x; kernel_rfl)
def a8U:Con:=⟨⟨[.pl (.sl (.int .u8)),.pl a1K],[]⟩,⟨[.whole 0],[.row (.int .u8)]⟩,a3B K0⟩
theorem g1I:a0Z tp 113 a8U:=a2P (n:=113) (k:=60) (hs:=[(110,.con a8Z),(111,.con c6L)]) (A:=fun _ _=>none) ⟨h1O,h2T,trivial⟩ (by intro x; kernel_rfl)
def b2O:Con:=⟨⟨[.pl (.sl (.int .u8)),.pl (.int .u64)],[]⟩,⟨[.whole 0],[.row (.int .u8)]⟩,a1Z K0⟩
theorem g6Z:a0Z tp 114 b2O:=a2P (n:=114) (k:=60) (hs:=[(93,.con a4T),(113,.con a8U)]) (A:=fun _ _=>none) ⟨g6G,g1I,trivial⟩ (by intro x; kernel_rfl)
def d9C:Con:=⟨⟨[.pl a1O],[]⟩,⟨[.pl (.sl (.int .u8)),.pl (.int .i64)],[]⟩,d0L K0⟩
theorem h4E:a0Z tp 112 d9C:=a2P (n:=112) (k:=60) (hs:=[(76,.con b3Z),(113,.con a8U),(114,.con b2O)]) (A:=fun _ _=>none) ⟨h6A,g1I,g6Z,trivial⟩ (by intro x; kernel_rfl)
def c4H:Con:=⟨⟨[.pl (.sl (.int .u8)),.pl a4D],[]⟩,⟨[.pl (.sl (.int .u8))],[]⟩,b5P K0⟩
theorem h7I:a0Z tp 115 c4H:=a2P (n:=115) (k:=60) (hs:=[(113,.con a8U),(114,.con b2O)]) (A:=b0H [([115],0,.tmpl ⟨(.whole 0::dd 27 (.pl (.sl (.arr 32 (.int .u8)))::.pl (.int .i64)::.pl (.int .i64)::dd 8 [])),[.row (.int .u8)]⟩)]) ⟨g1I,g6Z,trivial⟩ (by intro x; kernel_rfl)
def d3A:Con:=⟨⟨[.pl a0V],[]⟩,⟨[.pl (.sl (.int .u8)),.pl (.int .i64)],[]⟩,c4W K0⟩
theorem i0L:a0Z tp 77 d3A:=a2P (n:=77) (k:=60) (hs:=[(76,.con b3Z),(112,.con d9C),(113,.con a8U),(114,.con b2O),(115,.con c4H)]) (A:=b0H [([1000000,77],3,.join ⟨(dd 1 (.ptr 0 []::dd 5 (.pl .bool::dd 101 []))),[.box a0V (.pl a0V)]⟩),([1000000,77],5,.join ⟨(dd 1 (.ptr 0 []::dd 14 (.pl .bool::dd 92 []))),[.box a0V (.pl a0V)]⟩),([1000000,77],8,.join ⟨(dd 1 (.ptr 0 []::dd 107 [])),[.box a0V (.pl a0V)]⟩)]) ⟨h6A,h4E,g1I,g6Z,h7I,trivial⟩ (by intro x; kernel_rfl)
def c1P:Con:=⟨⟨[.pl (.sl a0V)],[]⟩,⟨[.pl (.sl (.int .u8)),.pl (.int .i64)],[]⟩,b2I K0⟩
theorem i0R:a0Z tp 33 c1P:=a2P (n:=33) (k:=60) (hs:=[(29,.con c8X),(77,.con d3A)]) (A:=b0H [([33],0,.tmpl ⟨(dd 4 (.whole 0::dd 4 (.pl (.sl a0V)::.pl (.int .i64)::.pl (.int .i64)::dd 18 []))),[.row (.sl (.int .u8))]⟩)]) ⟨i0O,i0L,trivial⟩ (by intro x; kernel_rfl)
def b8C:Con:=⟨⟨[.pl (.sl a0V),.pl (.sl (.int .i64)),.pl .bool],[]⟩,⟨[.pl .bool],[]⟩,a5F K0⟩
theorem ok8:a0Z tp 8 b8C:=a2P (n:=8) (k:=160) (hs:=[(10,.con c1Y),(12,.con b5I),(15,.con b7E),(16,.con b8V),(17,.con c0I),(31,.con b9C),(32,.con a8C),(33,.con c1P)]) (A:=b0H [([1000000,8],12,.join ⟨(.pl (.sl a0V)::dd 7 (.whole 0::dd 107 [])),[.row a0V]⟩),([1000000,8],20,.join ⟨(dd 12 (.pl (.sl a0V)::.whole 0::dd 1 (.pl (.int .i64)::dd 56 (.pl (.arr 2 (.sl a0V))::.pl (.int .i64)::dd 7 (.pl (.int .i64)::.pl .bool::dd 33 []))))),[.row (.int .u8)]⟩),([1000000,8],22,.join ⟨(dd 12 (.pl (.sl a0V)::.whole 0::.pl (.int .i64)::dd 57 (.pl (.arr 2 (.sl a0V))::.pl (.int .i64)::dd 42 []))),[.row (.int .u8)]⟩),([1000000,8],24,.join ⟨(dd 12 (.pl (.sl a0V)::.whole 0::.pl (.int .i64)::dd 57 (.pl (.arr 2 (.sl a0V))::.pl (.int .i64)::dd 42 []))),[.row (.int .u8)]⟩),([1000000,8],3,.join ⟨(.pl (.sl a0V)::.pl (.sl (.int .i64))::.pl .bool::dd 28 (.pl .bool::dd 84 [])),[]⟩),([1000000,8],4,.join ⟨(.pl (.sl a0V)::.pl (.sl (.int .i64))::.pl .bool::dd 113 []),[]⟩),([8],0,.tmpl ⟨(.whole 0::dd 7 (.whole 1::dd 1 (.pl (.int .i64)::dd 105 []))),[.row a0V,.row a0V]⟩),([8],2,.tmpl ⟨(dd 72 (.pl (.arr 2 (.sl a0V))::.pl (.int .i64)::dd 42 [])),[]⟩),([8],4,.tmpl ⟨(dd 12 (.pl (.sl a0V)::.whole 0::.pl (.int .i64)::.pl (.int .i64)::dd 56 (.pl (.arr 2 (.sl a0V))::.pl (.int .i64)::dd 42 []))),[.row (.int .u8)]⟩)]) ⟨h8V,h3Q,h9M,ok16,h9L,h9H,ok32,i0R,trivial⟩ (by intro x; kernel_rfl)
end
end Sym

/- Rules for what a printed function computes. -/
namespace Sym
open Go
def Wp {R:Type} (T:R→Prop) (r:R):Prop:=T r
theorem Wp.brn {R:Type} {T:R→Prop} {c:Bool} {t f:R} (h1:c=true→Wp T t) (h2:c=false→Wp T f):Wp T (brn c t f):=by
 cases c
 ·
  exact h2 rfl
 ·
  exact h1 rfl
theorem Wp.brnT {R:Type} {T:R→Prop} {c:Bool} {t f:R} (hc:c=true) (h:Wp T t):Wp T (Sym.brn c t f):=by subst hc; exact h
theorem Wp.brnF {R:Type} {T:R→Prop} {c:Bool} {t f:R} (hc:c=false) (h:Wp T f):Wp T (Sym.brn c t f):=by subst hc; exact h
theorem Wp.optF {R Y:Type} {T:R→Prop} {fail:R} {o:Option Y} {k:Y→R} {y:Y} (ho:o=some y) (h:Wp T (k y)):Wp T (optF fail o k):=by subst ho; exact h
theorem Wp.call {R Y:Type} {T:R→Prop} {fail:R} {o:Option Y} {k:Y→R} {P:Y→Prop} (ho:∃ y,o=some y∧P y) (h:∀ y,P y→Wp T (k y)):Wp T (Sym.optF fail o k):=by
 obtain ⟨y,rfl,hp⟩:=ho
 exact h y hp
theorem Wp.jn {X R:Type} {T:R→Prop} {J:X→R} {f:(X→R)→R} (P:X→Prop) (h1:∀ x,P x→Wp T (J x)) (h2:∀ j:X→R,(∀ x,P x→Wp T (j x))→Wp T (f j)):Wp T (jn J f):=h2 J h1
def Rnd {X R:Type} (T:R→Prop) (Inv:X→Prop) (μ:X→Nat) (m:Nat) (s:Stp X R):Prop :=
 match s with
 | .again y=>Inv y∧μ y<m
 | .done r=>Wp T r
theorem Wp.again {X R:Type} {T:R→Prop} {Inv:X→Prop} {μ:X→Nat} {m:Nat} {y:X} (h1:Inv y) (h2:μ y<m):Wp (Rnd T Inv μ m) (.again y:Stp X R):=⟨h1,h2⟩
theorem Wp.done {X R:Type} {T:R→Prop} {Inv:X→Prop} {μ:X→Nat} {m:Nat} {r:R} (h:Wp T r):Wp (Rnd T Inv μ m) (.done r:Stp X R):=h
theorem Wp.iter {X R:Type} {T:R→Prop} {fail:R} {f:X→Stp X R} {x:X} (Inv:X→Prop) (μ:X→Nat) {k:Nat} (h:∀ x,Inv x→Wp (Rnd T Inv μ (μ x)) (f x)) (hi:Inv x) (hm:μ x<k):Wp T (iter fail f k x):=by
 induction k generalizing x with
 | zero=>omega
 | succ k ih =>
  have h1:=h x hi
  unfold Sym.iter
  cases hf:f x with
  | again y =>
   rw [hf] at h1
   exact ih h1.1 (Nat.lt_of_lt_of_le h1.2 (by omega))
  | done r =>
   rw [hf] at h1
   exact h1
def Nxt {X R:Type} (T:R→Prop) (fail:R) (f:X→Stp X R) (k:Nat) (s:Stp X R):Prop :=
 match s with
 | .again y=>Wp T (Sym.iter fail f k y)
 | .done r=>Wp T r
theorem Wp.unroll {X R:Type} {T:R→Prop} {fail:R} {f:X→Stp X R} {x:X} {k:Nat} (h:Wp (Nxt T fail f k) (f x)):Wp T (Sym.iter fail f (k+1) x):=by
 unfold Sym.iter
 cases hf:f x with
 | again y=>rw [hf] at h; exact h
 | done r=>rw [hf] at h; exact h
theorem Wp.next {X R:Type} {T:R→Prop} {fail:R} {f:X→Stp X R} {y:X} {k:Nat} (h:Wp T (Sym.iter fail f k y)):Wp (Nxt T fail f k) (.again y):=h
theorem Wp.stop {X R:Type} {T:R→Prop} {fail:R} {f:X→Stp X R} {r:R} {k:Nat} (h:Wp T r):Wp (Nxt T fail f k) (.done r):=h
theorem Wp.out {R:Type} {T:R→Prop} {r:R} (h:Wp T r):T r:=h
theorem I.of_val {k:IntKind} {n:Int} (h:k.min≤n∧n≤k.max):(I.of k n).val=n:=a8K h
theorem b8W {n:Int} (h:0≤n∧n<18446744073709551616):(I.of .u64 n).val=n:=I.of_val ⟨by simp [IntKind.min,IntKind.signed]; omega,by simp [IntKind.max,IntKind.bits,IntKind.signed]; omega⟩
theorem b6T {n:Int} (h:-9223372036854775808≤n∧n<9223372036854775808):(I.of .i64 n).val=n:=I.of_val ⟨by simp [IntKind.min,IntKind.bits,IntKind.signed]; omega,by simp [IntKind.max,IntKind.bits,IntKind.signed]; omega⟩
theorem g5I {n:Int} (h:0≤n∧n<256):(I.of .u8 n).val=n:=I.of_val ⟨by simp [IntKind.min,IntKind.signed]; omega,by simp [IntKind.max,IntKind.bits,IntKind.signed]; omega⟩
theorem a6K (x:I .u64):0≤x.val∧x.val<18446744073709551616:=c5C x
theorem b6K (x:I .i64):-9223372036854775808≤x.val∧x.val<9223372036854775808:=by
 have h:=x.ok
 have h1:(2^IntKind.i64.bits:Int)=18446744073709551616:=by decide
 have h2:(2^(IntKind.i64.bits-1):Int)=9223372036854775808:=by decide
 have h3:IntKind.i64.signed=true:=rfl
 simp only [IntKind.wrap,h1,h2,h3,Bool.true_and,decide_eq_true_eq] at h
 split at h<;>omega
theorem g0D (x:I .u8):0≤x.val∧x.val<256:=by
 have h:=x.ok
 simp only [IntKind.wrap,IntKind.bits,IntKind.signed,Bool.false_and,Bool.false_eq_true,if_false] at h
 omega
theorem iff_ltb {k:IntKind} {a b:I k}:I.ltb a b=true↔a.val<b.val:=by simp [I.ltb]
theorem iff_leb {k:IntKind} {a b:I k}:I.leb a b=true↔a.val≤b.val:=by simp [I.leb]
theorem iff_eqb {k:IntKind} {a b:I k}:I.eqb a b=true↔a.val=b.val:=by simp [I.eqb]
theorem iff_neb {k:IntKind} {a b:I k}:I.neb a b=true↔a.val≠b.val:=by simp [I.neb]
theorem niff_ltb {k:IntKind} {a b:I k}:I.ltb a b=false↔b.val≤a.val:=by simp [I.ltb]
theorem niff_leb {k:IntKind} {a b:I k}:I.leb a b=false↔b.val<a.val:=by simp [I.leb]
theorem niff_eqb {k:IntKind} {a b:I k}:I.eqb a b=false↔a.val≠b.val:=by simp [I.eqb]
theorem niff_neb {k:IntKind} {a b:I k}:I.neb a b=false↔a.val=b.val:=by simp [I.neb]
theorem iff_nz {k:IntKind} {a:I k}:I.nz a=true↔a.val≠0:=by simp [I.nz]
theorem iff_nn {k:IntKind} {a:I k}:I.nn a=true↔0≤a.val:=by simp [I.nn]
theorem iff_inB {k:IntKind} {a:I k} {n:Nat}:inB a n=true↔0≤a.val∧a.val<n:=by simp [inB]
theorem iff_fits {n:Nat}:a1D n=true↔n≤1073741824:=by simp [a1D]
theorem I.eq_of {k:IntKind} {a b:I k} (h:I.eqb a b=true):a=b:=I.ext' (iff_eqb.1 h)
theorem a2Z {n:Nat} (h:n<9223372036854775808):(I.ofNat .i64 n).val=n:=b6T ⟨by omega,by omega⟩
theorem a6A {a b:I .i64} (h:-9223372036854775808≤a.val+b.val∧a.val+b.val<9223372036854775808):(I.add a b).val=a.val+b.val:=b6T h
theorem a8Q {a b:I .i64} (h:-9223372036854775808≤a.val-b.val∧a.val-b.val<9223372036854775808):(I.sub a b).val=a.val-b.val:=b6T h
theorem c3M {a b:I .i64} (h:-9223372036854775808≤a.val*b.val∧a.val*b.val<9223372036854775808):(I.mul a b).val=a.val*b.val:=b6T h
theorem b9N {a b:I .i64} (h:0≤a.val) (h2:0<b.val):(I.rem a b).val=a.val%b.val:=by
 have ha:=b6K a
 have hb:=b6K b
 have e:a.val.tmod b.val=a.val%b.val:=Int.tmod_eq_emod_of_nonneg h
 have h3:=Int.emod_nonneg a.val (b:=b.val) (by omega)
 have h4:=Int.emod_lt_of_pos a.val h2
 unfold I.rem
 rw [e]
 exact b6T ⟨by omega,by omega⟩
theorem c1Q {a b:I .i64} (h:0≤a.val) (h2:0<b.val):(I.quo a b).val=a.val / b.val:=by
 have ha:=b6K a
 have e:a.val.tdiv b.val=a.val / b.val:=Int.tdiv_eq_ediv_of_nonneg h
 have h3:0≤a.val / b.val:=Int.ediv_nonneg h (by omega)
 have h4:a.val / b.val≤a.val:=Int.ediv_le_self _ h
 unfold I.quo
 rw [e]
 exact b6T ⟨by omega,by omega⟩
theorem f6D {a b:I .u64} (h:a.val+b.val<18446744073709551616):(I.add a b).val=a.val+b.val:=b8W ⟨by have:=a6K a; have:=a6K b; omega,h⟩
theorem f6L {a b:I .u64} (h:b.val≤a.val):(I.sub a b).val=a.val-b.val:=b8W ⟨by omega,by have:=a6K a; have:=a6K b; omega⟩
theorem f6X {a b:I .u64} (h2:b.val≠0):(I.rem a b).val=a.val%b.val:=by
 have ha:=a6K a
 have hb:=a6K b
 have e:a.val.tmod b.val=a.val%b.val:=Int.tmod_eq_emod_of_nonneg ha.1
 have h3:=Int.emod_nonneg a.val (b:=b.val) (by omega)
 have h4:=Int.emod_lt_of_pos a.val (b:=b.val) (by omega)
 unfold I.rem
 rw [e]
 exact b8W ⟨by omega,by omega⟩
theorem c4P (a:I .u64):I.nn a=true:=iff_nn.2 (a6K a).1
end Sym

/- Natural numbers as ints; lists as rows. -/
namespace Sym
open Go
def i6 (n:Nat):I .i64:=I.of .i64 (n:Int)
theorem a0Q {n:Nat} (h:n<9223372036854775808):(i6 n).val=n:=b6T ⟨by omega,by omega⟩
theorem a3J {n:Nat} (h:n<9223372036854775808):I.nat (i6 n)=n:=by unfold I.nat; rw [a0Q h]; simp
theorem a2K {n m:Nat} (h:n+m<9223372036854775808):I.add (i6 n) (i6 m)=i6 (n+m):=by
 apply I.ext'
 rw [a6A (by rw [a0Q (by omega),a0Q (by omega)]; omega),a0Q (by omega),a0Q (by omega),a0Q h]
 omega
theorem c2V {n m:Nat} (h:n<9223372036854775808) (hm:m≤n):I.sub (i6 n) (i6 m)=i6 (n-m):=by
 apply I.ext'
 rw [a8Q (by rw [a0Q (by omega),a0Q (by omega)]; omega),a0Q (by omega),a0Q (by omega),a0Q (by omega)]
 omega
theorem a2L {n m:Nat} (hn:n<9223372036854775808) (hm:m<9223372036854775808):I.ltb (i6 n) (i6 m)=decide (n<m):=by
 simp only [I.ltb,a0Q hn,a0Q hm]
 by_cases h:n<m
 ·
  rw [decide_eq_true h,decide_eq_true (by omega)]
 ·
  rw [decide_eq_false h,decide_eq_false (by omega)]
theorem e5E {n m:Nat} (hn:n<9223372036854775808) (hm:m<9223372036854775808):I.leb (i6 n) (i6 m)=decide (n≤m):=by
 simp only [I.leb,a0Q hn,a0Q hm]
 by_cases h:n≤m
 ·
  rw [decide_eq_true h,decide_eq_true (by omega)]
 ·
  rw [decide_eq_false h,decide_eq_false (by omega)]
theorem a3H {n m:Nat} (hn:n<m) (hm:n<9223372036854775808):inB (i6 n) m=true:=iff_inB.2 (by rw [a0Q hm]; omega)
theorem i6_inB' {n m:Nat} (hn:n≤m) (hm:n<9223372036854775808):inB' (i6 n) m=true:=by
 simp only [inB',Bool.and_eq_true,decide_eq_true_eq,a0Q hm]
 omega
theorem a5Y (n:Nat):I.ofNat .i64 n=i6 n:=rfl
theorem e3H {n m:Nat} (hn:n<9223372036854775808) (hm:m<9223372036854775808):I.eqb (i6 n) (i6 m)=decide (n=m):=by
 simp only [I.eqb,a0Q hn,a0Q hm]
 by_cases h:n=m
 ·
  rw [decide_eq_true h,decide_eq_true (by omega)]
 ·
  rw [decide_eq_false h,decide_eq_false (by omega)]
theorem a3Y {X:Type} (d:X):∀ (l:List X) (i:Nat) (h:i<l.length),rdL d l i=l[i]
 | x::l,0,_=>rfl
 | x::l,i+1,h=>a3Y d l i (by simpa using h)
theorem c7U {X:Type} (d:X):∀ (l:List X) (i:Nat),l.length≤i→rdL d l i=d
 | [],_,_=>rfl
 | _::_,0,h=>by simp at h
 | _::l,i+1,h=>c7U d l i (by simpa using h)
theorem a7K {X:Type}:∀ (l:List X) (i:Nat) (v:X),setAt l i v=l.set i v
 | [],_,_=>rfl
 | _::_,0,_=>rfl
 | x::l,i+1,v=>by simp [setAt,a7K l i v]
theorem c4X {X:Type} (d:X) (l:List X) (i k:Nat) (v:X):rdL d (setAt l i v) k=if k=i∧i<l.length then v else rdL d l k:=by
 rw [a7K]
 by_cases hk:k<l.length
 ·
  rw [a3Y d _ k (by simpa using hk),List.getElem_set]
  by_cases h:k=i
  ·
   subst h; simp [hk]
  ·
   rw [if_neg (by omega),if_neg (by omega),a3Y d l k hk]
 ·
  rw [c7U _ _ _ (by simp; omega),c7U _ _ _ (by omega),if_neg (by omega)]
theorem c3L {X:Type} (d:X) (l:List X) (k:Nat) (h:k<l.length):rdL d l k∈l:=by rw [a3Y d l k h]; exact List.getElem_mem h
theorem c7O {X:Type} (d:X) {l:List X} {x:X} (h:x∈l):∃ k,k<l.length∧rdL d l k=x:=by
 obtain ⟨k,hk,e⟩:=List.getElem_of_mem h
 exact ⟨k,hk,by rw [a3Y d l k hk,e]⟩
theorem c7M {X:Type} (s:List X) (n:Nat):a3T s 0 n=s.take n:=by simp [a3T]
theorem c3O {X:Type} (s:List X) (n:Nat):a3T s n (s.length-n)=s.drop n:=by
 simp only [a3T]
 exact List.take_of_length_le (by simp)
theorem a8H {X:Type} (l:List X):a0K l=l.length:=rfl
theorem g7E {X:Type} (l m:List X):a2C l m=l++m:=rfl
theorem g8C:∀ (t:Ty),t.eqOk=true→∀ x y:t.D,Ty.eqb t x y=true↔x=y:=by
 intro t
 induction t with
 | int k=>intro _ x y; simp only [Ty.eqb,decide_eq_true_eq]; exact ⟨fun h=>I.ext' h,fun h=>by rw [h]⟩
 | bool=>intro _ x y; exact (by decide:∀ a b:Bool,(a == b)=true↔a=b) x y
 | nil=>intro _ x y; exact ⟨fun _=>rfl,fun _=>rfl⟩
 | cons a b iha ihb =>
  intro h x y
  simp only [Ty.eqOk,Bool.and_eq_true] at h
  simp only [Ty.eqb,Bool.and_eq_true,iha h.1,ihb h.2]
  obtain ⟨x1,x2⟩:=x
  obtain ⟨y1,y2⟩:=y
  exact ⟨fun h=>by rw [show x1=y1 from h.1,show x2=y2 from h.2],fun h=>⟨congrArg Prod.fst h,congrArg Prod.snd h⟩⟩
 | arr n t ih =>
  intro h x y
  have key:∀ (n:Nat) (x y:Arr t.D n),Arr.eqb t.eqb n x y=true↔x=y:=by
   intro n
   induction n with
   | zero=>intro x y; exact ⟨fun _=>rfl,fun _=>rfl⟩
   | succ n ihn =>
    intro x y
    simp only [Arr.eqb,Bool.and_eq_true,ih h,ihn]
    obtain ⟨x1,x2⟩:=x
    obtain ⟨y1,y2⟩:=y
    exact ⟨fun h=>by rw [show x1=y1 from h.1,show x2=y2 from h.2],fun h=>⟨congrArg Prod.fst h,congrArg Prod.snd h⟩⟩
  exact key n x y
 | str=>intro h; cases h
 | sl t _=>intro h; cases h
 | opq=>intro h; cases h
 | fnc=>intro h; cases h
theorem b3P {n:Nat} (h:n≤1073741824):a1D n=true:=iff_fits.2 h
end Sym

/- Natural numbers by digits of 65536: what the reference's first functions compute. -/
namespace Sym
open Go
abbrev Dg:Type:=I .i64
def bv:List Dg→Nat
 | []=>0
 | d::l=>d.nat+65536*bv l
def DigOk (d:Dg):Prop:=0≤d.val∧d.val<65536
def c2Z (l:List Dg):Prop:=∀ d∈l,DigOk d
def g4E:List Dg→Prop
 | []=>True
 | [d]=>d.val≠0
 | _::e::l=>g4E (e::l)
structure IsB (l:List Dg) (n:Nat):Prop where
 dig:c2Z l
 lead:g4E l
 val:bv l=n
theorem DigOk.nat {d:Dg} (h:DigOk d):(d.nat:Int)=d.val∧d.nat<65536:=by
 unfold DigOk at h
 unfold I.nat
 omega
theorem digs_cons {d:Dg} {l:List Dg}:c2Z (d::l)↔DigOk d∧c2Z l:=by
 unfold c2Z
 simp
theorem digs_app {l r:List Dg}:c2Z (l++r)↔c2Z l∧c2Z r:=by
 unfold c2Z
 simp only [List.mem_append]
 exact ⟨fun h=>⟨fun d hd=>h d (.inl hd),fun d hd=>h d (.inr hd)⟩,fun h d hd=>hd.elim (h.1 d) (h.2 d)⟩
theorem c4T {l:List Dg} (h:c2Z l) (n:Nat):c2Z (l.take n):=fun d hd=>h d (List.mem_of_mem_take hd)
theorem e8E:∀ {l:List Dg},c2Z l→bv l<65536^l.length
 | [],_=>by simp [bv]
 | d::l,h=>by
  have h:=digs_cons.1 h
  have h1:=h.1.nat.2
  have h2:=e8E h.2
  simp only [bv,List.length_cons,Nat.pow_succ]
  omega
theorem d6T:IsB [] 0:=⟨fun _ h=>by simp at h,trivial,rfl⟩
theorem c5Q:∀ (l r:List Dg),bv (l++r)=bv l+65536^l.length*bv r
 | [],r=>by simp [bv]
 | d::l,r=>by
  simp only [List.cons_append,bv,List.length_cons,c5Q l r,Nat.pow_succ,Nat.mul_add]
  rw [Nat.mul_comm (65536^l.length) 65536,Nat.mul_assoc]
  omega
theorem c6M:∀ (l:List Dg) (d:Dg),d.val≠0→g4E (l++[d])
 | [],d,h=>h
 | [e],d,h=>h
 | e::f::l,d,h=>c6M (f::l) d h
theorem h2S:∀ {l:List Dg},c2Z l→g4E l→l≠[]→65536^(l.length-1)≤bv l
 | [],_,_,h=>absurd rfl h
 | [d],hd,hl,_=>by
  have h:=(digs_cons.1 hd).1.nat.1
  have:d.val≠0:=hl
  simp only [bv,List.length_singleton,Nat.sub_self,Nat.pow_zero]
  omega
 | d::e::l,hd,hl,_=>by
  have:=h2S (l:=e::l) (digs_cons.1 hd).2 hl (by simp)
  simp only [List.length_cons,Nat.add_sub_cancel] at this ⊢
  simp only [bv,Nat.pow_succ] at *
  omega
theorem IsB.len {l:List Dg} {n k:Nat} (h:IsB l n):l.length≤k↔n<65536^k:=by
 have h1:=e8E h.dig
 rw [h.val] at h1
 constructor
 ·
  intro hk
  exact Nat.lt_of_lt_of_le h1 (Nat.pow_le_pow_right (by decide) hk)
 ·
  intro hn
  rcases Nat.lt_or_ge k l.length with hk | hk
  ·
   have h2:=h2S h.dig h.lead (by intro e; subst e; simp at hk)
   rw [h.val] at h2
   have h3:65536^k≤65536^(l.length-1):=Nat.pow_le_pow_right (by decide) (by omega)
   omega
  ·
   exact hk
theorem c0O (n:Nat) (h:n<2^64):n<K0:=by rw [a6Z]; exact h
theorem e2K (l:List Dg) (hd:c2Z l) (hl:l.length≤1073741824):∃ r,a6Q K0 ((l,()),())=some ((r,()),())∧IsB r (bv l):=by
 have key:Wp (fun o=>∃ r,o=some ((r,()),())∧IsB r (bv l)) (a6Q K0 ((l,()),())):=by
  have hlen:(I.ofNat .i64 (a0K l)).val=l.length:=a2Z (by show l.length<_; omega)
  have c1:(I.of .i64 1).val=1:=rfl
  have c0:(I.of .i64 0).val=0:=rfl
  unfold a6Q
  refine Wp.iter (fun x=>x.1.1=l∧0≤x.1.2.1.val∧x.1.2.1.val≤(l.length:Int)∧bv (l.take x.1.2.1.val.toNat)=bv l) (fun x=>x.1.2.1.val.toNat) ?_ ?_ ?_
  ·
   rintro ⟨⟨l',i,⟨⟩⟩,⟨⟩⟩ ⟨e1,hi0,hi1,hb⟩
   simp only at e1 hi0 hi1 hb
   subst e1
   have cut:inB' i (a0K l')=true:=by
    show (decide (0≤i.val)&&decide (i.val≤((l'.length:Nat):Int)))=true
    simp [hi0,hi1]
   have sub:a3T l' 0 (I.nat i)=l'.take i.val.toNat:=by simp [a3T,I.nat]
   refine Wp.brn (fun h=>?_) (fun h=>?_)
   ·
    have h:=iff_ltb.1 h
    simp only [c0] at h
    have hs:(I.sub i (I.of .i64 1)).val=i.val-1:=by rw [a8Q (by omega)]; omega
    have hidx:(I.nat (I.sub i (I.of .i64 1)))=i.val.toNat-1:=by unfold I.nat; omega
    have hlt:i.val.toNat-1<l'.length:=by omega
    have hrd:rdL (I.of .i64 0) l' (I.nat (I.sub i (I.of .i64 1)))=l'[i.val.toNat-1]:=by rw [hidx]; exact a3Y _ _ _ hlt
    have htk:l'.take i.val.toNat=l'.take (i.val.toNat-1)++[l'[i.val.toNat-1]]:=by
     rw [List.take_append_getElem hlt]
     congr 1
     omega
    refine Wp.brnT (iff_inB.2 ⟨by show 0≤(I.sub i (I.of .i64 1)).val; omega,by show (I.sub i (I.of .i64 1)).val<(l'.length:Int); omega⟩) ?_
    refine Wp.brn (fun h2=>?_) (fun h2=>?_)
    ·
     have h2:=iff_eqb.1 h2
     simp only [hrd] at h2
     refine Wp.again ⟨rfl,?_,?_,?_⟩ ?_
     ·
      show 0≤(I.sub i (I.of .i64 1)).val; omega
     ·
      show (I.sub i (I.of .i64 1)).val≤_; omega
     ·
      show bv (l'.take (I.sub i (I.of .i64 1)).val.toNat)=_
      have e:(I.sub i (I.of .i64 1)).val.toNat=i.val.toNat-1:=by omega
      rw [e,← hb,htk,c5Q]
      have hz:(l'[i.val.toNat-1]).nat=0:=by unfold I.nat; rw [h2]; rfl
      simp [bv,hz]
     ·
      show (I.sub i (I.of .i64 1)).val.toNat<_
      simp only; omega
    ·
     have h2:=niff_eqb.1 h2
     simp only [hrd] at h2
     refine Wp.done (Wp.brnT cut ⟨_,rfl,?_⟩)
     show IsB (a3T l' 0 (I.nat i)) _
     rw [sub]
     refine ⟨c4T hd _,?_,hb⟩
     rw [htk]
     exact c6M _ _ h2
   ·
    have h:=niff_ltb.1 h
    simp only [c0] at h
    refine Wp.done (Wp.brnT cut ⟨_,rfl,?_⟩)
    show IsB (a3T l' 0 (I.nat i)) _
    rw [sub]
    have e:i.val.toNat=0:=by omega
    rw [e] at hb ⊢
    simp only [List.take_zero] at hb ⊢
    rw [← hb]
    exact d6T
  ·
   refine ⟨rfl,?_,?_,?_⟩
   ·
    show 0≤(I.ofNat .i64 (a0K l)).val; omega
   ·
    show (I.ofNat .i64 (a0K l)).val≤_; omega
   ·
    show bv (l.take (I.ofNat .i64 (a0K l)).val.toNat)=_
    rw [hlen,Int.toNat_natCast,List.take_length]
  ·
   refine c0O _ ?_
   show (I.ofNat .i64 (a0K l)).val.toNat<_
   omega
 exact key.out
end Sym

/- Natural numbers by digits of 65536: from and to 256 bits, comparison. -/
namespace Sym
open Go
theorem f1I (k:IntKind) (hk:k.bits=64) (x:I k) (h:0≤x.val) (hx:x.val<18446744073709551616):((BitVec.ofInt k.bits x.val &&& BitVec.ofInt k.bits 65535).toNat:Int)=x.val%65536:=by
 rw [hk,BitVec.toNat_and]
 have h1:(BitVec.ofInt 64 65535).toNat=2^16-1:=rfl
 rw [h1,Nat.and_two_pow_sub_one_eq_mod,BitVec.toNat_ofInt]
 omega
theorem g5B (x:I .u64):(I.and x (I.of .u64 65535)).val=x.val%65536:=by
 have h:=a6K x
 have:=f1I .u64 rfl x h.1 h.2
 have e:(I.of .u64 65535).val=65535:=rfl
 show (I.of .u64 _).val=_
 rw [e,this]
 exact b8W ⟨by omega,by omega⟩
theorem e8I (x:I .i64) (h:0≤x.val):(I.and x (I.of .i64 65535)).val=x.val%65536:=by
 have h2:=b6K x
 have:=f1I .i64 rfl x h (by omega)
 have e:(I.of .i64 65535).val=65535:=rfl
 show (I.of .i64 _).val=_
 rw [e,this]
 exact b6T ⟨by omega,by omega⟩
theorem d4C (a:Int) (n:Nat) (h:0≤a):a.fdiv ((2:Int)^n)=a / (2:Int)^n:=by
 have h2:(0:Int)≤(2:Int)^n:=Int.le_of_lt (Int.pow_pos (by decide))
 rw [Int.fdiv_eq_ediv_of_nonneg _ h2]
theorem f7A (x s:I .u64) (hs:s.val<64):(I.shr x s).val=x.val / (2:Int)^s.val.toNat:=by
 have hx:=a6K x
 have h0:=a6K s
 have hm:min s.val.toNat IntKind.u64.bits=s.val.toNat:=by
  have:IntKind.u64.bits=64:=rfl
  omega
 unfold I.shr
 rw [hm,d4C _ _ hx.1]
 have h2:(0:Int)<(2:Int)^s.val.toNat:=Int.pow_pos (by decide)
 have h3:0≤x.val / (2:Int)^s.val.toNat:=Int.ediv_nonneg hx.1 (by omega)
 have h4:x.val / (2:Int)^s.val.toNat≤x.val:=Int.ediv_le_self _ hx.1
 exact b8W ⟨by omega,by omega⟩
theorem d1W (x:I .i64) (h:0≤x.val):(I.shr x (I.of .u64 16)).val=x.val / 65536:=by
 have hx:=b6K x
 have hm:min (I.of .u64 16).val.toNat IntKind.i64.bits=16:=rfl
 unfold I.shr
 rw [hm,d4C _ _ h]
 have e:(2:Int)^16=65536:=by decide
 rw [e]
 exact b6T ⟨by omega,by omega⟩
def f7I (a:U) (j:Nat):Dg:=I.conv .i64 (I.and (I.shr (Arr.sel (I.of .u64 0) 4 a (j / 4)) (I.of .u64 (16*(j%4):Nat))) (I.of .u64 65535))
theorem f1K (a:U) (j:Nat):(f7I a j).val=(Arr.sel (I.of .u64 0) 4 a (j / 4)).val / (2:Int)^(16*(j%4))%65536:=by
 have h1:(I.of .u64 (16*(j%4):Nat)).val=(16*(j%4):Nat):=b8W ⟨by omega,by omega⟩
 have h2:=f7A (Arr.sel (I.of .u64 0) 4 a (j / 4)) (I.of .u64 (16*(j%4):Nat)) (by omega)
 rw [h1,Int.toNat_natCast] at h2
 unfold f7I
 show (I.of .i64 _).val=_
 rw [g5B,h2]
 exact b6T ⟨by omega,by omega⟩
theorem f5R (a:U) (j:Nat):DigOk (f7I a j):=by
 unfold DigOk
 rw [f1K]
 omega
theorem limb (x:I .u64) (d0 d1 d2 d3:Nat) (h0:(d0:Int)=x.val / (2:Int)^0%65536) (h1:(d1:Int)=x.val / (2:Int)^16%65536) (h2:(d2:Int)=x.val / (2:Int)^32%65536) (h3:(d3:Int)=x.val / (2:Int)^48%65536) :
  x.nat=d0+65536*d1+4294967296*d2+281474976710656*d3:=by
 have p0:(2:Int)^0=1:=by decide
 have p1:(2:Int)^16=65536:=by decide
 have p2:(2:Int)^32=4294967296:=by decide
 have p3:(2:Int)^48=281474976710656:=by decide
 rw [p0] at h0
 rw [p1] at h1
 rw [p2] at h2
 rw [p3] at h3
 have hx:=a6K x
 have hn:=a2G x
 omega
theorem h9K (a0 a1 a2 a3 d0 d1 d2 d3 d4 d5 d6 d7 d8 d9 d10 d11 d12 d13 d14 d15:Nat) (v0:a0=d0+65536*d1+4294967296*d2+281474976710656*d3) (v1:a1=d4+65536*d5+4294967296*d6+281474976710656*d7)
  (v2:a2=d8+65536*d9+4294967296*d10+281474976710656*d11) (v3:a3=d12+65536*d13+4294967296*d14+281474976710656*d15) :
  d0+65536*(d1+65536*(d2+65536*(d3+65536*(d4+65536*(d5+65536*(d6+65536*(d7+65536*(d8+65536*(d9+65536*(d10+65536*(d11+65536*(d12+65536*(d13+65536*(d14+65536*(d15+65536*0))))))))))))))) =
   a0+18446744073709551616*(a1+18446744073709551616*(a2+18446744073709551616*a3)):=by
 subst v0 v1 v2 v3
 omega
theorem f7M (a:U):bv ((List.range 16).map (f7I a))=a.val:=by
 obtain ⟨a0,a1,a2,a3,⟨⟩⟩:=a
 have n:∀ j,((f7I (a0,a1,a2,a3,()) j).nat:Int)=(Arr.sel (I.of .u64 0) 4 (a0,a1,a2,a3,()) (j / 4)).val / (2:Int)^(16*(j%4))%65536:=fun j=>(f5R _ j).nat.1.trans (f1K _ j)
 exact h9K _ _ _ _ _ _ _ _ _ _ _ _ _ _ _ _ _ _ _ _ (limb a0 _ _ _ _ (n 0) (n 1) (n 2) (n 3)) (limb a1 _ _ _ _ (n 4) (n 5) (n 6) (n 7)) (limb a2 _ _ _ _ (n 8) (n 9) (n 10) (n 11)) (limb a3 _ _ _ _ (n 12) (n 13) (n 14) (n 15))
theorem a1I (a:U):∃ r,a0C K0 ((a,()),())=some ((r,()),())∧IsB r a.val:=by
 have key:Wp (fun o=>∃ r,o=some ((r,()),())∧IsB r a.val) (a0C K0 ((a,()),())):=by
  have c16:(I.of .i64 16).val=16:=rfl
  have c4:(I.of .i64 4).val=4:=rfl
  have c1:(I.of .i64 1).val=1:=rfl
  unfold a0C
  refine Wp.iter (fun x=>0≤x.1.1.val∧x.1.1.val≤16∧x.2.1=a∧x.2.2.1=(List.range x.1.1.val.toNat).map (f7I a)++List.replicate (16-x.1.1.val.toNat) (I.of .i64 0)) (fun x=>(16-x.1.1.val).toNat) ?_ ?_ ?_
  ·
   rintro ⟨⟨i,⟨⟩⟩,a',out,⟨⟩⟩ ⟨hi0,hi1,e1,e2⟩
   simp only at hi0 hi1 e1 e2
   subst e1
   refine Wp.brn (fun h=>?_) (fun h=>?_)
   ·
    have h:=iff_ltb.1 h
    simp only [c16] at h
    have hq:(I.quo i (I.of .i64 4)).val=i.val / 4:=c1Q hi0 (by decide)
    have hr:(I.rem i (I.of .i64 4)).val=i.val%4:=b9N hi0 (by decide)
    have hlen:out.length=16:=by rw [e2]; simp; omega
    have hs:(I.add i (I.of .i64 1)).val=i.val+1:=by rw [a6A (by omega)]; omega
    have hm:(I.mul (I.of .i64 16) (I.rem i (I.of .i64 4))).val=16*(i.val%4):=by rw [c3M (by rw [c16,hr]; omega),hr,c16]
    refine Wp.brnT (iff_inB.2 ⟨by show 0≤(I.quo i (I.of .i64 4)).val; omega,by show (I.quo i (I.of .i64 4)).val<((4:Nat):Int); omega⟩) ?_
    refine Wp.brnT (c4P _) ?_
    refine Wp.brnT (iff_inB.2 ⟨hi0,by show i.val<((out.length:Nat):Int); omega⟩) ?_
    refine Wp.again ⟨?_,?_,rfl,?_⟩ ?_
    ·
     show 0≤(I.add i (I.of .i64 1)).val; omega
    ·
     show (I.add i (I.of .i64 1)).val≤16; omega
    ·
     have ed:I.conv .i64 (I.and (I.shr (Arr.sel (I.of .u64 0) 4 a' (I.nat (I.quo i (I.of .i64 4)))) (I.conv .u64 (I.mul (I.of .i64 16) (I.rem i (I.of .i64 4))))) (I.of .u64 65535))=f7I a' i.val.toNat:=by
      unfold f7I
      have e1:I.nat (I.quo i (I.of .i64 4))=i.val.toNat / 4:=by unfold I.nat; omega
      have e2:I.conv .u64 (I.mul (I.of .i64 16) (I.rem i (I.of .i64 4)))=I.of .u64 (16*(i.val.toNat%4):Nat):=by
       show I.of .u64 _=_
       rw [hm]
       congr 1
       omega
      rw [e1,e2]
     show setAt out (I.nat i) _=(List.range (I.add i (I.of .i64 1)).val.toNat).map (f7I a')++List.replicate (16-(I.add i (I.of .i64 1)).val.toNat) (I.of .i64 0)
     have e3:(I.add i (I.of .i64 1)).val.toNat=i.val.toNat+1:=by omega
     have e4:I.nat i=((List.range i.val.toNat).map (f7I a')).length:=by simp [I.nat]
     have e5:16-i.val.toNat=(16-(i.val.toNat+1))+1:=by omega
     rw [a7K,e2,e3,e4,List.set_append_right _ _ (Nat.le_refl _),Nat.sub_self,e5,List.replicate_succ,List.set_cons_zero,List.range_succ,List.map_append,List.map_cons,List.map_nil,List.append_assoc]
     show _++_=_++([_]++_)
     rw [← ed]
     rfl
    ·
     show (16-(I.add i (I.of .i64 1)).val).toNat<_
     simp only; omega
   ·
    have h:=niff_ltb.1 h
    simp only [c16] at h
    have hi:i.val.toNat=16:=by omega
    rw [hi] at e2
    simp only [Nat.sub_self,List.replicate_zero,List.append_nil] at e2
    subst e2
    have hd:c2Z ((List.range 16).map (f7I a')):=by
     intro d hd
     rw [List.mem_map] at hd
     obtain ⟨j,_,rfl⟩:=hd
     exact f5R a' j
    obtain ⟨r,hr,hB⟩:=e2K _ hd (by simp)
    exact Wp.done (Wp.optF hr ⟨r,rfl,hB.dig,hB.lead,hB.val.trans (f7M a')⟩)
  ·
   exact ⟨by show 0≤(I.of .i64 0).val; decide,by show (I.of .i64 0).val≤16; decide,rfl,rfl⟩
  ·
   exact c0O _ (by show (16-(I.of .i64 0).val).toNat<_; decide)
 exact key.out
end Sym

/- Natural numbers by digits of 65536: to 256 bits, comparison. -/
namespace Sym
open Go
theorem g7D (x s:I .u64) (hs:s.val<64) (h:x.val*(2:Int)^s.val.toNat<18446744073709551616):(I.shl x s).val=x.val*(2:Int)^s.val.toNat:=by
 have hx:=a6K x
 have h0:=a6K s
 have hm:min s.val.toNat IntKind.u64.bits=s.val.toNat:=by
  have:IntKind.u64.bits=64:=rfl
  omega
 have h2:(0:Int)≤(2:Int)^s.val.toNat:=Int.le_of_lt (Int.pow_pos (by decide))
 unfold I.shl
 rw [hm]
 exact b8W ⟨Int.mul_nonneg hx.1 h2,h⟩
theorem b4R (x:I .u64) (d r S:Nat) (hd:d<65536) (hr:r<4) (hS:(S:Int)=(2:Int)^(16*r)) (hx:x.nat<S) (hl:S≤281474976710656):(I.add x (I.shl (I.of .u64 d) (I.of .u64 (16*r:Nat)))).nat=x.nat+S*d:=by
 have h1:(I.of .u64 (16*r:Nat)).val=(16*r:Nat):=b8W ⟨by omega,by omega⟩
 have h2:(I.of .u64 (d:Int)).val=d:=b8W ⟨by omega,by omega⟩
 have hv:=a2G x
 have hdS:(d:Int)*S=((S*d:Nat):Int):=by rw [Nat.mul_comm,Int.natCast_mul]
 have hle:S*d≤281474976710656*65535:=Nat.mul_le_mul hl (by omega)
 have h3:(I.shl (I.of .u64 d) (I.of .u64 (16*r:Nat))).val=((S*d:Nat):Int):=by
  rw [g7D _ _ (by omega) (by rw [h1,h2,Int.toNat_natCast,← hS,hdS]; omega),h1,h2,Int.toNat_natCast,← hS,hdS]
 have h4:=f6D (a:=x) (b:=I.shl (I.of .u64 d) (I.of .u64 (16*r:Nat))) (by rw [h3]; omega)
 rw [h3] at h4
 have h5:=a2G (I.add x (I.shl (I.of .u64 d) (I.of .u64 (16*r:Nat))))
 omega
theorem e9T (u:U) (d:Nat) (j:Nat) (hj:j<16) (hu:u.val<65536^j) (hd:d<65536) :
  U.val (Arr.upd 4 u (j / 4) (I.add (Arr.sel (I.of .u64 0) 4 u (j / 4)) (I.shl (I.of .u64 d) (I.of .u64 (16*(j%4):Nat)))))=u.val+65536^j*d:=by
 obtain ⟨u0,u1,u2,u3,⟨⟩⟩:=u
 have n0:=a3A u0
 have n1:=a3A u1
 have n2:=a3A u2
 have n3:=a3A u3
 unfold U.val at hu
 simp only at hu
 have hc:j=0∨j=1∨j=2∨j=3∨j=4∨j=5∨j=6∨j=7∨j=8∨j=9∨j=10∨j=11∨j=12∨j=13∨j=14∨j=15:=by omega
 rcases hc with rfl | rfl | rfl | rfl | rfl | rfl | rfl | rfl | rfl | rfl | rfl | rfl | rfl | rfl | rfl | rfl
 ·
  have p:65536^0=1:=by decide
  rw [p] at hu ⊢
  have k:=b4R u0 d 0 1 hd (by decide) (by decide) (by omega) (by decide)
  show U.val ((I.add u0 (I.shl (I.of .u64 d) (I.of .u64 (16*0:Nat)))),u1,u2,u3,())=_
  unfold U.val
  simp only
  omega
 ·
  have p:65536^1=65536:=by decide
  rw [p] at hu ⊢
  have k:=b4R u0 d 1 65536 hd (by decide) (by decide) (by omega) (by decide)
  show U.val ((I.add u0 (I.shl (I.of .u64 d) (I.of .u64 (16*1:Nat)))),u1,u2,u3,())=_
  unfold U.val
  simp only
  omega
 ·
  have p:65536^2=4294967296:=by decide
  rw [p] at hu ⊢
  have k:=b4R u0 d 2 4294967296 hd (by decide) (by decide) (by omega) (by decide)
  show U.val ((I.add u0 (I.shl (I.of .u64 d) (I.of .u64 (16*2:Nat)))),u1,u2,u3,())=_
  unfold U.val
  simp only
  omega
 ·
  have p:65536^3=281474976710656:=by decide
  rw [p] at hu ⊢
  have k:=b4R u0 d 3 281474976710656 hd (by decide) (by decide) (by omega) (by decide)
  show U.val ((I.add u0 (I.shl (I.of .u64 d) (I.of .u64 (16*3:Nat)))),u1,u2,u3,())=_
  unfold U.val
  simp only
  omega
 ·
  have p:65536^4=18446744073709551616:=by decide
  rw [p] at hu ⊢
  have k:=b4R u1 d 0 1 hd (by decide) (by decide) (by omega) (by decide)
  show U.val (u0,(I.add u1 (I.shl (I.of .u64 d) (I.of .u64 (16*0:Nat)))),u2,u3,())=_
  unfold U.val
  simp only
  omega
 ·
  have p:65536^5=1208925819614629174706176:=by decide
  rw [p] at hu ⊢
  have k:=b4R u1 d 1 65536 hd (by decide) (by decide) (by omega) (by decide)
  show U.val (u0,(I.add u1 (I.shl (I.of .u64 d) (I.of .u64 (16*1:Nat)))),u2,u3,())=_
  unfold U.val
  simp only
  omega
 ·
  have p:65536^6=79228162514264337593543950336:=by decide
  rw [p] at hu ⊢
  have k:=b4R u1 d 2 4294967296 hd (by decide) (by decide) (by omega) (by decide)
  show U.val (u0,(I.add u1 (I.shl (I.of .u64 d) (I.of .u64 (16*2:Nat)))),u2,u3,())=_
  unfold U.val
  simp only
  omega
 ·
  have p:65536^7=5192296858534827628530496329220096:=by decide
  rw [p] at hu ⊢
  have k:=b4R u1 d 3 281474976710656 hd (by decide) (by decide) (by omega) (by decide)
  show U.val (u0,(I.add u1 (I.shl (I.of .u64 d) (I.of .u64 (16*3:Nat)))),u2,u3,())=_
  unfold U.val
  simp only
  omega
 ·
  have p:65536^8=340282366920938463463374607431768211456:=by decide
  rw [p] at hu ⊢
  have k:=b4R u2 d 0 1 hd (by decide) (by decide) (by omega) (by decide)
  show U.val (u0,u1,(I.add u2 (I.shl (I.of .u64 d) (I.of .u64 (16*0:Nat)))),u3,())=_
  unfold U.val
  simp only
  omega
 ·
  have p:65536^9=22300745198530623141535718272648361505980416:=by decide
  rw [p] at hu ⊢
  have k:=b4R u2 d 1 65536 hd (by decide) (by decide) (by omega) (by decide)
  show U.val (u0,u1,(I.add u2 (I.shl (I.of .u64 d) (I.of .u64 (16*1:Nat)))),u3,())=_
  unfold U.val
  simp only
  omega
 ·
  have p:65536^10=1461501637330902918203684832716283019655932542976:=by decide
  rw [p] at hu ⊢
  have k:=b4R u2 d 2 4294967296 hd (by decide) (by decide) (by omega) (by decide)
  show U.val (u0,u1,(I.add u2 (I.shl (I.of .u64 d) (I.of .u64 (16*2:Nat)))),u3,())=_
  unfold U.val
  simp only
  omega
 ·
  have p:65536^11=95780971304118053647396689196894323976171195136475136:=by decide
  rw [p] at hu ⊢
  have k:=b4R u2 d 3 281474976710656 hd (by decide) (by decide) (by omega) (by decide)
  show U.val (u0,u1,(I.add u2 (I.shl (I.of .u64 d) (I.of .u64 (16*3:Nat)))),u3,())=_
  unfold U.val
  simp only
  omega
 ·
  have p:65536^12=6277101735386680763835789423207666416102355444464034512896:=by decide
  rw [p] at hu ⊢
  have k:=b4R u3 d 0 1 hd (by decide) (by decide) (by omega) (by decide)
  show U.val (u0,u1,u2,(I.add u3 (I.shl (I.of .u64 d) (I.of .u64 (16*0:Nat)))),())=_
  unfold U.val
  simp only
  omega
 ·
  have p:65536^13=411376139330301510538742295639337626245683966408394965837152256:=by decide
  rw [p] at hu ⊢
  have k:=b4R u3 d 1 65536 hd (by decide) (by decide) (by omega) (by decide)
  show U.val (u0,u1,u2,(I.add u3 (I.shl (I.of .u64 d) (I.of .u64 (16*1:Nat)))),())=_
  unfold U.val
  simp only
  omega
 ·
  have p:65536^14=26959946667150639794667015087019630673637144422540572481103610249216:=by decide
  rw [p] at hu ⊢
  have k:=b4R u3 d 2 4294967296 hd (by decide) (by decide) (by omega) (by decide)
  show U.val (u0,u1,u2,(I.add u3 (I.shl (I.of .u64 d) (I.of .u64 (16*2:Nat)))),())=_
  unfold U.val
  simp only
  omega
 ·
  have p:65536^15=1766847064778384329583297500742918515827483896875618958121606201292619776:=by decide
  rw [p] at hu ⊢
  have k:=b4R u3 d 3 281474976710656 hd (by decide) (by decide) (by omega) (by decide)
  show U.val (u0,u1,u2,(I.add u3 (I.shl (I.of .u64 d) (I.of .u64 (16*3:Nat)))),())=_
  unfold U.val
  simp only
  omega
theorem c6T {l:List Dg} {i:Nat} (h:i<l.length):bv (l.take (i+1))=bv (l.take i)+65536^i*(l[i]).nat:=by
 rw [← List.take_append_getElem h,c5Q]
 have e:(l.take i).length=i:=by simp; omega
 simp [bv,e]
theorem a3C {l:List Dg} {n:Nat} (hl:IsB l n) (hn:n<U.top):a0P K0 ((l,()),())=some ((U.of n,()),()):=by
 have ht:U.top=65536^16:=by decide
 have hlen:l.length≤16:=hl.len.2 (by rw [← ht]; exact hn)
 have c16:(I.of .i64 16).val=16:=rfl
 have c4:(I.of .i64 4).val=4:=rfl
 have c1:(I.of .i64 1).val=1:=rfl
 have hol:(I.ofNat .i64 (a0K l)).val=l.length:=a2Z (by show l.length<_; omega)
 have key:Wp (fun o=>o=some ((U.of n,()),())) (a0P K0 ((l,()),())):=by
  unfold a0P
  refine Wp.iter (fun x=>x.1.1=l∧0≤x.1.2.1.val∧x.1.2.1.val≤(l.length:Int)∧U.val x.2.2.1=bv (l.take x.1.2.1.val.toNat)) (fun x=>((l.length:Int)-x.1.2.1.val).toNat) ?_ ?_ ?_
  ·
   rintro ⟨⟨l',i,⟨⟩⟩,r0,u,⟨⟩⟩ ⟨e1,hi0,hi1,hu⟩
   simp only at e1 hi0 hi1 hu
   subst e1
   have fin:i.val.toNat=l'.length→u=U.of n:=by
    intro e
    rw [e,List.take_length,hl.val] at hu
    rw [← hu]
    exact (U.of_val u).symm
   refine Wp.brn (fun h=>?_) (fun h=>?_)
   ·
    have h:=iff_ltb.1 h
    simp only [hol] at h
    have hlt:i.val.toNat<l'.length:=by omega
    refine Wp.brnT (iff_ltb.2 (by show i.val<(I.of .i64 16).val; omega)) ?_
    have hq:(I.quo i (I.of .i64 4)).val=i.val / 4:=c1Q hi0 (by decide)
    have hr:(I.rem i (I.of .i64 4)).val=i.val%4:=b9N hi0 (by decide)
    have hs:(I.add i (I.of .i64 1)).val=i.val+1:=by rw [a6A (by omega)]; omega
    have hm:(I.mul (I.of .i64 16) (I.rem i (I.of .i64 4))).val=16*(i.val%4):=by rw [c3M (by rw [c16,hr]; omega),hr,c16]
    have hin:inB (I.quo i (I.of .i64 4)) 4=true:=iff_inB.2 ⟨by omega,by omega⟩
    refine Wp.brnT hin ?_
    refine Wp.brnT (iff_inB.2 ⟨hi0,by show i.val<((l'.length:Nat):Int); omega⟩) ?_
    refine Wp.brnT (c4P _) ?_
    refine Wp.brnT hin ?_
    have hdig:DigOk l'[i.val.toNat]:=hl.dig _ (List.getElem_mem hlt)
    have hrd:rdL (I.of .i64 0) l' (I.nat i)=l'[i.val.toNat]:=a3Y _ _ _ hlt
    have e1:I.nat (I.quo i (I.of .i64 4))=i.val.toNat / 4:=by unfold I.nat; omega
    have e2:I.conv .u64 (I.mul (I.of .i64 16) (I.rem i (I.of .i64 4)))=I.of .u64 (16*(i.val.toNat%4):Nat):=by
     show I.of .u64 _=_
     rw [hm]
     congr 1
     omega
    have e3:I.conv .u64 (rdL (I.of .i64 0) l' (I.nat i))=I.of .u64 ((l'[i.val.toNat]).nat:Int):=by
     show I.of .u64 _=_
     rw [hrd,hdig.nat.1]
    have hub:U.val u<65536^i.val.toNat:=by
     rw [hu]
     have:=e8E (c4T hl.dig i.val.toNat)
     rw [List.length_take] at this
     rwa [Nat.min_eq_left (by omega)] at this
    have st:=e9T u (l'[i.val.toNat]).nat i.val.toNat (by omega) hub hdig.nat.2
    refine Wp.again ⟨rfl,?_,?_,?_⟩ ?_
    ·
     show 0≤(I.add i (I.of .i64 1)).val; omega
    ·
     show (I.add i (I.of .i64 1)).val≤_; omega
    ·
     show U.val (Arr.upd 4 u (I.nat (I.quo i (I.of .i64 4))) (I.add (Arr.sel (I.of .u64 0) 4 u (I.nat (I.quo i (I.of .i64 4)))) (I.shl (I.conv .u64 (rdL (I.of .i64 0) l' (I.nat i))) (I.conv .u64 (I.mul (I.of .i64 16) (I.rem i (I.of .i64 4)))))))=bv (l'.take (I.add i (I.of .i64 1)).val.toNat)
     have e4:(I.add i (I.of .i64 1)).val.toNat=i.val.toNat+1:=by omega
     rw [e1,e2,e3,e4,st,c6T hlt,← hu]
    ·
     show ((l'.length:Int)-(I.add i (I.of .i64 1)).val).toNat<_
     simp only; omega
   ·
    have h:=niff_ltb.1 h
    simp only [hol] at h
    have:=fin (by omega)
    subst this
    exact Wp.done rfl
  ·
   refine ⟨rfl,by show 0≤(I.of .i64 0).val; decide,by show (I.of .i64 0).val≤(l.length:Int); have:(I.of .i64 0).val=0:=rfl; omega,?_⟩
   show U.val _=bv (l.take (I.of .i64 0).val.toNat)
   rfl
  ·
   exact c0O _ (by show ((l.length:Int)-(I.of .i64 0).val).toNat<_; have:(I.of .i64 0).val=0:=rfl; omega)
 exact key.out
def c9B (n:Nat):U×I .i64:=if n<U.top then (U.of n,I.of .i64 0) else (U.of 0,I.of .i64 4)
theorem c5M {l:List Dg} {n:Nat} (hl:IsB l n) (hlen:l.length<9223372036854775808):a2F K0 ((l,()),())=some ((decide (n<U.top),()),()):=by
 have ht:U.top=65536^16:=by decide
 have h:=hl.len (k:=16)
 have hol:(I.ofNat .i64 (a0K l)).val=l.length:=a2Z hlen
 have c16:(I.of .i64 16).val=16:=rfl
 have e:I.leb (I.ofNat .i64 (a0K l)) (I.of .i64 16)=decide (n<U.top):=by
  unfold I.leb
  rw [hol,c16,ht]
  by_cases hc:l.length≤16
  ·
   have:=h.1 hc
   simp [this]; omega
  ·
   have:¬ n<65536^16:=fun hh=>hc (h.2 hh)
   simp [this]; omega
 refine Wp.out (T:=fun o=>o=_) ?_
 unfold a2F
 show some ((I.leb (I.ofNat .i64 (a0K l)) (I.of .i64 16),()),())=_
 rw [e]
theorem f3L {l:List Dg} {n:Nat} (hl:IsB l n) (hlen:l.length<9223372036854775808):a2O K0 ((l,()),())=some (((c9B n).1,(c9B n).2,()),()):=by
 refine Wp.out (T:=fun o=>o=_) ?_
 unfold a2O c9B
 refine Wp.optF (c5M hl hlen) ?_
 by_cases h:n<U.top
 ·
  refine Wp.brnF (by show (!decide (n<U.top))=false; simp [h]) ?_
  refine Wp.optF (a3C hl h) ?_
  show _=_
  rw [if_pos h]
  rfl
 ·
  refine Wp.brnT (by show (!decide (n<U.top))=true; simp [h]) ?_
  show _=_
  rw [if_neg h]
  rfl
theorem Checked_ok' {l:List Dg} {n:Nat} (hl:IsB l n) (hlen:l.length≤1000000):a2O K0 ((l,()),())=some (((c9B n).1,(c9B n).2,()),()):=f3L hl (by omega)
def d3T (x:I .u64):U:=(x,I.of .u64 0,I.of .u64 0,I.of .u64 0,())
theorem c0S (x:I .u64):(d3T x).val=x.nat:=by
 unfold d3T U.val
 have:(I.of .u64 0).nat=0:=rfl
 simp only [this]
 omega
theorem a1N (x:I .u64):∃ r,a0H K0 ((x,()),())=some ((r,()),())∧IsB r x.nat:=by
 obtain ⟨r,hr,hB⟩:=a1I (d3T x)
 rw [c0S] at hB
 refine ⟨r,?_,hB⟩
 refine Wp.out (T:=fun o=>o=_) ?_
 unfold a0H
 exact Wp.optF hr rfl
end Sym

/- Natural numbers by digits of 65536: sums, differences, comparison. -/
namespace Sym
open Go
abbrev rd0 (l:List Dg) (i:Nat):Dg:=rdL (I.of .i64 0) l i
theorem g3I:DigOk (I.of .i64 0):=by unfold DigOk; decide
theorem b6M {l:List Dg} (h:c2Z l) (i:Nat):DigOk (rd0 l i):=by
 rcases Nat.lt_or_ge i l.length with hi | hi
 ·
  rw [rd0,a3Y _ _ _ hi]; exact h _ (List.getElem_mem hi)
 ·
  rw [rd0,c7U _ _ _ hi]; exact g3I
theorem c8C {l:List Dg} {i:Nat} (h:l.length≤i):(rd0 l i).nat=0:=by rw [rd0,c7U _ _ _ h]; rfl
theorem c1E:∀ (l:List Dg) (i:Nat),bv (l.drop i)=(rd0 l i).nat+65536*bv (l.drop (i+1))
 | [],i=>by simp [bv,rd0,rdL]; rfl
 | x::l,0=>by simp [bv,rd0,rdL]
 | x::l,i+1=>by simpa [rd0,rdL] using c1E l i
theorem c7Z (l:List Dg) (i:Nat):bv (l.take (i+1))=bv (l.take i)+65536^i*(rd0 l i).nat:=by
 rcases Nat.lt_or_ge i l.length with hi | hi
 ·
  rw [c6T hi,rd0,a3Y _ _ _ hi]
 ·
  rw [c8C hi,List.take_of_length_le (by omega),List.take_of_length_le hi]; simp
theorem d4W:∀ {l:List Dg},g4E l→∀ (i:Nat),i+1=l.length→(rd0 l i).val≠0
 | [],_,i,h=>by simp at h
 | [d],h,i,hi=>by
  have:i=0:=by simpa using hi
  subst this
  exact h
 | d::e::l,h,0,hi=>by simp at hi
 | d::e::l,h,i+1,hi=>d4W (l:=e::l) h i (by simpa using hi)
structure AddInv (a b:List Dg) (over i:I .i64) (out:List Dg):Prop where
 o0:0≤over.val
 o1:over.val≤1
 i0:0≤i.val
 i1:i.val≤max a.length b.length∨(over.val=0∧i.val=max a.length b.length+1)
 len:(out.length:Int)=i.val
 dig:c2Z out
 sum:bv out+65536^i.val.toNat*(over.nat+bv (a.drop i.val.toNat)+bv (b.drop i.val.toNat))=bv a+bv b
 lead:over.val=0→(a.length:Int)≤i.val→(b.length:Int)≤i.val→g4E out
theorem g1O {a b:List Dg} {over i s:I .i64} {out:List Dg} (ha:c2Z a) (hb:c2Z b) (la:g4E a) (lb:g4E b) (hal:a.length≤1000000) (hbl:b.length≤1000000) (h:AddInv a b over i out)
  (hc:i.val<a.length∨i.val<b.length∨0<over.val) (hs:s.val=over.val+(rd0 a i.val.toNat).val+(rd0 b i.val.toNat).val) :
  AddInv a b (I.shr s (I.of .u64 16)) (I.add i (I.of .i64 1)) (a2C out [I.and s (I.of .i64 65535)]):=by
 have c1:(I.of .i64 1).val=1:=rfl
 have da:=b6M ha i.val.toNat
 have db:=b6M hb i.val.toNat
 have da2:=da.nat
 have db2:=db.nat
 unfold DigOk at da db
 have ho0:=h.o0
 have ho1:=h.o1
 have hi0:=h.i0
 have hi1:=h.i1
 have hsh:=d1W s (by omega)
 have han:=e8I s (by omega)
 have hi:(I.add i (I.of .i64 1)).val=i.val+1:=by rw [a6A (by omega)]; omega
 have hin:(I.add i (I.of .i64 1)).val.toNat=i.val.toNat+1:=by omega
 have hout:out.length=i.val.toNat:=by have:=h.len; omega
 refine ⟨by omega,by omega,by omega,?_,?_,?_,?_,?_⟩
 ·
  rcases hi1 with hi1 | hi1
  ·
   rcases Int.lt_or_le i.val (max a.length b.length) with hlt | hge
   ·
    left; omega
   ·
    right
    have z1:=c8C (l:=a) (i:=i.val.toNat) (by omega)
    have z2:=c8C (l:=b) (i:=i.val.toNat) (by omega)
    omega
  ·
   exfalso; omega
 ·
  show ((a2C out [_]).length:Int)=_
  simp only [a2C,List.length_append,List.length_singleton]
  have:=h.len
  omega
 ·
  exact digs_app.2 ⟨h.dig,digs_cons.2 ⟨by unfold DigOk; omega,fun _ h=>by simp at h⟩⟩
 ·
  have hsum:=h.sum
  rw [c1E a,c1E b] at hsum
  rw [hin]
  have hn1:(I.and s (I.of .i64 65535)).nat+65536*(I.shr s (I.of .u64 16)).nat=over.nat+(rd0 a i.val.toNat).nat+(rd0 b i.val.toNat).nat:=by
   unfold I.nat at *
   omega
  have e:over.nat+((rd0 a i.val.toNat).nat+65536*bv (a.drop (i.val.toNat+1)))+((rd0 b i.val.toNat).nat+65536*bv (b.drop (i.val.toNat+1))) =
    (I.and s (I.of .i64 65535)).nat+65536*((I.shr s (I.of .u64 16)).nat+bv (a.drop (i.val.toNat+1))+bv (b.drop (i.val.toNat+1))):=by omega
  rw [e,Nat.mul_add,← Nat.mul_assoc] at hsum
  rw [← hsum,a2C,c5Q,hout,Nat.pow_succ]
  simp only [bv,Nat.mul_zero,Nat.add_zero]
  omega
 ·
  intro hz h1 h2
  refine c6M _ _ ?_
  intro hz2
  have hs0:s.val=0:=by omega
  rcases hc with hc | hc | hc
  ·
   have:=d4W la i.val.toNat (by omega)
   omega
  ·
   have:=d4W lb i.val.toNat (by omega)
   omega
  ·
   omega
theorem b3H {a b:List Dg} {m n:Nat} (ha:IsB a m) (hb:IsB b n) (hal:a.length≤1000000) (hbl:b.length≤1000000):∃ r,a1M K0 ((a,b,()),())=some ((r,()),())∧IsB r (m+n):=by
 have hol:(I.ofNat .i64 (a0K a)).val=a.length:=a2Z (by show a.length<_; omega)
 have hol2:(I.ofNat .i64 (a0K b)).val=b.length:=a2Z (by show b.length<_; omega)
 have c0:(I.of .i64 0).val=0:=rfl
 have key:Wp (fun o=>∃ r,o=some ((r,()),())∧IsB r (m+n)) (a1M K0 ((a,b,()),())):=by
  unfold a1M
  refine Wp.iter (fun x=>x.1.1=a∧x.1.2.1=b∧AddInv a b x.1.2.2.1 x.1.2.2.2.1 x.2.1) (fun x=>((max a.length b.length:Int)+2-x.1.2.2.2.1.val).toNat) ?_ ?_ ?_
  ·
   rintro ⟨⟨a',b',over,i,⟨⟩⟩,out,⟨⟩⟩ ⟨e1,e2,hI⟩
   simp only at e1 e2 hI
   subst e1 e2
   have hi0:=hI.i0
   have hi1:=hI.i1
   have ho0:=hI.o0
   have ho1:=hI.o1
   have again:∀ (s:I .i64),(i.val<a'.length∨i.val<b'.length∨0<over.val)→s.val=over.val+(rd0 a' i.val.toNat).val+(rd0 b' i.val.toNat).val →
     AddInv a' b' (I.shr s (I.of .u64 16)) (I.add i (I.of .i64 1)) (a2C out [I.and s (I.of .i64 65535)])∧((max a'.length b'.length:Int)+2-(I.add i (I.of .i64 1)).val).toNat<((max a'.length b'.length:Int)+2-i.val).toNat:=by
    intro s hc hs
    refine ⟨g1O ha.dig hb.dig ha.lead hb.lead hal hbl hI hc hs,?_⟩
    have c1:(I.of .i64 1).val=1:=rfl
    have hi:(I.add i (I.of .i64 1)).val=i.val+1:=by rw [a6A (by omega)]; omega
    omega
   have fits:a1D (a0K (a2C out [I.of .i64 0]))=true:=iff_fits.2 (by show (a2C out [_]).length≤_; rw [a2C,List.length_append,List.length_singleton]; have:=hI.len; omega)
   have fits':∀ d:Dg,a1D (a0K (a2C out [d]))=true:=fun d=>iff_fits.2 (by show (a2C out [_]).length≤_; rw [a2C,List.length_append,List.length_singleton]; have:=hI.len; omega)
   refine Wp.jn (fun x=>x.1.1=a'∧x.1.2.1=b'∧x.1.2.2.1=over∧x.1.2.2.2.1=i∧x.2.1=out∧(i.val<a'.length∨i.val<b'.length∨0<over.val)) ?_ ?_
   ·
    rintro ⟨⟨a1,b1,over1,i1,⟨⟩⟩,out1,⟨⟩⟩ ⟨e1,e2,e3,e4,e5,hc⟩
    simp only at e1 e2 e3 e4 e5
    subst e1 e2 e3 e4 e5
    have ra:=b6M ha.dig i1.val.toNat
    have rb:=b6M hb.dig i1.val.toNat
    unfold DigOk at ra rb
    refine Wp.jn (fun x=>x.1.1=a1∧x.1.2.1=b1∧x.1.2.2.1.val=over1.val+(rd0 a1 i1.val.toNat).val∧x.1.2.2.2.1=i1∧x.2.1=out1) ?_ ?_
    ·
     rintro ⟨⟨a2,b2,over2,i2,⟨⟩⟩,out2,⟨⟩⟩ ⟨e1,e2,e3,e4,e5⟩
     simp only at e1 e2 e3 e4 e5
     subst e1 e2 e4 e5
     refine Wp.brn (fun h=>?_) (fun h=>?_)
     ·
      have h:=iff_ltb.1 h
      simp only [hol2] at h
      refine Wp.brnT (iff_inB.2 ⟨hi0,by show i2.val<((b2.length:Nat):Int); omega⟩) ?_
      have hs:(I.add over2 (rd0 b2 i2.val.toNat)).val=over1.val+(rd0 a2 i2.val.toNat).val+(rd0 b2 i2.val.toNat).val:=by rw [a6A (by omega)]; omega
      have:=again _ hc hs
      exact Wp.brnT (fits' _) (Wp.again ⟨rfl,rfl,this.1⟩ this.2)
     ·
      have h:=niff_ltb.1 h
      simp only [hol2] at h
      have hz:=c8C (l:=b2) (i:=i2.val.toNat) (by omega)
      have hz2:(rd0 b2 i2.val.toNat).val=0:=by unfold I.nat at hz; omega
      have:=again over2 hc (by omega)
      exact Wp.brnT (fits' _) (Wp.again ⟨rfl,rfl,this.1⟩ this.2)
    ·
     intro j2 hj2
     refine Wp.brn (fun h=>?_) (fun h=>?_)
     ·
      have h:=iff_ltb.1 h
      simp only [hol] at h
      refine Wp.brnT (iff_inB.2 ⟨hi0,by show i1.val<((a1.length:Nat):Int); omega⟩) ?_
      exact hj2 _ ⟨rfl,rfl,a6A (by show _≤over1.val+(rd0 a1 i1.val.toNat).val∧over1.val+(rd0 a1 i1.val.toNat).val<_; omega),rfl,rfl⟩
     ·
      have h:=niff_ltb.1 h
      simp only [hol] at h
      have hz:=c8C (l:=a1) (i:=i1.val.toNat) (by omega)
      have hz2:(rd0 a1 i1.val.toNat).val=0:=by unfold I.nat at hz; omega
      exact hj2 _ ⟨rfl,rfl,by show over1.val=_; omega,rfl,rfl⟩
   ·
    intro j1 hj1
    refine Wp.brn (fun h=>?_) (fun h=>?_)
    ·
     have h:=iff_ltb.1 h
     simp only [hol] at h
     exact hj1 _ ⟨rfl,rfl,rfl,rfl,rfl,.inl h⟩
    ·
     have h:=niff_ltb.1 h
     simp only [hol] at h
     refine Wp.brn (fun h2=>?_) (fun h2=>?_)
     ·
      have h2:=iff_ltb.1 h2
      simp only [hol2] at h2
      exact hj1 _ ⟨rfl,rfl,rfl,rfl,rfl,.inr (.inl h2)⟩
     ·
      have h2:=niff_ltb.1 h2
      simp only [hol2] at h2
      refine Wp.brn (fun h3=>?_) (fun h3=>?_)
      ·
       have h3:=iff_ltb.1 h3
       simp only [c0] at h3
       exact hj1 _ ⟨rfl,rfl,rfl,rfl,rfl,.inr (.inr h3)⟩
      ·
       have h3:=niff_ltb.1 h3
       simp only [c0] at h3
       refine Wp.done ⟨out,rfl,hI.dig,hI.lead (by omega) (by omega) (by omega),?_⟩
       have hsum:=hI.sum
       have hz:over.nat=0:=by unfold I.nat; omega
       rw [List.drop_of_length_le (l:=a') (by omega),List.drop_of_length_le (l:=b') (by omega),hz] at hsum
       simp only [bv,Nat.mul_zero,Nat.add_zero] at hsum
       rw [hsum,ha.val,hb.val]
  ·
   refine ⟨rfl,rfl,?_⟩
   show AddInv a b (I.of .i64 0) (I.of .i64 0) []
   refine ⟨by decide,by decide,by decide,?_,rfl,fun _ h=>by simp at h,?_,fun _ _ _=>trivial⟩
   ·
    left; show (I.of .i64 0).val≤_; omega
   ·
    show bv []+65536^(I.of .i64 0).val.toNat*((I.of .i64 0).nat+bv (a.drop (I.of .i64 0).val.toNat)+bv (b.drop (I.of .i64 0).val.toNat))=_
    have e:(I.of .i64 0).val.toNat=0:=rfl
    have e2:(I.of .i64 0).nat=0:=rfl
    rw [e,e2]
    simp [bv]
  ·
   exact c0O _ (by show ((max a.length b.length:Int)+2-(I.of .i64 0).val).toNat<_; omega)
 exact key.out
end Sym

/- Natural numbers by digits of 65536: differences, comparison. -/
namespace Sym
open Go
theorem c4B:∀ (n:Nat),c2Z (b9Q n (I.of .i64 0))
 | 0=>fun _ h=>by simp [b9Q] at h
 | n+1=>digs_cons.2 ⟨g3I,c4B n⟩
theorem b3E {X:Type}:∀ (n:Nat) (x:X),(b9Q n x).length=n
 | 0,_=>rfl
 | n+1,x=>by simp [b9Q,b3E n x]
theorem c5H {X:Type} (l:List X) (i:Nat) (v:X) (h:i<l.length):(l.set i v).take (i+1)=l.take i++[v]:=by
 have h2:i<(l.set i v).length:=by simpa using h
 rw [← List.take_append_getElem h2]
 simp [List.take_set_of_le]
theorem c4V {l:List Dg} (h:c2Z l) (i:Nat) {d:Dg} (hd:DigOk d):c2Z (l.set i d):=by
 intro e he
 rcases List.mem_or_eq_of_mem_set he with h1 | h1
 ·
  exact h e h1
 ·
  subst h1; exact hd
structure SubInv (a b:List Dg) (under i:I .i64) (out:List Dg):Prop where
 u0:0≤under.val
 u1:under.val≤1
 i0:0≤i.val
 i1:i.val≤a.length
 len:out.length=a.length
 dig:c2Z out
 sum:bv (out.take i.val.toNat)+bv (b.take i.val.toNat)=bv (a.take i.val.toNat)+65536^i.val.toNat*under.nat
theorem f0F {a b:List Dg} {under i d un:I .i64} {out:List Dg} (ha:c2Z a) (hb:c2Z b) (hal:a.length≤1000000) (h:SubInv a b under i out) (hc:i.val<a.length)
  (hd:DigOk d) (hu:un.val=0∨un.val=1) (hs:d.val=(rd0 a i.val.toNat).val-under.val-(rd0 b i.val.toNat).val+65536*un.val) :
  SubInv a b un (I.add i (I.of .i64 1)) (setAt out (I.nat i) d):=by
 have c1:(I.of .i64 1).val=1:=rfl
 have da2:=(b6M ha i.val.toNat).nat
 have db2:=(b6M hb i.val.toNat).nat
 have hd2:=hd.nat
 have hu0:=h.u0
 have hu1:=h.u1
 have hi0:=h.i0
 have hi:(I.add i (I.of .i64 1)).val=i.val+1:=by rw [a6A (by omega)]; omega
 have hin:(I.add i (I.of .i64 1)).val.toNat=i.val.toNat+1:=by omega
 have hlen:=h.len
 have hni:I.nat i=i.val.toNat:=rfl
 rw [a7K,hni]
 refine ⟨by omega,by omega,by omega,by omega,by simpa using hlen,c4V h.dig _ hd,?_⟩
 rw [hin,c5H _ _ _ (by omega),c5Q,c7Z a,c7Z b]
 have el:(out.take i.val.toNat).length=i.val.toNat:=by simp; omega
 rw [el,Nat.pow_succ]
 simp only [bv,Nat.mul_zero,Nat.add_zero]
 have hsum:=h.sum
 have e:d.nat+(rd0 b i.val.toNat).nat+under.nat=(rd0 a i.val.toNat).nat+65536*un.nat:=by
  unfold I.nat at *
  omega
 have e2:=congrArg (fun z=>65536^i.val.toNat*z) e
 simp only [Nat.mul_add] at e2
 rw [← Nat.mul_assoc] at e2
 omega
theorem d0K {a b:List Dg} {m n:Nat} (ha:IsB a m) (hb:IsB b n) (hmn:n≤m) (hal:a.length≤1000000):∃ r,a2Q K0 ((a,b,()),())=some ((r,()),())∧IsB r (m-n):=by
 have hbl:b.length≤a.length:=hb.len.2 (Nat.lt_of_le_of_lt hmn (ha.len.1 (Nat.le_refl _)))
 have hol:(I.ofNat .i64 (a0K a)).val=a.length:=a2Z (by show a.length<_; omega)
 have hol2:(I.ofNat .i64 (a0K b)).val=b.length:=a2Z (by show b.length<_; omega)
 have c0:(I.of .i64 0).val=0:=rfl
 have hn:I.nat (I.ofNat .i64 (a0K a))=a.length:=by unfold I.nat; omega
 have key:Wp (fun o=>∃ r,o=some ((r,()),())∧IsB r (m-n)) (a2Q K0 ((a,b,()),())):=by
  unfold a2Q
  refine Wp.brnT ?_ ?_
  ·
   show (decide (0≤(I.ofNat .i64 (a0K a)).val)&&decide ((I.ofNat .i64 (a0K a)).val≤((I.nat (I.ofNat .i64 (a0K a)):Nat):Int)))=true
   rw [hn,hol]; simp
  refine Wp.brnT ?_ ?_
  ·
   show (decide (0≤(I.ofNat .i64 (a0K a)).val)&&decide ((I.ofNat .i64 (a0K a)).val≤((1073741824:Nat):Int)))=true
   rw [hol]; simp; omega
  refine Wp.iter (fun x=>x.1.1=a∧x.1.2.1=b∧SubInv a b x.1.2.2.1 x.1.2.2.2.1 x.2.1) (fun x=>((a.length:Int)-x.1.2.2.2.1.val).toNat) ?_ ?_ ?_
  ·
   rintro ⟨⟨a',b',under,i,⟨⟩⟩,out,⟨⟩⟩ ⟨e1,e2,hI⟩
   simp only at e1 e2 hI
   subst e1 e2
   have hi0:=hI.i0
   have hi1:=hI.i1
   have hu0:=hI.u0
   have hu1:=hI.u1
   refine Wp.brn (fun h=>?_) (fun h=>?_)
   ·
    have hlt:=iff_ltb.1 h
    simp only [hol] at hlt
    clear h
    have ra:=b6M ha.dig i.val.toNat
    have rb:=b6M hb.dig i.val.toNat
    have ra':=ra
    have rb':=rb
    unfold DigOk at ra rb
    have c1:(I.of .i64 1).val=1:=rfl
    have hi:(I.add i (I.of .i64 1)).val=i.val+1:=by rw [a6A (by omega)]; omega
    have hm:((a'.length:Int)-(I.add i (I.of .i64 1)).val).toNat<((a'.length:Int)-i.val).toNat:=by omega
    have hlen:=hI.len
    refine Wp.brnT (iff_inB.2 ⟨hi0,by show i.val<((a'.length:Nat):Int); omega⟩) ?_
    refine Wp.jn (fun x=>x.1.1=a'∧x.1.2.1=b'∧x.1.2.2.1=i∧x.1.2.2.2.1.val=(rd0 a' i.val.toNat).val-under.val-(rd0 b' i.val.toNat).val∧x.2.1=out) ?_ ?_
    ·
     rintro ⟨⟨a1,b1,i1,x,⟨⟩⟩,out1,⟨⟩⟩ ⟨e1,e2,e3,e4,e5⟩
     simp only at e1 e2 e3 e4 e5
     subst e1 e2 e3 e5
     refine Wp.brn (fun h2=>?_) (fun h2=>?_)
     ·
      have h2:=iff_ltb.1 h2
      simp only [c0] at h2
      refine Wp.brnT (iff_inB.2 ⟨hi0,by show i1.val<((out1.length:Nat):Int); omega⟩) ?_
      have c6:(I.of .i64 65536).val=65536:=rfl
      have hx:(I.add x (I.of .i64 65536)).val=x.val+65536:=by rw [a6A (by omega)]; omega
      have st:=f0F (un:=I.of .i64 1) (d:=I.add x (I.of .i64 65536)) ha.dig hb.dig hal hI hlt (by unfold DigOk; omega) (.inr rfl) (by omega)
      exact Wp.again ⟨rfl,rfl,st⟩ hm
     ·
      have h2:=niff_ltb.1 h2
      simp only [c0] at h2
      refine Wp.brnT (iff_inB.2 ⟨hi0,by show i1.val<((out1.length:Nat):Int); omega⟩) ?_
      have st:=f0F (un:=I.of .i64 0) (d:=x) ha.dig hb.dig hal hI hlt (by unfold DigOk; omega) (.inl rfl) (by omega)
      exact Wp.again ⟨rfl,rfl,st⟩ hm
    ·
     intro j hj
     have hs1:(I.sub (rd0 a' i.val.toNat) under).val=(rd0 a' i.val.toNat).val-under.val:=a8Q (by omega)
     refine Wp.brn (fun h2=>?_) (fun h2=>?_)
     ·
      have h2:=iff_ltb.1 h2
      simp only [hol2] at h2
      refine Wp.brnT (iff_inB.2 ⟨hi0,by show i.val<((b'.length:Nat):Int); omega⟩) ?_
      refine hj _ ⟨rfl,rfl,rfl,?_,rfl⟩
      show (I.sub (I.sub (rd0 a' i.val.toNat) under) (rd0 b' i.val.toNat)).val=_
      rw [a8Q (by omega),hs1]
     ·
      have h2:=niff_ltb.1 h2
      simp only [hol2] at h2
      have hz:=c8C (l:=b') (i:=i.val.toNat) (by omega)
      have hz2:(rd0 b' i.val.toNat).val=0:=by unfold I.nat at hz; omega
      refine hj _ ⟨rfl,rfl,rfl,?_,rfl⟩
      show (I.sub (rd0 a' i.val.toNat) under).val=_
      omega
   ·
    have h:=niff_ltb.1 h
    simp only [hol] at h
    have hlen:=hI.len
    have hsum:=hI.sum
    have hi:i.val.toNat=a'.length:=by omega
    rw [hi,List.take_of_length_le (by omega),List.take_of_length_le hbl,List.take_length,ha.val,hb.val] at hsum
    have hlt:=e8E hI.dig
    rw [hlen] at hlt
    have hz:under.nat=0:=by
     unfold I.nat
     rcases Int.lt_or_le under.val 1 with h1 | h1
     ·
      omega
     ·
      exfalso
      have:under.nat=1:=by unfold I.nat; omega
      rw [this] at hsum
      omega
    rw [hz,Nat.mul_zero,Nat.add_zero] at hsum
    have hbv:bv out=m-n:=by omega
    have holen:(I.ofNat .i64 (a0K out)).val=out.length:=a2Z (by show out.length<_; omega)
    clear hsum h
    refine Wp.done ?_
    refine Wp.iter (fun x=>x.2.1=out∧0≤x.1.1.val∧x.1.1.val≤(out.length:Int)∧bv (out.take x.1.1.val.toNat)=bv out) (fun x=>x.1.1.val.toNat) ?_ ?_ ?_
    ·
     rintro ⟨⟨j,r⟩,out',⟨⟩⟩ ⟨e1,hj0,hj1,hb⟩
     simp only at e1 hj0 hj1 hb
     subst e1
     have c1:(I.of .i64 1).val=1:=rfl
     have cut:inB' j (a0K out')=true:=by
      show (decide (0≤j.val)&&decide (j.val≤((out'.length:Nat):Int)))=true
      simp [hj0,hj1]
     have sub:a3T out' 0 (I.nat j)=out'.take j.val.toNat:=by simp [a3T,I.nat]
     refine Wp.brn (fun h=>?_) (fun h=>?_)
     ·
      have h:=iff_ltb.1 h
      have h:(I.of .i64 0).val<j.val:=h
      have hs:(I.sub j (I.of .i64 1)).val=j.val-1:=by rw [a8Q (by omega)]; omega
      have hidx:(I.nat (I.sub j (I.of .i64 1)))=j.val.toNat-1:=by unfold I.nat; omega
      have hlt:j.val.toNat-1<out'.length:=by omega
      have hrd:rdL (I.of .i64 0) out' (I.nat (I.sub j (I.of .i64 1)))=out'[j.val.toNat-1]:=by rw [hidx]; exact a3Y _ _ _ hlt
      have htk:out'.take j.val.toNat=out'.take (j.val.toNat-1)++[out'[j.val.toNat-1]]:=by
       rw [List.take_append_getElem hlt]
       congr 1
       omega
      refine Wp.brnT (iff_inB.2 ⟨by show 0≤(I.sub j (I.of .i64 1)).val; omega,by show (I.sub j (I.of .i64 1)).val<(out'.length:Int); omega⟩) ?_
      refine Wp.brn (fun h2=>?_) (fun h2=>?_)
      ·
       have h2:=iff_eqb.1 h2
       have h2:(rdL (I.of .i64 0) out' (I.nat (I.sub j (I.of .i64 1)))).val=(I.of .i64 0).val:=h2
       rw [hrd] at h2
       refine Wp.again ⟨rfl,?_,?_,?_⟩ ?_
       ·
        show 0≤(I.sub j (I.of .i64 1)).val; omega
       ·
        show (I.sub j (I.of .i64 1)).val≤_; omega
       ·
        show bv (out'.take (I.sub j (I.of .i64 1)).val.toNat)=_
        have e:(I.sub j (I.of .i64 1)).val.toNat=j.val.toNat-1:=by omega
        rw [e,← hb,htk,c5Q]
        have hz:(out'[j.val.toNat-1]).nat=0:=by unfold I.nat; rw [h2]; rfl
        simp [bv,hz]
       ·
        show (I.sub j (I.of .i64 1)).val.toNat<j.val.toNat
        omega
      ·
       have h2:=niff_eqb.1 h2
       have h2:(rdL (I.of .i64 0) out' (I.nat (I.sub j (I.of .i64 1)))).val≠(I.of .i64 0).val:=h2
       rw [hrd] at h2
       refine Wp.done (Wp.brnT cut ⟨_,rfl,?_⟩)
       show IsB (a3T out' 0 (I.nat j)) _
       rw [sub]
       refine ⟨c4T hI.dig _,?_,hb.trans hbv⟩
       rw [htk]
       exact c6M _ _ h2
     ·
      have h:=niff_ltb.1 h
      have h:j.val≤(I.of .i64 0).val:=h
      refine Wp.done (Wp.brnT cut ⟨_,rfl,?_⟩)
      show IsB (a3T out' 0 (I.nat j)) _
      rw [sub]
      have e:j.val.toNat=0:=by omega
      rw [e] at hb ⊢
      simp only [List.take_zero] at hb ⊢
      rw [← hbv,← hb]
      exact d6T
    ·
     refine ⟨rfl,?_,?_,?_⟩
     ·
      show 0≤(I.ofNat .i64 (a0K out)).val; omega
     ·
      show (I.ofNat .i64 (a0K out)).val≤_; omega
     ·
      show bv (out.take (I.ofNat .i64 (a0K out)).val.toNat)=_
      rw [holen,Int.toNat_natCast,List.take_length]
    ·
     refine c0O _ ?_
     show (I.ofNat .i64 (a0K out)).val.toNat<_
     omega
  ·
   refine ⟨rfl,rfl,?_⟩
   show SubInv a b (I.of .i64 0) (I.of .i64 0) (b9Q (I.nat (I.ofNat .i64 (a0K a))) (I.of .i64 0))
   rw [hn]
   have e:(I.of .i64 0).val.toNat=0:=rfl
   refine ⟨by decide,by decide,by decide,by omega,b3E _ _,c4B _,?_⟩
   rw [e]
   rfl
  ·
   exact c0O _ (by show ((a.length:Int)-(I.of .i64 0).val).toNat<_; omega)
 exact key.out
def c5W (m n:Nat):I .i64:=if m<n then I.of .i64 (-1) else if n<m then I.of .i64 1 else I.of .i64 0
theorem g4S {a b:List Dg} (ha:c2Z a) (hb:c2Z b) (i:Nat) (hd:bv (a.drop (i+1))=bv (b.drop (i+1))) (hlt:(rd0 a i).nat<(rd0 b i).nat) (hia:i≤a.length) (hib:i≤b.length):bv a<bv b:=by
 have e1:bv a=bv (a.take i)+65536^i*bv (a.drop i):=by
  have:=c5Q (a.take i) (a.drop i)
  rw [List.take_append_drop] at this
  rw [this]; simp [Nat.min_eq_left hia]
 have e2:bv b=bv (b.take i)+65536^i*bv (b.drop i):=by
  have:=c5Q (b.take i) (b.drop i)
  rw [List.take_append_drop] at this
  rw [this]; simp [Nat.min_eq_left hib]
 have h1:=e8E (c4T ha i)
 rw [List.length_take,Nat.min_eq_left hia] at h1
 have h2:bv (a.drop i)+1≤bv (b.drop i):=by rw [c1E a,c1E b]; omega
 have h3:=Nat.mul_le_mul_left (65536^i) h2
 rw [Nat.mul_add] at h3
 omega
theorem c7T {a b:List Dg} {m n:Nat} (ha:IsB a m) (hb:IsB b n) (hal:a.length≤1000000) (hbl:b.length≤1000000):a2X K0 ((a,b,()),())=some ((c5W m n,()),()):=by
 have hol:(I.ofNat .i64 (a0K a)).val=a.length:=a2Z (by show a.length<_; omega)
 have hol2:(I.ofNat .i64 (a0K b)).val=b.length:=a2Z (by show b.length<_; omega)
 have c0:(I.of .i64 0).val=0:=rfl
 have c1:(I.of .i64 1).val=1:=rfl
 have key:Wp (fun o=>o=some ((c5W m n,()),())) (a2X K0 ((a,b,()),())):=by
  unfold a2X
  refine Wp.brn (fun h=>?_) (fun h=>?_)
  ·
   have h:=iff_neb.1 h
   simp only [hol,hol2] at h
   refine Wp.brn (fun h2=>?_) (fun h2=>?_)
   ·
    have h2:=iff_ltb.1 h2
    simp only [hol,hol2] at h2
    have h3:m<n:=by
     rcases Nat.lt_or_ge m n with h3 | h3
     ·
      exact h3
     ·
      have:=hb.len.2 (Nat.lt_of_le_of_lt h3 (ha.len.1 (Nat.le_refl _)))
      omega
    show _=_
    unfold c5W
    rw [if_pos h3]
    rfl
   ·
    have h2:=niff_ltb.1 h2
    simp only [hol,hol2] at h2
    have h3:n<m:=by
     rcases Nat.lt_or_ge n m with h3 | h3
     ·
      exact h3
     ·
      have:=ha.len.2 (Nat.lt_of_le_of_lt h3 (hb.len.1 (Nat.le_refl _)))
      omega
    show _=_
    unfold c5W
    rw [if_neg (by omega),if_pos h3]
    rfl
  ·
   have h:=niff_neb.1 h
   simp only [hol,hol2] at h
   have hs:(I.sub (I.ofNat .i64 (a0K a)) (I.of .i64 1)).val=a.length-1:=by rw [a8Q (by omega)]; omega
   refine Wp.iter (fun x=>x.1.1=a∧x.1.2.1=b∧-1≤x.1.2.2.1.val∧x.1.2.2.1.val<(a.length:Int)∧bv (a.drop (x.1.2.2.1.val+1).toNat)=bv (b.drop (x.1.2.2.1.val+1).toNat)) (fun x=>(x.1.2.2.1.val+1).toNat) ?_ ?_ ?_
   ·
    rintro ⟨⟨a',b',i,⟨⟩⟩,⟨⟩⟩ ⟨e1,e2,hi0,hi1,hd⟩
    simp only at e1 e2 hi0 hi1 hd
    subst e1 e2
    refine Wp.brn (fun h2=>?_) (fun h2=>?_)
    ·
     have h2:=iff_leb.1 h2
     simp only [c0] at h2
     have ha1:inB i (a0K a')=true:=iff_inB.2 ⟨h2,by show i.val<((a'.length:Nat):Int); omega⟩
     have hb1:inB i (a0K b')=true:=iff_inB.2 ⟨h2,by show i.val<((b'.length:Nat):Int); omega⟩
     have en:(i.val+1).toNat=i.val.toNat+1:=by omega
     rw [en] at hd
     have na:=(b6M ha.dig i.val.toNat).nat
     have nb:=(b6M hb.dig i.val.toNat).nat
     refine Wp.brnT ha1 (Wp.brnT hb1 ?_)
     refine Wp.brn (fun h3=>?_) (fun h3=>?_)
     ·
      have h3:=iff_ltb.1 h3
      have h3:(rd0 a' i.val.toNat).val<(rd0 b' i.val.toNat).val:=h3
      have:=g4S ha.dig hb.dig i.val.toNat hd (by omega) (by omega) (by omega)
      rw [ha.val,hb.val] at this
      refine Wp.done ?_
      show _=_
      unfold c5W
      rw [if_pos this]
      rfl
     ·
      have h3:=niff_ltb.1 h3
      have h3:(rd0 b' i.val.toNat).val≤(rd0 a' i.val.toNat).val:=h3
      refine Wp.brnT ha1 (Wp.brnT hb1 ?_)
      refine Wp.brn (fun h4=>?_) (fun h4=>?_)
      ·
       have h4:=iff_ltb.1 h4
       have h4:(rd0 b' i.val.toNat).val<(rd0 a' i.val.toNat).val:=h4
       have:=g4S hb.dig ha.dig i.val.toNat hd.symm (by omega) (by omega) (by omega)
       rw [ha.val,hb.val] at this
       refine Wp.done ?_
       show _=_
       unfold c5W
       rw [if_neg (by omega),if_pos this]
       rfl
      ·
       have h4:=niff_ltb.1 h4
       have h4:(rd0 a' i.val.toNat).val≤(rd0 b' i.val.toNat).val:=h4
       have hsi:(I.sub i (I.of .i64 1)).val=i.val-1:=by rw [a8Q (by omega)]; omega
       refine Wp.again ⟨rfl,rfl,?_,?_,?_⟩ ?_
       ·
        show -1≤(I.sub i (I.of .i64 1)).val; omega
       ·
        show (I.sub i (I.of .i64 1)).val<_; omega
       ·
        show bv (a'.drop ((I.sub i (I.of .i64 1)).val+1).toNat)=bv (b'.drop ((I.sub i (I.of .i64 1)).val+1).toNat)
        have e:((I.sub i (I.of .i64 1)).val+1).toNat=i.val.toNat:=by omega
        rw [e,c1E a',c1E b',hd]
        omega
       ·
        show ((I.sub i (I.of .i64 1)).val+1).toNat<_
        simp only; omega
    ·
     have h2:=niff_leb.1 h2
     simp only [c0] at h2
     have e:(i.val+1).toNat=0:=by omega
     rw [e] at hd
     simp only [List.drop_zero] at hd
     rw [ha.val,hb.val] at hd
     refine Wp.done ?_
     show _=_
     unfold c5W
     rw [if_neg (by omega),if_neg (by omega)]
     rfl
   ·
    refine ⟨rfl,rfl,?_,?_,?_⟩
    ·
     show -1≤(I.sub (I.ofNat .i64 (a0K a)) (I.of .i64 1)).val; omega
    ·
     show (I.sub (I.ofNat .i64 (a0K a)) (I.of .i64 1)).val<_; omega
    ·
     show bv (a.drop ((I.sub (I.ofNat .i64 (a0K a)) (I.of .i64 1)).val+1).toNat)=bv (b.drop ((I.sub (I.ofNat .i64 (a0K a)) (I.of .i64 1)).val+1).toNat)
     have e:((I.sub (I.ofNat .i64 (a0K a)) (I.of .i64 1)).val+1).toNat=a.length:=by omega
     rw [e,List.drop_of_length_le (Nat.le_refl _),List.drop_of_length_le (by omega)]
   ·
    exact c0O _ (by show ((I.sub (I.ofNat .i64 (a0K a)) (I.of .i64 1)).val+1).toNat<_; omega)
 exact key.out
end Sym

/- Limbs of 256 bits; products of 64 bits. -/
namespace Sym
open Go
abbrev W64:Nat:=18446744073709551616
def limb' (a:U) (i:Nat):Nat:=(Arr.sel (I.of .u64 0) 4 a i).nat
theorem g8Q (x:I .u64) (n:Nat) (m:I .u64) (hn:n<64) (hm:m.val=((2^n-1:Nat):Int)):(I.and x m).nat=x.nat%2^n:=by
 have hx:=a6K x
 have h1:(BitVec.ofInt 64 x.val).toNat=x.nat:=by rw [BitVec.toNat_ofInt]; unfold I.nat; omega
 have hp:2^n≤2^63:=Nat.pow_le_pow_right (by decide) (by omega)
 have h2:(BitVec.ofInt 64 m.val).toNat=2^n-1:=by rw [BitVec.toNat_ofInt,hm]; omega
 have h3:(BitVec.ofInt IntKind.u64.bits x.val &&& BitVec.ofInt IntKind.u64.bits m.val).toNat=x.nat%2^n:=by
  show (BitVec.ofInt 64 x.val &&& BitVec.ofInt 64 m.val).toNat=_
  rw [BitVec.toNat_and,h1,h2,Nat.and_two_pow_sub_one_eq_mod]
 unfold I.and
 rw [h3]
 have h4:x.nat%2^n<2^n:=Nat.mod_lt _ (Nat.pow_pos (by decide))
 exact b7N (by omega)
theorem g4Z (x s:I .u64) (hs:s.nat<64):(I.shr x s).nat=x.nat / 2^s.nat:=by
 have h0:=a6K s
 have hx:=a6K x
 have h:=f7A x s (by unfold I.nat at hs; omega)
 have e:s.val.toNat=s.nat:=rfl
 rw [e] at h
 have h1:((x.nat / 2^s.nat:Nat):Int)=x.val / (2:Int)^s.nat:=by
  rw [Int.natCast_ediv,a2G]
  simp
 have:=a2G (I.shr x s)
 omega
theorem g6B (a b:I .u64):(I.add a b).nat=(a.nat+b.nat)%W64:=by
 have h1:=a2G a
 have h2:=a2G b
 show (IntKind.u64.wrap (a.val+b.val)).toNat=_%18446744073709551616
 rw [wrap_u64]
 omega
end Sym

/- Products of 256 bits. -/
namespace Sym
open Go
end Sym

/- Equality and order of 256 bits. -/
namespace Sym
open Go
theorem e9Z (a b:U):Ty.eqb (.arr 4 (.int .u64)) a b=decide (a.val=b.val):=by
 by_cases h:a.val=b.val
 ·
  have:=U.ext h
  subst this
  simp [Ty.eqb,Arr.eqb]
 ·
  simp only [h,decide_false]
  cases hb:Ty.eqb (.arr 4 (.int .u64)) a b with
  | false=>rfl
  | true =>
   exfalso
   apply h
   obtain ⟨a0,a1,a2,a3,⟨⟩⟩:=a
   obtain ⟨b0,b1,b2,b3,⟨⟩⟩:=b
   simp only [Ty.eqb,Arr.eqb,Bool.and_eq_true,decide_eq_true_eq,and_true] at hb
   obtain ⟨h0,h1,h2,h3⟩:=hb
   rw [I.ext' h0,I.ext' h1,I.ext' h2,I.ext' h3]
end Sym

/- Quotients of 512 by 256 bits. -/
namespace Sym
open Go
theorem c7K (x:I .u64):a1P K0 ((x,()),())=some ((d3T x,()),()):=rfl
end Sym

/- Quotients of 512 by 256 bits: the loop. -/
namespace Sym
open Go
theorem f5B (i:Nat):2^i=W64^(i / 64)*2^(i%64):=by
 have:W64=2^64:=by decide
 rw [this,← Nat.pow_mul,← Nat.pow_add]
 congr 1
 omega
theorem h7E (a:U) (k:Nat) (hk:k<4):∃ Y,a.val / W64^k=limb' a k+W64*Y:=by
 obtain ⟨a0,a1,a2,a3,⟨⟩⟩:=a
 have n0:=a3A a0
 have n1:=a3A a1
 have n2:=a3A a2
 have n3:=a3A a3
 have p0:W64^0=1:=by decide
 have p1:W64^1=18446744073709551616:=by decide
 have p2:W64^2=340282366920938463463374607431768211456:=by decide
 have p3:W64^3=6277101735386680763835789423207666416102355444464034512896:=by decide
 have hc:k=0∨k=1∨k=2∨k=3:=by omega
 rcases hc with rfl | rfl | rfl | rfl
 ·
  refine ⟨a1.nat+18446744073709551616*(a2.nat+18446744073709551616*a3.nat),?_⟩
  show U.val _ / W64^0=a0.nat+18446744073709551616*_
  rw [p0]; unfold U.val; simp only; omega
 ·
  refine ⟨a2.nat+18446744073709551616*a3.nat,?_⟩
  show U.val _ / W64^1=a1.nat+18446744073709551616*_
  rw [p1]; unfold U.val; simp only; omega
 ·
  refine ⟨a3.nat,?_⟩
  show U.val _ / W64^2=a2.nat+18446744073709551616*_
  rw [p2]; unfold U.val; simp only; omega
 ·
  refine ⟨0,?_⟩
  show U.val _ / W64^3=a3.nat+18446744073709551616*_
  rw [p3]; unfold U.val; simp only; omega
theorem g9M (a:U) (i:Nat) (hi:i<256):a.val / 2^i%2=limb' a (i / 64) / 2^(i%64)%2:=by
 obtain ⟨Y,hY⟩:=h7E a (i / 64) (by omega)
 rw [f5B i,← Nat.div_div_eq_div_mul,hY]
 have e:W64=2^(i%64)*(2*2^(63-i%64)):=by
  have:2*2^(63-i%64)=2^(64-i%64):=by rw [show 64-i%64=(63-i%64)+1 by omega,Nat.pow_succ,Nat.mul_comm]
  rw [this,← Nat.pow_add,show i%64+(64-i%64)=64 by omega]
 rw [e,Nat.mul_assoc,Nat.add_mul_div_left _ _ (Nat.pow_pos (by decide)),Nat.mul_assoc,Nat.add_mul_mod_self_left]
end Sym

/- Quotients of 512 by 256 bits: what they are. -/
namespace Sym
open Go
theorem g7B:U.top=2^256:=by decide
end Sym

/- Signed numbers of 256 bits: what the program's functions compute, told of whole numbers. -/
namespace Sym
open Go
abbrev S:Type:=Bool×U×Unit
def S.int (x:S):Int:=if x.1 then -(x.2.1.val:Int) else x.2.1.val
def S.of (z:Int):S:=(decide (z<0),U.of z.natAbs,())
def b0O (x:S):Bool:=!(x.1&&decide (x.2.1.val=0))
theorem S.abs (x:S):x.int.natAbs=x.2.1.val:=by
 unfold S.int
 split<;>omega
theorem S.lt (x:S):x.int.natAbs<U.top:=by rw [S.abs]; exact U.lt _
def g9B (z:Int):S×I .i64:=if z.natAbs<U.top then (S.of z,I.of .i64 0) else (S.of 0,I.of .i64 4)
theorem eqz (a:U):Ty.eqb (.arr 4 (.int .u64)) a (I.of .u64 0,I.of .u64 0,I.of .u64 0,I.of .u64 0,())=decide (a.val=0):=e9Z a (U.of 0)
def sgn (n:Bool) (m:Nat):Int:=if n then -(m:Int) else m
theorem e6N {z:Int} (h:z.natAbs<U.top):g9B z=(S.of z,I.of .i64 0):=if_pos h
theorem g8B {z:Int} (h:U.top≤z.natAbs):g9B z=(S.of 0,I.of .i64 4):=if_neg (by omega)
end Sym

/- Signed numbers of 256 bits: differences, products, quotients, order. -/
namespace Sym
open Go
theorem g7O (n m:Bool) (a b:Nat):sgn n a*sgn m b=sgn (!(n == m)) (a*b):=by
 unfold sgn
 cases n<;>cases m<;>simp [Int.neg_mul,Int.mul_neg]
theorem f8S (n:Bool) (a:Nat):(sgn n a).natAbs=a:=by unfold sgn; cases n<;>simp
theorem g5F (a d:Nat) (hd:0<d):-(a:Int) / (d:Int)=if a%d=0 then -((a / d:Nat):Int) else -((a / d+1:Nat):Int):=by
 have h1:=Nat.div_add_mod a d
 have h2:=Nat.mod_lt a hd
 have h1':(d:Int)*((a / d:Nat):Int)+((a%d:Nat):Int)=(a:Int):=by rw [← Int.natCast_mul]; omega
 by_cases h:a%d=0
 ·
  rw [if_pos h]
  refine ((Int.ediv_emod_unique (r:=0) (by omega)).2 ⟨?_,by omega,by omega⟩).1
  rw [h] at h1'
  rw [Int.mul_neg]
  simp only [Int.ofNat_zero] at h1'
  omega
 ·
  rw [if_neg h]
  refine ((Int.ediv_emod_unique (r:=(d:Int)-((a%d:Nat):Int)) (by omega)).2 ⟨?_,by omega,by omega⟩).1
  rw [Int.natCast_add,Int.mul_neg,Int.mul_add,show ((1:Nat):Int)=1 from rfl,Int.mul_one]
  omega
def d9D (a:U) (y:S):U×I .i64:=if b0O y then (if (a.val:Int)+y.int<0 then (U.of 0,I.of .i64 0) else c9B ((a.val:Int)+y.int).toNat) else (U.of 0,I.of .i64 2)
end Sym

/- Signed numbers: what the reference's functions compute; two laws. -/
namespace Sym
open Go
abbrev SB:Type:=Bool×List Dg×Unit
structure IsSB (s:SB) (z:Int):Prop where
 neg:s.1=decide (z<0)
 abs:IsB s.2.1 z.natAbs
def Bd (n:Nat):Prop:=n<65536^64
theorem len_small' {l:List Dg} {n:Nat} (h:IsB l n) (k:Nat) (hn:n<65536^k) (hk:k≤1000000):l.length≤1000000:=Nat.le_trans (h.len.2 hn) hk
theorem Bd.len {l:List Dg} {n:Nat} (h:IsB l n) (hb:Bd n):l.length≤1000000:=len_small' h 64 hb (by decide)
theorem Bd.of_top {n:Nat} (h:n<U.top):Bd n:=Nat.lt_trans h (by decide)
theorem Bd.of_two {n:Nat} (h:n<U.top+U.top):Bd n:=Nat.lt_trans h (by decide)
theorem f8L {l:List Dg} {n:Nat} (h:IsB l n):0<l.length↔n≠0:=by
 have:=h.len (k:=0)
 rw [Nat.pow_zero] at this
 omega
theorem b9J (n:Bool) {l:List Dg} {m:Nat} (h:IsB l m) (hl:l.length≤1000000):∃ s:SB,a2N K0 ((n,l,()),())=some ((s,()),())∧IsSB s (sgn n m):=by
 have key:Wp (fun o=>∃ s:SB,o=some ((s,()),())∧IsSB s (sgn n m)) (a2N K0 ((n,l,()),())):=by
  have hol:(I.ofNat .i64 (a0K l)).val=l.length:=a2Z (by show l.length<_; omega)
  have c0:(I.of .i64 0).val=0:=rfl
  have hp:=f8L h
  unfold a2N
  cases n with
  | false=>exact Wp.brnF rfl ⟨_,rfl,(decide_eq_false (by unfold sgn; simp)).symm,by rw [f8S]; exact h⟩
  | true =>
   refine Wp.brnT rfl ⟨_,rfl,?_,by rw [f8S]; exact h⟩
   show I.ltb (I.of .i64 0) (I.ofNat .i64 (a0K l))=decide (sgn true m<0)
   unfold I.ltb
   rw [c0,hol]
   have:((0:Int)<(l.length:Int))↔sgn true m<0:=by unfold sgn; simp; omega
   simp only [this]
 exact key.out
theorem d2L (x:S):∃ s:SB,a3M K0 ((x,()),())=some ((s,()),())∧IsSB s x.int:=by
 have key:Wp (fun o=>∃ s:SB,o=some ((s,()),())∧IsSB s x.int) (a3M K0 ((x,()),())):=by
  unfold a3M
  obtain ⟨l,hl,hB⟩:=a1I x.2.1
  refine Wp.optF hl ?_
  obtain ⟨s,hs,hS⟩:=b9J x.1 hB (Bd.len hB (Bd.of_top (U.lt _)))
  exact Wp.optF hs ⟨s,rfl,hS⟩
 exact key.out
theorem e2T {s t:SB} {z w:Int} (hs:IsSB s z) (ht:IsSB t w) (hz:Bd z.natAbs) (hw:Bd w.natAbs) (hzw:Bd (z.natAbs+w.natAbs)):∃ r:SB,a7T K0 ((s,t,()),())=some ((r,()),())∧IsSB r (z+w):=by
 have key:Wp (fun o=>∃ r:SB,o=some ((r,()),())∧IsSB r (z+w)) (a7T K0 ((s,t,()),())):=by
  obtain ⟨n,l,⟨⟩⟩:=s
  obtain ⟨m,l2,⟨⟩⟩:=t
  obtain ⟨h1,h2⟩:=hs
  obtain ⟨h3,h4⟩:=ht
  simp only at h1 h2 h3 h4
  have len1:=Bd.len h2 hz
  have g0X:=Bd.len h4 hw
  unfold a7T
  by_cases hnm:n=m
  ·
   refine Wp.brnT (by show (n == m)=true; simp [hnm]) ?_
   obtain ⟨r,hr,hB⟩:=b3H h2 h4 len1 g0X
   refine Wp.optF hr ?_
   obtain ⟨q,hq,hQ⟩:=b9J n hB (Bd.len hB hzw)
   refine Wp.optF hq ⟨q,rfl,?_⟩
   have:sgn n (z.natAbs+w.natAbs)=z+w:=by
    unfold sgn
    subst hnm
    rw [h1] at h3 ⊢
    by_cases hz0:z<0
    ·
     have:w<0:=by simpa [hz0] using h3
     simp [hz0]; omega
    ·
     have:¬ w<0:=by simpa [hz0] using h3
     simp [hz0]; omega
   rw [← this]; exact hQ
  ·
   refine Wp.brnF (by show (n == m)=false; simp [hnm]) ?_
   refine Wp.optF (c7T h2 h4 len1 g0X) ?_
   have hne:¬ (decide (z<0)=decide (w<0)):=by rw [← h1,← h3]; exact hnm
   by_cases hlt:z.natAbs<w.natAbs
   ·
    refine Wp.brnF (by show I.leb (I.of .i64 0) (c5W _ _)=false; unfold c5W; rw [if_pos hlt]; rfl) ?_
    obtain ⟨r,hr,hB⟩:=d0K h4 h2 (by omega) g0X
    refine Wp.optF hr ?_
    obtain ⟨q,hq,hQ⟩:=b9J m hB (Bd.len hB (Nat.lt_of_le_of_lt (Nat.sub_le _ _) hw))
    refine Wp.optF hq ⟨q,rfl,?_⟩
    have:sgn m (w.natAbs-z.natAbs)=z+w:=by
     unfold sgn
     rw [h3]
     by_cases hw0:w<0
     ·
      have:¬ z<0:=by simpa [hw0] using hne
      simp [hw0]; omega
     ·
      have:z<0:=by simpa [hw0] using hne
      simp [hw0]; omega
    rw [← this]; exact hQ
   ·
    refine Wp.brnT (by show I.leb (I.of .i64 0) (c5W _ _)=true; unfold c5W; rw [if_neg hlt]; split<;>rfl) ?_
    obtain ⟨r,hr,hB⟩:=d0K h2 h4 (by omega) len1
    refine Wp.optF hr ?_
    obtain ⟨q,hq,hQ⟩:=b9J n hB (Bd.len hB (Nat.lt_of_le_of_lt (Nat.sub_le _ _) hz))
    refine Wp.optF hq ⟨q,rfl,?_⟩
    have:sgn n (z.natAbs-w.natAbs)=z+w:=by
     unfold sgn
     rw [h1]
     by_cases hz0:z<0
     ·
      have:¬ w<0:=by simpa [hz0] using hne
      simp [hz0]; omega
     ·
      have:w<0:=by simpa [hz0] using hne
      simp [hz0]; omega
    rw [← this]; exact hQ
 exact key.out
theorem d2V {s:SB} {z:Int} (hs:IsSB s z) (hz:Bd z.natAbs):∃ r:SB,a6M K0 ((s,()),())=some ((r,()),())∧IsSB r (-z):=by
 have key:Wp (fun o=>∃ r:SB,o=some ((r,()),())∧IsSB r (-z)) (a6M K0 ((s,()),())):=by
  unfold a6M
  obtain ⟨q,hq,hQ⟩:=b9J (!s.1) hs.abs (Bd.len hs.abs hz)
  refine Wp.optF hq ⟨q,rfl,?_⟩
  have:sgn (!s.1) z.natAbs=-z:=by
   rw [hs.neg]
   unfold sgn
   by_cases h:z<0
   ·
    simp [h]; omega
   ·
    simp [h]; omega
  rw [← this]; exact hQ
 exact key.out
theorem d5R {s:SB} {z:Int} (hs:IsSB s z) (hz:Bd z.natAbs):a8Y K0 ((s,()),())=some (((g9B z).1,(g9B z).2,()),()):=by
 refine Wp.out (T:=fun o=>o=some (((g9B z).1,(g9B z).2,()),())) ?_
 unfold a8Y
 refine Wp.optF (Checked_ok' hs.abs (Bd.len hs.abs hz)) ?_
 unfold c9B
 by_cases h:z.natAbs<U.top
 ·
  rw [if_pos h,e6N h]
  refine Wp.brnF rfl ?_
  show some (((s.1,U.of z.natAbs,()),I.of .i64 0,()),())=some ((((decide (z<0),U.of z.natAbs,()):S),I.of .i64 0,()),())
  rw [hs.neg]
 ·
  rw [if_neg h,g8B (by omega)]
  exact Wp.brnT rfl rfl
theorem c4K (a:U):a2M K0 ((a,()),())=some ((decide (a.val=0),()),()):=by
 refine Wp.out (T:=fun o=>o=some ((decide (a.val=0),()),())) ?_
 unfold a2M
 show some ((Ty.eqb (.arr 4 (.int .u64)) a (I.of .u64 0,I.of .u64 0,I.of .u64 0,I.of .u64 0,()),()),())=_
 rw [eqz]
theorem c0Z (x:S):a5A K0 ((x,()),())=some ((b0O x,()),()):=by
 obtain ⟨n,a,⟨⟩⟩:=x
 refine Wp.out (T:=fun o=>o=some ((b0O (n,a,()),()),())) ?_
 unfold a5A
 cases n with
 | false=>exact Wp.brnF rfl rfl
 | true=>exact Wp.brnT rfl (Wp.optF (c4K a) rfl)
theorem g2P (a b:U):b5K K0 ((a,b,()),())=some ((S.of ((a.val:Int)-b.val),()),()):=by
 have ha:=a.lt
 have hb:=b.lt
 refine Wp.out (T:=fun o=>o=some ((S.of ((a.val:Int)-b.val),()),())) ?_
 unfold b5K
 obtain ⟨l,hl,hB⟩:=a1I a
 refine Wp.optF hl ?_
 obtain ⟨s,hs,hS⟩:=b9J false hB (Bd.len hB (Bd.of_top ha))
 refine Wp.optF hs ?_
 obtain ⟨l2,hl2,hB2⟩:=a1I b
 refine Wp.optF hl2 ?_
 obtain ⟨s2,hs2,hS2⟩:=b9J true hB2 (Bd.len hB2 (Bd.of_top hb))
 refine Wp.optF hs2 ?_
 have e1:sgn false a.val=(a.val:Int):=rfl
 have e2:sgn true b.val=-(b.val:Int):=rfl
 rw [e1] at hS
 rw [e2] at hS2
 obtain ⟨r,hr,hR⟩:=e2T hS hS2 (Bd.of_top (by omega)) (Bd.of_top (by omega)) (Bd.of_two (by omega))
 refine Wp.optF hr ?_
 rw [show (a.val:Int)+-(b.val:Int)=(a.val:Int)-b.val by omega] at hR
 refine Wp.optF (d5R hR (Bd.of_top (by omega))) ?_
 rw [e6N (by omega)]
 rfl
theorem f4A (a:U) (y:S):a9F K0 ((a,y,()),())=some (((d9D a y).1,(d9D a y).2,()),()):=by
 have ha:=a.lt
 have hy:=y.lt
 refine Wp.out (T:=fun o=>o=some (((d9D a y).1,(d9D a y).2,()),())) ?_
 unfold a9F d9D
 refine Wp.optF (c0Z y) ?_
 cases h1:b0O y with
 | false=>exact Wp.brnT rfl rfl
 | true =>
  rw [if_pos rfl]
  refine Wp.brnF rfl ?_
  obtain ⟨l,hl,hB⟩:=a1I a
  refine Wp.optF hl ?_
  obtain ⟨s,hs,hS⟩:=b9J false hB (Bd.len hB (Bd.of_top ha))
  refine Wp.optF hs ?_
  obtain ⟨s2,hs2,hS2⟩:=d2L y
  refine Wp.optF hs2 ?_
  have e1:sgn false a.val=(a.val:Int):=rfl
  rw [e1] at hS
  obtain ⟨r,hr,hR⟩:=e2T hS hS2 (Bd.of_top (by omega)) (Bd.of_top (by omega)) (Bd.of_two (by omega))
  refine Wp.optF hr ?_
  by_cases hz:(a.val:Int)+y.int<0
  ·
   rw [if_pos hz]
   refine Wp.brnT (by show r.1=true; rw [hR.neg]; exact decide_eq_true hz) rfl
  ·
   rw [if_neg hz]
   refine Wp.brnF (by show r.1=false; rw [hR.neg]; exact decide_eq_false hz) ?_
   have hb:Bd ((a.val:Int)+y.int).natAbs:=Bd.of_two (by omega)
   refine Wp.optF (Checked_ok' hR.abs (Bd.len hR.abs hb)) ?_
   rw [show ((a.val:Int)+y.int).natAbs=((a.val:Int)+y.int).toNat by omega]
   rfl
end Sym

/- Signed numbers: the laws of order, negation and algebra. -/
namespace Sym
open Go
end Sym

/- Signed numbers: the law of algebra. -/
namespace Sym
open Go
theorem d5I (z:Int) (d:Nat) (hd:d≠0):(z / (d:Int)).natAbs≤z.natAbs:=by
 have h1:=Int.mul_ediv_add_emod z d
 have h2:=Int.emod_nonneg z (b:=(d:Int)) (by omega)
 have h3:=Int.emod_lt_of_pos z (b:=(d:Int)) (by omega)
 rcases Int.lt_or_le z 0 with h | h
 ·
  have h4:z / (d:Int)<0:=by
   rcases Int.lt_or_le (z / (d:Int)) 0 with h7 | h7
   ·
    exact h7
   ·
    have:=Int.mul_nonneg (show (0:Int)≤(d:Int) by omega) h7
    omega
  have h5:z≤z / (d:Int):=by
   have:(d:Int)*(z / (d:Int))≤1*(z / (d:Int)):=Int.mul_le_mul_of_nonpos_right (by omega) (by omega)
   have h6:z-(z%d)=(d:Int)*(z / (d:Int)):=by omega
   rcases Int.lt_or_le (z / (d:Int)) z with h7 | h7
   ·
    exfalso
    have:(d:Int)*(z / (d:Int)+1)≤(d:Int)*z:=Int.mul_le_mul_of_nonneg_left (by omega) (by omega)
    rw [Int.mul_add,Int.mul_one] at this
    have h8:(d:Int)*z≤1*z:=Int.mul_le_mul_of_nonpos_right (by omega) (by omega)
    omega
   ·
    exact h7
  omega
 ·
  have h4:0≤z / (d:Int):=Int.ediv_nonneg h (by omega)
  have h5:z / (d:Int)≤z:=Int.ediv_le_self _ h
  omega
end Sym

/- Natural numbers by digits of 65536: products, and quotients by one digit. -/
namespace Sym
open Go
theorem f8H:∀ (l:List Dg) (i:Nat) (d:Dg),i<l.length→bv (l.set i d)+65536^i*(rd0 l i).nat=bv l+65536^i*d.nat
 | [],_,_,h=>by simp at h
 | x::l,0,d,_=>by simp [bv,rd0,rdL]; omega
 | x::l,i+1,d,h=>by
  have ih:=f8H l i d (by simpa using h)
  simp only [List.set_cons_succ,bv,Nat.pow_succ,rd0,rdL] at *
  have e1:65536^i*65536*(rdL (I.of .i64 0) l i).nat=65536*(65536^i*(rdL (I.of .i64 0) l i).nat):=by rw [Nat.mul_comm (65536^i) 65536,Nat.mul_assoc]
  have e2:65536^i*65536*d.nat=65536*(65536^i*d.nat):=by rw [Nat.mul_comm (65536^i) 65536,Nat.mul_assoc]
  rw [e1,e2]
  omega
theorem d2T (l:List Dg) (i j:Nat) (d:Dg) (h:i≠j):rd0 (l.set i d) j=rd0 l j:=by
 unfold rd0
 rcases Nat.lt_or_ge j l.length with hj | hj
 ·
  rw [a3Y _ _ _ (by simpa using hj),a3Y _ _ _ hj,List.getElem_set_ne h]
 ·
  rw [c7U _ _ _ (by simpa using hj),c7U _ _ _ hj]
theorem e2O:∀ (n i:Nat),(rd0 (b9Q n (I.of .i64 0)) i).nat=0
 | 0,i=>rfl
 | n+1,0=>rfl
 | n+1,i+1=>e2O n i
theorem e0R:∀ (n:Nat),bv (b9Q n (I.of .i64 0))=0
 | 0=>rfl
 | n+1=>by simp [b9Q,bv,e0R n]; rfl
structure MulInv (a b:List Dg) (i k:Nat) (over:Nat) (out:List Dg):Prop where
 len:out.length=a.length+b.length
 dig:c2Z out
 zero:∀ j,i+b.length≤j→(rd0 out j).nat=0
 eq:bv out+65536^(i+k)*over=bv (a.take i)*bv b+(rd0 a i).nat*65536^i*bv (b.take k)
theorem g1Z {a b:List Dg} {i k over:Nat} {out:List Dg} (h:MulInv a b i k over out) (hi:i<a.length) (hk:k<b.length) (d:Dg) (ov:Nat) (hd:DigOk d)
  (hs:d.nat+65536*ov=over+(rd0 out (i+k)).nat+(rd0 a i).nat*(rd0 b k).nat):MulInv a b i (k+1) ov (out.set (i+k) d):=by
 refine ⟨by simpa using h.len,c4V h.dig _ hd,fun j hj=>?_,?_⟩
 ·
  rw [d2T _ _ _ _ (by omega)]; exact h.zero j hj
 ·
  have hset:=f8H out (i+k) d (by rw [h.len]; omega)
  have heq:=h.eq
  rw [c7Z b k]
  have e1:(rd0 a i).nat*65536^i*(bv (b.take k)+65536^k*(rd0 b k).nat)=(rd0 a i).nat*65536^i*bv (b.take k)+65536^(i+k)*((rd0 a i).nat*(rd0 b k).nat):=by
   rw [Nat.mul_add,Nat.pow_add]
   congr 1
   simp only [Nat.mul_comm,Nat.mul_left_comm,Nat.mul_assoc]
  have e2:65536^(i+(k+1))*ov=65536^(i+k)*(65536*ov):=by rw [← Nat.add_assoc,Nat.pow_succ,Nat.mul_assoc]
  have e3:=congrArg (fun t=>65536^(i+k)*t) hs
  simp only [Nat.mul_add] at e3
  rw [e1,e2]
  omega
theorem g0I {a b:List Dg} {i over:Nat} {out:List Dg} (h:MulInv a b i b.length over out) (hi:i<a.length) (d:Dg) (hd:DigOk d) (hv:d.nat=over):MulInv a b (i+1) 0 0 (out.set (i+b.length) d):=by
 refine ⟨by simpa using h.len,c4V h.dig _ hd,fun j hj=>?_,?_⟩
 ·
  rw [d2T _ _ _ _ (by omega)]; exact h.zero j (by omega)
 ·
  have hset:=f8H out (i+b.length) d (by rw [h.len]; omega)
  have hz:=h.zero (i+b.length) (Nat.le_refl _)
  have heq:=h.eq
  rw [hz,Nat.mul_zero,Nat.add_zero,hv] at hset
  rw [List.take_length] at heq
  rw [c7Z a i,Nat.add_mul]
  have e:65536^i*(rd0 a i).nat*bv b=(rd0 a i).nat*65536^i*bv b:=by rw [Nat.mul_comm (65536^i)]
  simp only [List.take_zero,bv,Nat.mul_zero,Nat.add_zero]
  rw [e]
  omega
theorem b3I {a b:List Dg} {m n:Nat} (ha:IsB a m) (hb:IsB b n) (hal:a.length≤1000000) (hbl:b.length≤1000000):∃ r,a2A K0 ((a,b,()),())=some ((r,()),())∧IsB r (m*n):=by
 have hol:(I.ofNat .i64 (a0K a)).val=a.length:=a2Z (by show a.length<_; omega)
 have hol2:(I.ofNat .i64 (a0K b)).val=b.length:=a2Z (by show b.length<_; omega)
 have c0:(I.of .i64 0).val=0:=rfl
 have c1:(I.of .i64 1).val=1:=rfl
 have hadd:(I.add (I.ofNat .i64 (a0K a)) (I.ofNat .i64 (a0K b))).val=a.length+b.length:=by rw [a6A (by omega),hol,hol2]
 have hn:I.nat (I.add (I.ofNat .i64 (a0K a)) (I.ofNat .i64 (a0K b)))=a.length+b.length:=by unfold I.nat; omega
 have key:Wp (fun o=>∃ r,o=some ((r,()),())∧IsB r (m*n)) (a2A K0 ((a,b,()),())):=by
  unfold a2A
  refine Wp.brnT ?_ (Wp.brnT ?_ ?_)
  ·
   show (decide (0≤(I.add (I.ofNat .i64 (a0K a)) (I.ofNat .i64 (a0K b))).val)&&decide ((I.add (I.ofNat .i64 (a0K a)) (I.ofNat .i64 (a0K b))).val≤((I.nat (I.add (I.ofNat .i64 (a0K a)) (I.ofNat .i64 (a0K b))):Nat):Int)))=true
   rw [hn,hadd]; simp; omega
  ·
   show (decide (0≤(I.add (I.ofNat .i64 (a0K a)) (I.ofNat .i64 (a0K b))).val)&&decide ((I.add (I.ofNat .i64 (a0K a)) (I.ofNat .i64 (a0K b))).val≤((1073741824:Nat):Int)))=true
   rw [hadd]; simp; omega
  refine Wp.iter (fun x=>x.1.1=a∧x.1.2.1=b∧0≤x.1.2.2.1.val∧x.1.2.2.1.val≤(a.length:Int)∧MulInv a b x.1.2.2.1.val.toNat 0 0 x.2.1) (fun x=>((a.length:Int)-x.1.2.2.1.val).toNat) ?_ ?_ ?_
  ·
   rintro ⟨⟨a',b',i,⟨⟩⟩,out0,⟨⟩⟩ ⟨e1,e2,hi0,hi1,hI⟩
   simp only at e1 e2 hi0 hi1 hI
   subst e1 e2
   refine Wp.brn (fun h=>?_) (fun h=>?_)
   ·
    have hlt:=iff_ltb.1 h
    simp only [hol] at hlt
    clear h
    have si:(I.add i (I.of .i64 1)).val=i.val+1:=by rw [a6A (by omega)]; omega
    have sin:(I.add i (I.of .i64 1)).val.toNat=i.val.toNat+1:=by omega
    have hmi:((a'.length:Int)-(I.add i (I.of .i64 1)).val).toNat<((a'.length:Int)-i.val).toNat:=by omega
    refine Wp.iter (fun x=>x.1.1=a'∧x.1.2.1=b'∧x.1.2.2.1=i∧0≤x.1.2.2.2.1.val∧x.1.2.2.2.1.val<65536∧0≤x.1.2.2.2.2.1.val∧x.1.2.2.2.2.1.val≤(b'.length:Int)∧MulInv a' b' i.val.toNat x.1.2.2.2.2.1.val.toNat (I.nat (k:=.i64) x.1.2.2.2.1) x.2.1) (fun x=>((b'.length:Int)-x.1.2.2.2.2.1.val).toNat) ?_ ?_ ?_
    ·
     rintro ⟨⟨a2,b2,i2,over,k,⟨⟩⟩,out,⟨⟩⟩ ⟨e1,e2,e3,ho0,ho1,hk0,hk1,hinv⟩
     simp only at e1 e2 e3 ho0 ho1 hk0 hk1 hinv
     subst e1 e2 e3
     have hlen:=hinv.len
     refine Wp.brn (fun h=>?_) (fun h=>?_)
     ·
      have hkl:=iff_ltb.1 h
      simp only [hol2] at hkl
      clear h
      have sk:(I.add k (I.of .i64 1)).val=k.val+1:=by rw [a6A (by omega)]; omega
      have skn:(I.add k (I.of .i64 1)).val.toNat=k.val.toNat+1:=by omega
      have sik:(I.add i2 k).val=i2.val+k.val:=a6A (by omega)
      have nik:I.nat (I.add i2 k)=i2.val.toNat+k.val.toNat:=by unfold I.nat; omega
      have hmk:((b2.length:Int)-(I.add k (I.of .i64 1)).val).toNat<((b2.length:Int)-k.val).toNat:=by omega
      have bik:inB (I.add i2 k) (a0K out)=true:=iff_inB.2 ⟨by omega,by show (I.add i2 k).val<((out.length:Nat):Int); omega⟩
      refine Wp.brnT bik (Wp.brnT (iff_inB.2 ⟨hi0,by show i2.val<((a2.length:Nat):Int); omega⟩) (Wp.brnT (iff_inB.2 ⟨hk0,by show k.val<((b2.length:Nat):Int); omega⟩) (Wp.brnT bik ?_)))
      have da:=b6M ha.dig i2.val.toNat
      have db:=b6M hb.dig k.val.toNat
      have dq:=b6M hinv.dig (i2.val.toNat+k.val.toNat)
      have na:=da.nat
      have nb:=db.nat
      have nq:=dq.nat
      unfold DigOk at da db dq
      have hprod:(rd0 a2 i2.val.toNat).val*(rd0 b2 k.val.toNat).val=(((rd0 a2 i2.val.toNat).nat*(rd0 b2 k.val.toNat).nat:Nat):Int):=by rw [Int.natCast_mul,na.1,nb.1]
      have hple:(rd0 a2 i2.val.toNat).nat*(rd0 b2 k.val.toNat).nat≤65535*65535:=Nat.mul_le_mul (by omega) (by omega)
      have hm1:(I.mul (rd0 a2 i2.val.toNat) (rd0 b2 k.val.toNat)).val=(((rd0 a2 i2.val.toNat).nat*(rd0 b2 k.val.toNat).nat:Nat):Int):=by rw [c3M (by rw [hprod]; omega),hprod]
      have hs1:(I.add over (rd0 out (i2.val.toNat+k.val.toNat))).val=over.val+(rd0 out (i2.val.toNat+k.val.toNat)).val:=a6A (by omega)
      have hs2:(I.add (I.add over (rd0 out (i2.val.toNat+k.val.toNat))) (I.mul (rd0 a2 i2.val.toNat) (rd0 b2 k.val.toNat))).val=over.val+(rd0 out (i2.val.toNat+k.val.toNat)).val+(((rd0 a2 i2.val.toNat).nat*(rd0 b2 k.val.toNat).nat:Nat):Int):=by rw [a6A (by rw [hs1,hm1]; omega),hs1,hm1]
      generalize hS:I.add (I.add over (rd0 out (i2.val.toNat+k.val.toNat))) (I.mul (rd0 a2 i2.val.toNat) (rd0 b2 k.val.toNat))=s at hs2
      have hsh:=d1W s (by omega)
      have han:=e8I s (by omega)
      have hdig:DigOk (I.and s (I.of .i64 65535)):=by unfold DigOk; omega
      have hon:(over.nat:Int)=over.val:=by unfold I.nat; omega
      have st:=g1Z hinv (by omega) (by omega) (I.and s (I.of .i64 65535)) (I.shr s (I.of .u64 16)).nat hdig (by
       have h1:=hdig.nat
       have h2:((I.shr s (I.of .u64 16)).nat:Int)=(I.shr s (I.of .u64 16)).val:=by unfold I.nat; omega
       omega)
      refine Wp.again ⟨rfl,rfl,rfl,?_,?_,?_,?_,?_⟩ hmk
      ·
       show 0≤(I.shr (I.add (I.add over (rd0 out (I.nat (I.add i2 k)))) (I.mul (rd0 a2 (I.nat i2)) (rd0 b2 (I.nat k)))) (I.of .u64 16)).val
       rw [nik]
       show 0≤(I.shr (I.add (I.add over (rd0 out (i2.val.toNat+k.val.toNat))) (I.mul (rd0 a2 i2.val.toNat) (rd0 b2 k.val.toNat))) (I.of .u64 16)).val
       rw [hS]; omega
      ·
       show (I.shr (I.add (I.add over (rd0 out (I.nat (I.add i2 k)))) (I.mul (rd0 a2 (I.nat i2)) (rd0 b2 (I.nat k)))) (I.of .u64 16)).val<65536
       rw [nik]
       show (I.shr (I.add (I.add over (rd0 out (i2.val.toNat+k.val.toNat))) (I.mul (rd0 a2 i2.val.toNat) (rd0 b2 k.val.toNat))) (I.of .u64 16)).val<65536
       rw [hS]; omega
      ·
       show 0≤(I.add k (I.of .i64 1)).val; omega
      ·
       show (I.add k (I.of .i64 1)).val≤_; omega
      ·
       show MulInv a2 b2 i2.val.toNat (I.add k (I.of .i64 1)).val.toNat (I.nat (I.shr (I.add (I.add over (rd0 out (I.nat (I.add i2 k)))) (I.mul (rd0 a2 (I.nat i2)) (rd0 b2 (I.nat k)))) (I.of .u64 16))) (setAt out (I.nat (I.add i2 k)) (I.and (I.add (I.add over (rd0 out (I.nat (I.add i2 k)))) (I.mul (rd0 a2 (I.nat i2)) (rd0 b2 (I.nat k)))) (I.of .i64 65535)))
       rw [nik,skn,a7K]
       show MulInv a2 b2 i2.val.toNat (k.val.toNat+1) (I.nat (I.shr (I.add (I.add over (rd0 out (i2.val.toNat+k.val.toNat))) (I.mul (rd0 a2 i2.val.toNat) (rd0 b2 k.val.toNat))) (I.of .u64 16))) (out.set (i2.val.toNat+k.val.toNat) (I.and (I.add (I.add over (rd0 out (i2.val.toNat+k.val.toNat))) (I.mul (rd0 a2 i2.val.toNat) (rd0 b2 k.val.toNat))) (I.of .i64 65535)))
       rw [hS]; exact st
     ·
      have h:=niff_ltb.1 h
      simp only [hol2] at h
      have hk:k.val.toNat=b2.length:=by omega
      rw [hk] at hinv
      have sib:(I.add i2 (I.ofNat .i64 (a0K b2))).val=i2.val+b2.length:=by rw [a6A (by omega),hol2]
      have nib:I.nat (I.add i2 (I.ofNat .i64 (a0K b2)))=i2.val.toNat+b2.length:=by unfold I.nat; omega
      refine Wp.done (Wp.brnT (iff_inB.2 ⟨by show 0≤(I.add i2 (I.ofNat .i64 (a0K b2))).val; omega,by show (I.add i2 (I.ofNat .i64 (a0K b2))).val<((out.length:Nat):Int); omega⟩) ?_)
      have st:=g0I hinv (by omega) over ⟨ho0,ho1⟩ rfl
      refine Wp.again ⟨rfl,rfl,?_,?_,?_⟩ hmi
      ·
       show 0≤(I.add i2 (I.of .i64 1)).val; omega
      ·
       show (I.add i2 (I.of .i64 1)).val≤_; omega
      ·
       show MulInv a2 b2 (I.add i2 (I.of .i64 1)).val.toNat 0 0 (setAt out (I.nat (I.add i2 (I.ofNat .i64 (a0K b2)))) over)
       rw [sin,nib,a7K]
       exact st
    ·
     refine ⟨rfl,rfl,rfl,by show 0≤(I.of .i64 0).val; decide,by show (I.of .i64 0).val<65536; decide,by show 0≤(I.of .i64 0).val; decide,by show (I.of .i64 0).val≤(b'.length:Int); omega,?_⟩
     exact hI
    ·
     exact c0O _ (by show ((b'.length:Int)-(I.of .i64 0).val).toNat<_; omega)
   ·
    have h:=niff_ltb.1 h
    simp only [hol] at h
    have hi:i.val.toNat=a'.length:=by omega
    rw [hi] at hI
    have heq:=hI.eq
    rw [List.take_length,Nat.mul_zero,Nat.add_zero,List.take_zero] at heq
    have hlen:=hI.len
    obtain ⟨r,hr,hB⟩:=e2K out0 hI.dig (by omega)
    refine Wp.done (Wp.optF hr ⟨r,rfl,hB.dig,hB.lead,?_⟩)
    rw [hB.val,heq,ha.val,hb.val]
    simp [bv]
  ·
   refine ⟨rfl,rfl,by show 0≤(I.of .i64 0).val; decide,by show (I.of .i64 0).val≤(a.length:Int); omega,?_⟩
   show MulInv a b (I.of .i64 0).val.toNat 0 0 (b9Q (I.nat (I.add (I.ofNat .i64 (a0K a)) (I.ofNat .i64 (a0K b)))) (I.of .i64 0))
   rw [hn]
   refine ⟨b3E _ _,c4B _,fun j _=>e2O _ _,?_⟩
   have e:(I.of .i64 0).val.toNat=0:=rfl
   rw [e0R,e]
   simp [bv]
  ·
   exact c0O _ (by show ((a.length:Int)-(I.of .i64 0).val).toNat<_; omega)
 exact key.out
end Sym

/- Signed numbers: the laws of arithmetic. -/
namespace Sym
open Go
theorem g6J {s t:SB} {z w:Int} (hs:IsSB s z) (ht:IsSB t w) (hz:Bd z.natAbs) (hw:Bd w.natAbs) (hzw:Bd (z.natAbs*w.natAbs)):∃ r:SB,b3G K0 ((s,t,()),())=some ((r,()),())∧IsSB r (z*w):=by
 have key:Wp (fun o=>∃ r:SB,o=some ((r,()),())∧IsSB r (z*w)) (b3G K0 ((s,t,()),())):=by
  unfold b3G
  obtain ⟨l,hl,hB⟩:=b3I hs.abs ht.abs (Bd.len hs.abs hz) (Bd.len ht.abs hw)
  refine Wp.optF hl ?_
  obtain ⟨r,hr,hR⟩:=b9J (!(s.1 == t.1)) hB (Bd.len hB hzw)
  refine Wp.optF hr ⟨r,rfl,?_⟩
  have e1:sgn s.1 z.natAbs=z:=by rw [hs.neg]; unfold sgn; by_cases h:z<0<;>simp [h]<;>omega
  have e2:sgn t.1 w.natAbs=w:=by rw [ht.neg]; unfold sgn; by_cases h:w<0<;>simp [h]<;>omega
  rw [← g7O,e1,e2] at hR
  exact hR
 exact key.out
theorem f4D (x n:I .i64) (h:0<n.val):∃ y:I .i64,a4O K0 ((x,n,()),())=some ((y,()),())∧0≤y.val∧y.val<n.val:=by
 have hn:=b6K n
 have e:(I.conv .u64 n).val=n.val:=b8W ⟨by omega,by omega⟩
 have hx:=a6K (I.conv .u64 x)
 have er:(I.rem (I.conv .u64 x) (I.conv .u64 n)).val=(I.conv .u64 x).val%n.val:=by rw [f6X (by omega),e]
 have h3:=Int.emod_nonneg (I.conv .u64 x).val (b:=n.val) (by omega)
 have h4:=Int.emod_lt_of_pos (I.conv .u64 x).val (b:=n.val) (by omega)
 have ec:(I.conv .i64 (I.rem (I.conv .u64 x) (I.conv .u64 n))).val=(I.conv .u64 x).val%n.val:=by
  show (I.of .i64 _).val=_
  rw [er]
  exact b6T ⟨by omega,by omega⟩
 refine ⟨I.conv .i64 (I.rem (I.conv .u64 x) (I.conv .u64 n)),?_,by omega,by omega⟩
 refine Wp.out (T:=fun o=>o=_) ?_
 unfold a4O
 refine Wp.brnT (iff_nz.2 ?_) rfl
 show (I.conv .u64 n).val≠0
 omega
end Sym

/- Natural numbers by digits of 65536: quotients. -/
namespace Sym
open Go
theorem e0B (l:List Dg) (i:Nat) (d:Dg) (h:i<l.length):rd0 (l.set i d) i=d:=by
 unfold rd0
 rw [a3Y _ _ _ (by simpa using h)]
 simp
theorem c5G (l:List Dg) (i:Nat) (d:Dg):(l.set i d).drop (i+1)=l.drop (i+1):=by
 rw [List.drop_set_of_lt (by omega)]
theorem e6X (l:List Dg) (i:Nat) (d:Dg) (h:i<l.length):bv ((l.set i d).drop i)=d.nat+65536*bv (l.drop (i+1)):=by
 rw [c1E,e0B _ _ _ h,c5G]
structure ShInv (a:List Dg) (d:Nat) (left:Nat) (j:Nat) (q:List Dg):Prop where
 len:q.length=a.length
 dig:c2Z q
 lt:left<d
 eq:bv (a.drop j)=bv (q.drop j)*d+left
theorem g6H {a q:List Dg} {d left j x:Nat} (h:ShInv a d left (j+1) q) (hj:j<a.length) (hx:x=65536*left+(rd0 a j).nat) (v:Dg) (hv:v.nat=x / d) (hd:DigOk v) (hd0:0<d):ShInv a d (x%d) j (q.set j v):=by
 refine ⟨by simpa using h.len,c4V h.dig _ hd,Nat.mod_lt _ hd0,?_⟩
 rw [c1E a j,e6X _ _ _ (by rw [h.len]; exact hj),hv,h.eq,Nat.add_mul,Nat.mul_assoc]
 have h1:=Nat.div_add_mod x d
 rw [Nat.mul_comm] at h1
 rw [Nat.mul_add]
 omega
theorem g2V {a:List Dg} {m:Nat} (ha:IsB a m) (hal:a.length≤1000000) (d:Dg) (hd:DigOk d) (h0:d.val≠0):∃ q r,b0P K0 ((a,d,()),())=some ((q,r,()),())∧IsB q (m / d.nat)∧IsB r (m%d.nat):=by
 have hol:(I.ofNat .i64 (a0K a)).val=a.length:=a2Z (by show a.length<_; omega)
 have hn:I.nat (I.ofNat .i64 (a0K a))=a.length:=by unfold I.nat; omega
 have c0:(I.of .i64 0).val=0:=rfl
 have c1:(I.of .i64 1).val=1:=rfl
 have cB:(I.of .i64 65536).val=65536:=rfl
 have dn:=hd.nat
 have hd':=hd
 unfold DigOk at hd'
 have key:Wp (fun o=>∃ q r,o=some ((q,r,()),())∧IsB q (m / d.nat)∧IsB r (m%d.nat)) (b0P K0 ((a,d,()),())):=by
  unfold b0P
  refine Wp.brnT ?_ (Wp.brnT ?_ ?_)
  ·
   show (decide (0≤(I.ofNat .i64 (a0K a)).val)&&decide ((I.ofNat .i64 (a0K a)).val≤((I.nat (I.ofNat .i64 (a0K a)):Nat):Int)))=true
   rw [hn,hol]; simp
  ·
   show (decide (0≤(I.ofNat .i64 (a0K a)).val)&&decide ((I.ofNat .i64 (a0K a)).val≤((1073741824:Nat):Int)))=true
   rw [hol]; simp; omega
  refine Wp.iter (fun x=>x.1.1=a∧x.1.2.1=d∧0≤x.1.2.2.1.val∧-1≤x.1.2.2.2.1.val∧x.1.2.2.2.1.val<(a.length:Int)∧ShInv a d.nat (I.nat (k:=.i64) x.1.2.2.1) (x.1.2.2.2.1.val+1).toNat x.2.1) (fun x=>(x.1.2.2.2.1.val+1).toNat) ?_ ?_ ?_
  ·
   rintro ⟨⟨a',d',left,i,⟨⟩⟩,q,⟨⟩⟩ ⟨e1,e2,hl0,hi0,hi1,hI⟩
   simp only at e1 e2 hl0 hi0 hi1 hI
   subst e1 e2
   have hlt:=hI.lt
   have hll:(left.nat:Int)=left.val:=by unfold I.nat; omega
   refine Wp.brn (fun h=>?_) (fun h=>?_)
   ·
    have hge:=iff_leb.1 h
    simp only [c0] at hge
    clear h
    have ej:(i.val+1).toNat=i.val.toNat+1:=by omega
    rw [ej] at hI
    have da:=b6M ha.dig i.val.toNat
    have na:=da.nat
    unfold DigOk at da
    have hs:(I.sub i (I.of .i64 1)).val=i.val-1:=by rw [a8Q (by omega)]; omega
    have hm1:(I.mul (I.of .i64 65536) left).val=65536*left.val:=by rw [c3M (by rw [cB]; omega),cB]
    have hx:(I.add (I.mul (I.of .i64 65536) left) (rd0 a' i.val.toNat)).val=65536*left.val+(rd0 a' i.val.toNat).val:=by rw [a6A (by rw [hm1]; omega),hm1]
    generalize hX:I.add (I.mul (I.of .i64 65536) left) (rd0 a' i.val.toNat)=x at hx
    have hxn:(x.nat:Int)=x.val:=by unfold I.nat; omega
    have hq:(I.quo x d').val=x.val / d'.val:=c1Q (by omega) (by omega)
    have hr:(I.rem x d').val=x.val%d'.val:=b9N (by omega) (by omega)
    have hq2:x.val / d'.val=((x.nat / d'.nat:Nat):Int):=by rw [Int.natCast_ediv,hxn,dn.1]
    have hr2:x.val%d'.val=((x.nat%d'.nat:Nat):Int):=by rw [Int.natCast_emod,hxn,dn.1]
    have hqlt:x.nat / d'.nat<65536:=by
     rw [Nat.div_lt_iff_lt_mul (by omega)]
     omega
    have hqn:(I.quo x d').nat=x.nat / d'.nat:=by
     show (I.quo x d').val.toNat=_
     rw [hq,hq2,Int.toNat_natCast]
    have hrn:(I.rem x d').nat=x.nat%d'.nat:=by
     show (I.rem x d').val.toNat=_
     rw [hr,hr2,Int.toNat_natCast]
    have st:=g6H hI (by omega) (x:=x.nat) (by omega) (I.quo x d') hqn ⟨by rw [hq,hq2]; omega,by rw [hq,hq2]; omega⟩ (by omega)
    have hlen:=hI.len
    refine Wp.brnT (iff_inB.2 ⟨hge,by show i.val<((a'.length:Nat):Int); omega⟩) ?_
    refine Wp.brnT (iff_nz.2 h0) (Wp.brnT (iff_nz.2 h0) ?_)
    refine Wp.brnT (iff_inB.2 ⟨hge,by show i.val<((q.length:Nat):Int); omega⟩) ?_
    refine Wp.again ⟨rfl,rfl,?_,?_,?_,?_⟩ ?_
    ·
     show 0≤(I.rem (I.add (I.mul (I.of .i64 65536) left) (rd0 a' i.val.toNat)) d').val
     rw [hX,hr,hr2]; omega
    ·
     show -1≤(I.sub i (I.of .i64 1)).val; omega
    ·
     show (I.sub i (I.of .i64 1)).val<_; omega
    ·
     show ShInv a' d'.nat (I.nat (I.rem (I.add (I.mul (I.of .i64 65536) left) (rd0 a' i.val.toNat)) d')) ((I.sub i (I.of .i64 1)).val+1).toNat (setAt q (I.nat i) (I.quo (I.add (I.mul (I.of .i64 65536) left) (rd0 a' i.val.toNat)) d'))
     rw [hX,a7K,hrn,show ((I.sub i (I.of .i64 1)).val+1).toNat=i.val.toNat by omega]
     exact st
    ·
     show ((I.sub i (I.of .i64 1)).val+1).toNat<(i.val+1).toNat
     omega
   ·
    have h:=niff_leb.1 h
    simp only [c0] at h
    have e0:(i.val+1).toNat=0:=by omega
    rw [e0] at hI
    have heq:=hI.eq
    simp only [List.drop_zero] at heq
    rw [ha.val] at heq
    have hlen:=hI.len
    obtain ⟨qq,hq,hQ⟩:=e2K q hI.dig (by omega)
    have hdl:c2Z [left]:=by intro e he; simp only [List.mem_singleton] at he; subst he; exact ⟨by omega,by omega⟩
    obtain ⟨rr,hr,hR⟩:=e2K [left] hdl (by simp)
    refine Wp.done (Wp.optF hq (Wp.optF hr ⟨qq,rr,rfl,?_,?_⟩))
    ·
     refine ⟨hQ.dig,hQ.lead,?_⟩
     rw [hQ.val,heq,Nat.mul_comm,Nat.mul_add_div (by omega),Nat.div_eq_of_lt hlt,Nat.add_zero]
    ·
     refine ⟨hR.dig,hR.lead,?_⟩
     rw [hR.val,heq,Nat.mul_comm,Nat.mul_add_mod,Nat.mod_eq_of_lt hlt]
     simp [bv]
  ·
   refine ⟨rfl,rfl,by show 0≤(I.of .i64 0).val; decide,?_,?_,?_⟩
   ·
    show -1≤(I.sub (I.ofNat .i64 (a0K a)) (I.of .i64 1)).val
    rw [a8Q (by omega)]; omega
   ·
    show (I.sub (I.ofNat .i64 (a0K a)) (I.of .i64 1)).val<_
    rw [a8Q (by omega)]; omega
   ·
    show ShInv a d.nat (I.of .i64 0).nat ((I.sub (I.ofNat .i64 (a0K a)) (I.of .i64 1)).val+1).toNat (b9Q (I.nat (I.ofNat .i64 (a0K a))) (I.of .i64 0))
    rw [a8Q (by omega),hn,hol,c1,show ((a.length:Int)-1+1).toNat=a.length by omega]
    refine ⟨b3E _ _,c4B _,by show 0<d.nat; omega,?_⟩
    rw [List.drop_of_length_le (Nat.le_refl _),List.drop_of_length_le (by rw [b3E]; omega)]
    simp [bv]; rfl
  ·
   refine c0O _ ?_
   show ((I.sub (I.ofNat .i64 (a0K a)) (I.of .i64 1)).val+1).toNat<_
   rw [a8Q (by omega)]; omega
 exact key.out
end Sym

/- Natural numbers by digits of 65536: the long division. -/
namespace Sym
open Go
theorem half' (N i:Nat):N / 2^i=2*(N / 2^(i+1))+N / 2^i%2:=by
 rw [Nat.pow_succ,← Nat.div_div_eq_div_mul]
 omega
structure DivOut (a q r:List Dg) (n j:Nat):Prop where
 ql:q.length=a.length
 qd:c2Z q
 rd:c2Z r
 lt:bv r<n
 zero:∀ s,s<j→(rd0 q s).nat=0
 eq:bv (a.drop j)=bv (q.drop j)*n+bv r
structure DivMid (a q r:List Dg) (n i t:Nat):Prop where
 ql:q.length=a.length
 qd:c2Z q
 rd:c2Z r
 lt:bv r<n
 zero:∀ s,s<i→(rd0 q s).nat=0
 low:(rd0 q i).nat%2^t=0
 eq:bv (a.drop (i+1))*2^(16-t)+(rd0 a i).nat / 2^t=(bv (q.drop (i+1))*2^(16-t)+(rd0 q i).nat / 2^t)*n+bv r
theorem f7G {a q r:List Dg} {n i:Nat} (ha:c2Z a) (h:DivOut a q r n (i+1)):DivMid a q r n i 16:=by
 have hz:=h.zero i (by omega)
 have h1:=(b6M ha i).nat.2
 have p:2^16=65536:=by decide
 refine ⟨h.ql,h.qd,h.rd,h.lt,fun s hs=>h.zero s (by omega),by rw [hz,Nat.zero_mod],?_⟩
 rw [hz,p,Nat.div_eq_of_lt h1,h.eq]
 simp
theorem mid_end {a q r:List Dg} {n i:Nat} (h:DivMid a q r n i 0):DivOut a q r n i:=by
 refine ⟨h.ql,h.qd,h.rd,h.lt,h.zero,?_⟩
 have heq:=h.eq
 have p:2^(16-0)=65536:=by decide
 rw [p] at heq
 simp only [Nat.pow_zero,Nat.div_one] at heq
 rw [c1E a,c1E q,Nat.add_comm,Nat.mul_comm 65536,heq,Nat.add_comm (rd0 q i).nat,Nat.mul_comm 65536]
theorem g6V {x t:Nat} (h:x%2^(t+1)=0):x%2^t=0∧x / 2^t=2*(x / 2^(t+1)):=by
 have h1:=half' x t
 rw [Nat.pow_succ] at h
 have h4:=Nat.mod_mul (x:=x) (a:=2^t) (b:=2)
 rw [h] at h4
 have h5:0<2^t:=Nat.pow_pos (by decide)
 have h6:x / 2^t%2=0:=by
  rcases Nat.eq_zero_or_pos (x / 2^t%2) with h6 | h6
  ·
   exact h6
  ·
   have:2^t*1≤2^t*(x / 2^t%2):=Nat.mul_le_mul_left _ h6
   omega
 omega
theorem f0J {a q r r' q':List Dg} {n i t e:Nat} (h:DivMid a q r n i (t+1)) (ht:t<16) (hr:bv r'+e*n=2*bv r+(rd0 a i).nat / 2^t%2) (hrd:c2Z r') (hlt:bv r'<n)
  (ql:q'.length=a.length) (qd:c2Z q') (zero:∀ s,s<i→(rd0 q' s).nat=0) (qi:(rd0 q' i).nat=(rd0 q i).nat+e*2^t) (qdrop:q'.drop (i+1)=q.drop (i+1)):DivMid a q' r' n i t:=by
 have h1:=g6V h.low
 have hp:2^(16-t)=2*2^(16-(t+1)):=by
  have e:16-t=(16-(t+1))+1:=by omega
  rw [e,Nat.pow_succ,Nat.mul_comm]
 have ha:=half' (rd0 a i).nat t
 have hq:(rd0 q' i).nat / 2^t=2*((rd0 q i).nat / 2^(t+1))+e:=by
  rw [qi,Nat.add_mul_div_right _ _ (Nat.pow_pos (by decide)),h1.2]
 refine ⟨ql,qd,hrd,hlt,zero,by rw [qi,Nat.add_mul_mod_self_right]; exact h1.1,?_⟩
 have heq:=h.eq
 rw [qdrop,hp,hq,ha]
 have e1:bv (a.drop (i+1))*(2*2^(16-(t+1)))=2*(bv (a.drop (i+1))*2^(16-(t+1))):=Nat.mul_left_comm _ _ _
 have e2:bv (q.drop (i+1))*(2*2^(16-(t+1)))=2*(bv (q.drop (i+1))*2^(16-(t+1))):=Nat.mul_left_comm _ _ _
 rw [e1,e2]
 have e3:(2*(bv (q.drop (i+1))*2^(16-(t+1)))+(2*((rd0 q i).nat / 2^(t+1))+e))*n=2*((bv (q.drop (i+1))*2^(16-(t+1))+(rd0 q i).nat / 2^(t+1))*n)+e*n:=by
  rw [← Nat.add_assoc,← Nat.mul_add,Nat.add_mul,Nat.mul_assoc]
 rw [e3]
 omega
structure DblInv (r:List Dg) (b over k:Nat) (s:List Dg):Prop where
 len:s.length=r.length
 dig:c2Z s
 drop:s.drop k=r.drop k
 o1:over≤1
 eq:bv (s.take k)+65536^k*over=2*bv (r.take k)+b
theorem g1J {r s:List Dg} {b over k:Nat} (h:DblInv r b over k s) (hk:k<r.length) (d:Dg) (ov:Nat) (hd:DigOk d) (ho:ov≤1) (hs:d.nat+65536*ov=over+2*(rd0 s k).nat):DblInv r b ov (k+1) (s.set k d):=by
 have hrs:rd0 s k=rd0 r k:=by
  have e:=congrArg (fun l:List Dg=>l[0]?) h.drop
  simp only [List.getElem?_drop,Nat.add_zero] at e
  unfold rd0
  have hk2:k<s.length:=by rw [h.len]; exact hk
  rw [a3Y _ _ _ hk2,a3Y _ _ _ hk]
  rw [List.getElem?_eq_getElem hk2,List.getElem?_eq_getElem hk] at e
  exact Option.some.inj e
 refine ⟨by simpa using h.len,c4V h.dig _ hd,?_,ho,?_⟩
 ·
  rw [c5G]
  have e:=congrArg (fun l:List Dg=>l.drop 1) h.drop
  simpa [List.drop_drop] using e
 ·
  rw [c5H _ _ _ (by rw [h.len]; exact hk),c5Q,c7Z r k,← hrs]
  have el:(s.take k).length=k:=by simp [h.len]; omega
  rw [el,Nat.pow_succ]
  simp only [bv,Nat.mul_zero,Nat.add_zero]
  have heq:=h.eq
  have e:=congrArg (fun z=>65536^k*z) hs
  simp only [Nat.mul_add] at e
  rw [← Nat.mul_assoc] at e
  have e2:65536^k*(2*(rd0 s k).nat)=2*(65536^k*(rd0 s k).nat):=Nat.mul_left_comm _ _ _
  rw [e2] at e
  omega
theorem e8T {l:List Dg} {j:I .i64} (h0:0≤j.val) (h1:j.val≤(l.length:Int)):inB' j (a0K l)=true:=by
 show (decide (0≤j.val)&&decide (j.val≤((l.length:Nat):Int)))=true
 simp [h0,h1]
theorem e9H (l:List Dg) (j:I .i64):a3T l 0 (I.nat j)=l.take j.val.toNat:=by simp [a3T,I.nat]
theorem d4O {l:List Dg} {j:I .i64} (h0:0≤j.val) (h:j.val≤0) (hb:bv (l.take j.val.toNat)=bv l):IsB (a3T l 0 (I.nat j)) (bv l):=by
 rw [e9H]
 have e:j.val.toNat=0:=by omega
 rw [e] at hb ⊢
 simp only [List.take_zero] at hb ⊢
 rw [← hb]
 exact d6T
theorem e1J {l:List Dg} {j:I .i64} (hd:c2Z l) (h0:0<j.val) (h1:j.val≤(l.length:Int)) (hlen:l.length≤1073741824) (hb:bv (l.take j.val.toNat)=bv l) :
  (I.sub j (I.of .i64 1)).val=j.val-1∧inB (I.sub j (I.of .i64 1)) (a0K l)=true ∧
  (I.eqb (rdL (I.of .i64 0) l (I.nat (I.sub j (I.of .i64 1)))) (I.of .i64 0)=true→bv (l.take (I.sub j (I.of .i64 1)).val.toNat)=bv l) ∧
  (I.eqb (rdL (I.of .i64 0) l (I.nat (I.sub j (I.of .i64 1)))) (I.of .i64 0)=false→IsB (a3T l 0 (I.nat j)) (bv l)):=by
 have c1:(I.of .i64 1).val=1:=rfl
 have c0:(I.of .i64 0).val=0:=rfl
 have hs:(I.sub j (I.of .i64 1)).val=j.val-1:=by rw [a8Q (by omega)]; omega
 have hidx:(I.nat (I.sub j (I.of .i64 1)))=j.val.toNat-1:=by unfold I.nat; omega
 have hlt:j.val.toNat-1<l.length:=by omega
 have hrd:rdL (I.of .i64 0) l (I.nat (I.sub j (I.of .i64 1)))=l[j.val.toNat-1]:=by rw [hidx]; exact a3Y _ _ _ hlt
 have htk:l.take j.val.toNat=l.take (j.val.toNat-1)++[l[j.val.toNat-1]]:=by
  rw [List.take_append_getElem hlt]
  congr 1
  omega
 refine ⟨hs,iff_inB.2 ⟨by omega,by show (I.sub j (I.of .i64 1)).val<(l.length:Int); omega⟩,fun h2=>?_,fun h2=>?_⟩
 ·
  have h2:=iff_eqb.1 h2
  rw [hrd,c0] at h2
  have e:(I.sub j (I.of .i64 1)).val.toNat=j.val.toNat-1:=by omega
  rw [e,← hb,htk,c5Q]
  have hz:(l[j.val.toNat-1]).nat=0:=by unfold I.nat; rw [h2]; rfl
  simp [bv,hz]
 ·
  have h2:=niff_eqb.1 h2
  rw [hrd,c0] at h2
  rw [e9H]
  refine ⟨c4T hd _,?_,hb⟩
  rw [htk]
  exact c6M _ _ h2
theorem f4I {s d:List Dg} {k:Nat} (hk:k<s.length) (hb:bv (s.take k)=bv (d.take k)) (hs:c2Z s) (hd:c2Z d):bv ((s.set k (rd0 d k)).take (k+1))=bv (d.take (k+1))∧c2Z (s.set k (rd0 d k)):=by
 refine ⟨?_,c4V hs _ (b6M hd k)⟩
 rw [c5H _ _ _ hk,c5Q,c7Z d k,hb]
 have el:(s.take k).length=k:=by simp; omega
 rw [el]
 simp [bv]
theorem g8G (t:I .i64) (h0:0≤t.val) (h1:t.val≤15):(I.shl (I.of .i64 1) (I.conv .u64 t)).val=((2^t.val.toNat:Nat):Int):=by
 have hc:(I.conv .u64 t).val=t.val:=b8W ⟨by omega,by omega⟩
 have hm:min (I.conv .u64 t).val.toNat IntKind.i64.bits=t.val.toNat:=by
  have:IntKind.i64.bits=64:=rfl
  omega
 have h3:2^t.val.toNat≤2^15:=Nat.pow_le_pow_right (by decide) (by omega)
 have h4:((2^t.val.toNat:Nat):Int)=2^t.val.toNat:=by simp
 have h5:(I.of .i64 1).val=1:=rfl
 unfold I.shl
 rw [hm,h5,Int.one_mul,← h4]
 exact b6T ⟨Int.le_trans (by decide) (Int.natCast_nonneg _),Int.lt_of_le_of_lt (Int.ofNat_le.2 h3) (by decide)⟩
theorem g6R (x t:I .i64) (hx:0≤x.val) (h0:0≤t.val) (h1:t.val≤15):(I.and (I.shr x (I.conv .u64 t)) (I.of .i64 1)).val=((x.nat / 2^t.val.toNat%2:Nat):Int):=by
 have hxr:=b6K x
 have hc:(I.conv .u64 t).val=t.val:=b8W ⟨by omega,by omega⟩
 have hm:min (I.conv .u64 t).val.toNat IntKind.i64.bits=t.val.toNat:=by
  have:IntKind.i64.bits=64:=rfl
  omega
 have hxn:(x.nat:Int)=x.val:=by unfold I.nat; omega
 have h2:((x.nat / 2^t.val.toNat:Nat):Int)=x.val / (2:Int)^t.val.toNat:=by
  rw [Int.natCast_ediv,hxn]; simp
 have hle:=Nat.div_le_self x.nat (2^t.val.toNat)
 have hs:(I.shr x (I.conv .u64 t)).val=((x.nat / 2^t.val.toNat:Nat):Int):=by
  unfold I.shr
  rw [hm,d4C _ _ hx,← h2]
  exact b6T ⟨Int.le_trans (by decide) (Int.natCast_nonneg _),Int.lt_of_le_of_lt (Int.ofNat_le.2 hle) (by omega)⟩
 have h3:(BitVec.ofInt 64 (I.shr x (I.conv .u64 t)).val &&& BitVec.ofInt 64 1).toNat=x.nat / 2^t.val.toNat%2:=by
  rw [BitVec.toNat_and,hs]
  have e1:(BitVec.ofInt 64 1).toNat=2^1-1:=rfl
  rw [e1,Nat.and_two_pow_sub_one_eq_mod,BitVec.toNat_ofInt]
  omega
 have h4:(I.of .i64 1).val=1:=rfl
 unfold I.and
 rw [h4]
 show (I.of .i64 ((BitVec.ofInt 64 _ &&& BitVec.ofInt 64 1).toNat:Int)).val=_
 rw [h3]
 exact b6T ⟨by omega,by omega⟩
set_option maxHeartbeats 4000000 in
theorem c7V {a b:List Dg} {m n:Nat} (ha:IsB a m) (hb:IsB b n) (hn0:n≠0) (hal:a.length≤1000000) (hbl:b.length≤900000):∃ q r,a3R K0 ((a,b,()),())=some ((q,r,()),())∧IsB q (m / n)∧IsB r (m%n):=by
 have hol:(I.ofNat .i64 (a0K a)).val=a.length:=a2Z (by show a.length<_; omega)
 have hol2:(I.ofNat .i64 (a0K b)).val=b.length:=a2Z (by show b.length<_; omega)
 have hn:I.nat (I.ofNat .i64 (a0K a))=a.length:=by unfold I.nat; omega
 have c0:(I.of .i64 0).val=0:=rfl
 have c1:(I.of .i64 1).val=1:=rfl
 have c2:(I.of .i64 2).val=2:=rfl
 have hb1:(I.add (I.ofNat .i64 (a0K b)) (I.of .i64 1)).val=b.length+1:=by rw [a6A (by omega),hol2,c1]
 have hbn:I.nat (I.add (I.ofNat .i64 (a0K b)) (I.of .i64 1))=b.length+1:=by unfold I.nat; omega
 have hnlt:=hb.len.1 (Nat.le_refl b.length)
 have key:Wp (fun o=>∃ q r,o=some ((q,r,()),())∧IsB q (m / n)∧IsB r (m%n)) (a3R K0 ((a,b,()),())):=by
  unfold a3R
  refine Wp.brn (fun h=>?_) (fun h=>?_)
  ·
   have h:=iff_eqb.1 h
   have h:(I.ofNat .i64 (a0K b)).val=(I.of .i64 1).val:=h
   have hd1:b.length=1:=by omega
   obtain ⟨d,hd⟩:=List.length_eq_one_iff.1 hd1
   subst hd
   refine Wp.brnT (iff_inB.2 ⟨by show 0≤(I.of .i64 0).val; decide,by show (I.of .i64 0).val<(([d]:List Dg).length:Int); simp [c0]⟩) ?_
   have hdd:=(digs_cons.1 hb.dig).1
   have hdl:d.val≠0:=hb.lead
   have hdv:d.nat=n:=by have:=hb.val; simp only [bv] at this; omega
   obtain ⟨q,r,h1,h2,h3⟩:=g2V ha hal d hdd hdl
   rw [hdv] at h2 h3
   exact Wp.optF h1 ⟨q,r,rfl,h2,h3⟩
  clear h
  refine Wp.brnT ?_ (Wp.brnT ?_ (Wp.brnT ?_ (Wp.brnT ?_ ?_)))
  ·
   show (decide (0≤(I.ofNat .i64 (a0K a)).val)&&decide ((I.ofNat .i64 (a0K a)).val≤((I.nat (I.ofNat .i64 (a0K a)):Nat):Int)))=true
   rw [hn,hol]; simp
  ·
   show (decide (0≤(I.ofNat .i64 (a0K a)).val)&&decide ((I.ofNat .i64 (a0K a)).val≤((1073741824:Nat):Int)))=true
   rw [hol]; simp; omega
  ·
   show (decide (0≤(I.add (I.ofNat .i64 (a0K b)) (I.of .i64 1)).val)&&decide ((I.add (I.ofNat .i64 (a0K b)) (I.of .i64 1)).val≤((I.nat (I.add (I.ofNat .i64 (a0K b)) (I.of .i64 1)):Nat):Int)))=true
   rw [hbn,hb1]; simp; omega
  ·
   show (decide (0≤(I.add (I.ofNat .i64 (a0K b)) (I.of .i64 1)).val)&&decide ((I.add (I.ofNat .i64 (a0K b)) (I.of .i64 1)).val≤((1073741824:Nat):Int)))=true
   rw [hb1]; simp; omega
  refine Wp.iter (fun x=>x.1.1=a∧x.1.2.1=b∧-1≤x.1.2.2.1.val∧x.1.2.2.1.val<(a.length:Int)∧x.2.2.1.length=b.length+1∧DivOut a x.2.1 x.2.2.1 n (x.1.2.2.1.val+1).toNat) (fun x=>(x.1.2.2.1.val+1).toNat) ?_ ?_ ?_
  ·
   rintro ⟨⟨a',b',i,⟨⟩⟩,q0,r0,⟨⟩⟩ ⟨e1,e2,hi0,hi1,hrl,hI⟩
   simp only at e1 e2 hi0 hi1 hrl hI
   subst e1 e2
   have hal:a'.length≤1000000:=hal
   have hbl:b'.length≤900000:=hbl
   have hnlt:n<65536^b'.length:=hnlt
   have hi1:i.val<(a'.length:Int):=hi1
   have hrl:r0.length=b'.length+1:=hrl
   refine Wp.brn (fun h=>?_) (fun h=>?_)
   ·
    have hge:=iff_leb.1 h
    have hge:(I.of .i64 0).val≤i.val:=hge
    clear h
    have si:(I.sub i (I.of .i64 1)).val=i.val-1:=by rw [a8Q (by omega)]; omega
    have ei:(i.val+1).toNat=i.val.toNat+1:=by omega
    rw [ei] at hI
    have hmi:((I.sub i (I.of .i64 1)).val+1).toNat<(i.val+1).toNat:=by omega
    have da:=b6M ha.dig i.val.toNat
    have na:=da.nat
    have da0:=da.1
    refine Wp.iter (fun x=>x.1.1=a'∧x.1.2.1=b'∧x.1.2.2.1=i∧-1≤x.1.2.2.2.1.val∧x.1.2.2.2.1.val≤15∧x.2.2.1.length=b'.length+1∧DivMid a' x.2.1 x.2.2.1 n i.val.toNat (x.1.2.2.2.1.val+1).toNat) (fun x=>(x.1.2.2.2.1.val+1).toNat) ?_ ⟨rfl,rfl,rfl,by show -1≤(I.of .i64 15).val; decide,by show (I.of .i64 15).val≤15; decide,hrl,f7G ha.dig hI⟩ (c0O _ (by show ((I.of .i64 15).val+1).toNat<_; decide))
    rintro ⟨⟨a1,b1,i1,bit,⟨⟩⟩,q,r,⟨⟩⟩ ⟨e1,e2,e3,hb0,hb15,hrl,hM⟩
    simp only at e1 e2 e3 hb0 hb15 hrl hM
    subst e1 e2 e3
    have hal:a1.length≤1000000:=hal
    have hbl:b1.length≤900000:=hbl
    have hnlt:n<65536^b1.length:=hnlt
    have hi1:i1.val<(a1.length:Int):=hi1
    have hrl:r.length=b1.length+1:=hrl
    refine Wp.brn (fun h=>?_) (fun h=>?_)
    ·
     have hbg:=iff_leb.1 h
     have hbg:(I.of .i64 0).val≤bit.val:=hbg
     clear h
     have sb:(I.sub bit (I.of .i64 1)).val=bit.val-1:=by rw [a8Q (by omega)]; omega
     have eb:(bit.val+1).toNat=bit.val.toNat+1:=by omega
     rw [eb] at hM
     have hmb:((I.sub bit (I.of .i64 1)).val+1).toNat<(bit.val+1).toNat:=by omega
     have esb:((I.sub bit (I.of .i64 1)).val+1).toNat=bit.val.toNat:=by omega
     refine Wp.brnT (iff_inB.2 ⟨by show 0≤i1.val; omega,by show i1.val<((a1.length:Nat):Int); omega⟩) (Wp.brnT (c4P _) ?_)
     have hbv:=g6R (rd0 a1 i1.val.toNat) bit da0 (by omega) hb15
     generalize hbe:(rd0 a1 i1.val.toNat).nat / 2^bit.val.toNat%2=bv0 at hbv
     have hbv1:bv0≤1:=by omega
     have holr:(I.ofNat .i64 (a0K r)).val=r.length:=a2Z (by show r.length<_; omega)
     have hrlt:=hM.lt
     refine Wp.iter (fun x=>x.1.1=a1∧x.1.2.1=b1∧x.1.2.2.1=i1∧x.1.2.2.2.1=bit∧x.2.1=q∧0≤x.1.2.2.2.2.1.val∧0≤x.1.2.2.2.2.2.1.val∧x.1.2.2.2.2.2.1.val≤(r.length:Int)∧DblInv r bv0 (I.nat (k:=.i64) x.1.2.2.2.2.1) x.1.2.2.2.2.2.1.val.toNat x.2.2.1) (fun x=>((r.length:Int)-x.1.2.2.2.2.2.1.val).toNat) ?_ ?_ ?_
     ·
      rintro ⟨⟨a2,b2,i2,bit2,ov,k,⟨⟩⟩,q2,s,⟨⟩⟩ ⟨e1,e2,e3,e4,e5,ho0,hk0,hk1,hD⟩
      simp only at e1 e2 e3 e4 e5 ho0 hk0 hk1 hD
      subst e1 e2 e3 e4 e5
      have hal:a2.length≤1000000:=hal
      have hbl:b2.length≤900000:=hbl
      have hnlt:n<65536^b2.length:=hnlt
      have hi1:i2.val<(a2.length:Int):=hi1
      have hrl:r.length=b2.length+1:=hrl
      have hsl:s.length=r.length:=hD.len
      have hols:(I.ofNat .i64 (a0K s)).val=s.length:=a2Z (by show s.length<_; omega)
      refine Wp.brn (fun h=>?_) (fun h=>?_)
      ·
       have hkl:=iff_ltb.1 h
       have hkl:k.val<(I.ofNat .i64 (a0K s)).val:=hkl
       clear h
       have sk:(I.add k (I.of .i64 1)).val=k.val+1:=by rw [a6A (by omega)]; omega
       have bk:inB k (a0K s)=true:=iff_inB.2 ⟨hk0,by show k.val<((s.length:Nat):Int); omega⟩
       have ds:=b6M hD.dig k.val.toNat
       have ns:=ds.nat
       have ds0:=ds.1
       have o1:=hD.o1
       have ovn:(I.nat ov:Int)=ov.val:=by unfold I.nat; omega
       have hm1:(I.mul (I.of .i64 2) (rd0 s k.val.toNat)).val=2*(rd0 s k.val.toNat).val:=by rw [c3M (by rw [c2]; omega),c2]
       have hs1:(I.add ov (I.mul (I.of .i64 2) (rd0 s k.val.toNat))).val=ov.val+2*(rd0 s k.val.toNat).val:=by rw [a6A (by rw [hm1]; omega),hm1]
       generalize hX:I.add ov (I.mul (I.of .i64 2) (rd0 s k.val.toNat))=x at hs1
       have hsh:=d1W x (by omega)
       have han:=e8I x (by omega)
       have hdig:DigOk (I.and x (I.of .i64 65535)):=⟨by omega,by omega⟩
       have hshn:((I.shr x (I.of .u64 16)).nat:Int)=(I.shr x (I.of .u64 16)).val:=by unfold I.nat; omega
       have st:=g1J hD (by omega) (I.and x (I.of .i64 65535)) (I.shr x (I.of .u64 16)).nat hdig (by omega) (by have:=hdig.nat; omega)
       refine Wp.brnT bk (Wp.brnT bk ?_)
       refine Wp.again ⟨rfl,rfl,rfl,rfl,rfl,?_,?_,?_,?_⟩ ?_
       ·
        show 0≤(I.shr (I.add ov (I.mul (I.of .i64 2) (rd0 s k.val.toNat))) (I.of .u64 16)).val
        rw [hX]; omega
       ·
        show 0≤(I.add k (I.of .i64 1)).val; omega
       ·
        show (I.add k (I.of .i64 1)).val≤_; omega
       ·
        show DblInv r bv0 (I.nat (I.shr (I.add ov (I.mul (I.of .i64 2) (rd0 s k.val.toNat))) (I.of .u64 16))) (I.add k (I.of .i64 1)).val.toNat (setAt s (I.nat k) (I.and (I.add ov (I.mul (I.of .i64 2) (rd0 s k.val.toNat))) (I.of .i64 65535)))
        rw [hX,a7K,show (I.add k (I.of .i64 1)).val.toNat=k.val.toNat+1 by omega]
        exact st
       ·
        show ((r.length:Int)-(I.add k (I.of .i64 1)).val).toNat<((r.length:Int)-k.val).toNat
        omega
      ·
       have hkg:=niff_ltb.1 h
       have hkg:(I.ofNat .i64 (a0K s)).val≤k.val:=hkg
       clear h
       have hk:k.val.toNat=r.length:=by omega
       rw [hk] at hD
       have heq:=hD.eq
       rw [List.take_of_length_le (l:=s) (by omega),List.take_length,hrl,Nat.pow_succ] at heq
       have hR:bv s=2*bv r+bv0:=by
        rcases Nat.lt_or_ge (I.nat ov) 1 with h1 | h1
        ·
         have:I.nat ov=0:=by omega
         rw [this,Nat.mul_zero,Nat.add_zero] at heq; exact heq
        ·
         exfalso
         have:I.nat ov=1:=by have:=hD.o1; omega
         rw [this,Nat.mul_one] at heq
         omega
       have hsd:=hD.dig
       have hsl2:s.length≤1073741824:=by omega
       have hRb:bv s<65536^(b2.length+1):=by have:=e8E hsd; rw [hsl,hrl] at this; exact this
       refine Wp.done ?_
       refine Wp.iter (fun x=>x.1.2.1=a2∧x.1.2.2.1=b2∧x.1.2.2.2.1=i2∧x.1.2.2.2.2.1=bit2∧x.2.1=s∧x.2.2.1=q2∧0≤x.1.1.val∧x.1.1.val≤(s.length:Int)∧bv (s.take x.1.1.val.toNat)=bv s) (fun x=>x.1.1.val.toNat) ?_ ?_ ?_
       ·
        rintro ⟨⟨j,a3,b3,i3,bit3,⟨⟩⟩,s3,q3,⟨⟩⟩ ⟨k0,k1,k2,k3,k4,k5,hj0,hj1,hbt⟩
        simp only at k0 k1 k2 k3 k4 k5 hj0 hj1 hbt
        subst k0 k1 k2 k3 k4 k5
        refine Wp.brn (fun h=>?_) (fun h=>?_)
        have hjp:=iff_ltb.1 h
        have hjp:(I.of .i64 0).val<j.val:=hjp
        clear h
        obtain ⟨sj,bj,z1,z2⟩:=e1J (l:=s3) (j:=j) hsd hjp hj1 hsl2 hbt
        refine Wp.brnT bj (Wp.brn (fun h2=>?_) (fun h2=>?_))
        ·
         refine Wp.again ⟨rfl,rfl,rfl,rfl,rfl,rfl,?_,?_,z1 h2⟩ ?_
         ·
          show 0≤(I.sub j (I.of .i64 1)).val; omega
         ·
          show (I.sub j (I.of .i64 1)).val≤_; omega
         ·
          show (I.sub j (I.of .i64 1)).val.toNat<j.val.toNat
          omega
        have hB:=z2 h2
        clear z1 z2 h2 bj sj
        rotate_left
        have hjz:=niff_ltb.1 h
        have hjz:j.val≤(I.of .i64 0).val:=hjz
        clear h
        have hB:=d4O (l:=s3) (j:=j) hj0 (by omega) hbt
        all_goals
         refine Wp.done (Wp.brnT (e8T hj0 hj1) ?_)
         have hal:a3.length≤1000000:=hal
         have hbl:b3.length≤900000:=hbl
         have hnlt:n<65536^b3.length:=hnlt
         have hi1:i3.val<(a3.length:Int):=hi1
         have hrl:r.length=b3.length+1:=hrl
         have hsl:s3.length=r.length:=hsl
         have hcl:(a3T s3 0 (I.nat j)).length≤1000000:=by rw [e9H,List.length_take]; omega
         refine Wp.optF (c7T hB hb hcl (show b3.length≤1000000 by omega)) ?_
         by_cases hcmp:bv s3<n
         ·
          refine Wp.brnF (by show I.leb (I.of .i64 0) (c5W (bv s3) n)=false; unfold c5W; rw [if_pos hcmp]; rfl) ?_
          have st:=f0J (e:=0) (q':=q3) (r':=s3) hM (by omega) (by rw [hbe]; omega) hsd hcmp hM.ql hM.qd hM.zero (by omega) rfl
          refine Wp.again ⟨rfl,rfl,rfl,?_,?_,?_,?_⟩ hmb
          ·
           show -1≤(I.sub bit3 (I.of .i64 1)).val; omega
          ·
           show (I.sub bit3 (I.of .i64 1)).val≤15; omega
          ·
           show s3.length=_; omega
          ·
           show DivMid a3 q3 s3 n i3.val.toNat ((I.sub bit3 (I.of .i64 1)).val+1).toNat
           rw [esb]; exact st
         ·
          refine Wp.brnT (by show I.leb (I.of .i64 0) (c5W (bv s3) n)=true; unfold c5W; rw [if_neg hcmp]; split<;>rfl) ?_
          have hcge:n≤bv s3:=by omega
          clear hB hbt hj0 hj1 hcl
          refine Wp.iter (fun x=>x.1.2.1=a3∧x.1.2.2.1=b3∧x.1.2.2.2.1=i3∧x.1.2.2.2.2.1=bit3∧x.2.1=s3∧x.2.2.1=q3∧0≤x.1.1.val∧x.1.1.val≤(s3.length:Int)∧bv (s3.take x.1.1.val.toNat)=bv s3) (fun x=>x.1.1.val.toNat) ?_ ?_ ?_
          ·
           rintro ⟨⟨j,a3,b3,i3,bit3,⟨⟩⟩,s3,q3,⟨⟩⟩ ⟨k0,k1,k2,k3,k4,k5,hj0,hj1,hbt⟩
           simp only at k0 k1 k2 k3 k4 k5 hj0 hj1 hbt
           subst k0 k1 k2 k3 k4 k5
           refine Wp.brn (fun h=>?_) (fun h=>?_)
           have hjp:=iff_ltb.1 h
           have hjp:(I.of .i64 0).val<j.val:=hjp
           clear h
           obtain ⟨sj,bj,z1,z2⟩:=e1J (l:=s3) (j:=j) hsd hjp hj1 hsl2 hbt
           refine Wp.brnT bj (Wp.brn (fun h2=>?_) (fun h2=>?_))
           ·
            refine Wp.again ⟨rfl,rfl,rfl,rfl,rfl,rfl,?_,?_,z1 h2⟩ ?_
            ·
             show 0≤(I.sub j (I.of .i64 1)).val; omega
            ·
             show (I.sub j (I.of .i64 1)).val≤_; omega
            ·
             show (I.sub j (I.of .i64 1)).val.toNat<j.val.toNat
             omega
           have hB:=z2 h2
           clear z1 z2 h2 bj sj
           rotate_left
           have hjz:=niff_ltb.1 h
           have hjz:j.val≤(I.of .i64 0).val:=hjz
           clear h
           have hB:=d4O (l:=s3) (j:=j) hj0 (by omega) hbt
           all_goals
            refine Wp.done (Wp.brnT (e8T hj0 hj1) ?_)
            have hal:a3.length≤1000000:=hal
            have hbl:b3.length≤900000:=hbl
            have hnlt:n<65536^b3.length:=hnlt
            have hi1:i3.val<(a3.length:Int):=hi1
            have hrl:r.length=b3.length+1:=hrl
            have hsl:s3.length=r.length:=hsl
            have hcl:(a3T s3 0 (I.nat j)).length≤1000000:=by rw [e9H,List.length_take]; omega
            obtain ⟨d,hsub,hdB⟩:=d0K hB hb hcge hcl
            refine Wp.optF hsub ?_
            have hdlen:d.length≤b3.length+1:=hdB.len.2 (by omega)
            have hold:(I.ofNat .i64 (a0K d)).val=d.length:=a2Z (by show d.length<_; omega)
            refine Wp.iter (fun x=>x.1.1=a3∧x.1.2.1=b3∧x.1.2.2.1=i3∧x.1.2.2.2.1=bit3∧x.1.2.2.2.2.1=d∧x.2.1=q3∧x.2.2.1.length=b3.length+1∧c2Z x.2.2.1∧0≤x.1.2.2.2.2.2.1.val∧x.1.2.2.2.2.2.1.val≤(b3.length+1:Int)∧bv (x.2.2.1.take x.1.2.2.2.2.2.1.val.toNat)=bv (d.take x.1.2.2.2.2.2.1.val.toNat)) (fun x=>((b3.length+1:Int)-x.1.2.2.2.2.2.1.val).toNat) ?_ ?_ ?_
            ·
             rintro ⟨⟨a4,b4,i4,bit4,d4,k4,⟨⟩⟩,q4,r4,⟨⟩⟩ ⟨f1,f2,f3,f4,f5,f6,hl4,hd4,hk40,hk41,hbk⟩
             simp only at f1 f2 f3 f4 f5 f6 hl4 hd4 hk40 hk41 hbk
             subst f1 f2 f3 f4 f5 f6
             have hal:a4.length≤1000000:=hal
             have hbl:b4.length≤900000:=hbl
             have hi1:i4.val<(a4.length:Int):=hi1
             have hl4:r4.length=b4.length+1:=hl4
             have hdlen:d4.length≤b4.length+1:=hdlen
             have hold:(I.ofNat .i64 (a0K d4)).val=d4.length:=hold
             have hol4:(I.ofNat .i64 (a0K r4)).val=r4.length:=a2Z (by show r4.length<_; omega)
             refine Wp.brn (fun h=>?_) (fun h=>?_)
             ·
              have hkl:=iff_ltb.1 h
              have hkl:k4.val<(I.ofNat .i64 (a0K r4)).val:=hkl
              clear h
              have sk:(I.add k4 (I.of .i64 1)).val=k4.val+1:=by rw [a6A (by omega)]; omega
              have st:=f4I (s:=r4) (d:=d4) (k:=k4.val.toNat) (by omega) hbk hd4 hdB.dig
              have hm4:((b4.length+1:Int)-(I.add k4 (I.of .i64 1)).val).toNat<((b4.length+1:Int)-k4.val).toNat:=by omega
              refine Wp.brnT (iff_inB.2 ⟨hk40,by show k4.val<((r4.length:Nat):Int); omega⟩) ?_
              refine Wp.brn (fun h=>?_) (fun h=>?_)
              ·
               have hkd:=iff_ltb.1 h
               have hkd:k4.val<(I.ofNat .i64 (a0K d4)).val:=hkd
               clear h
               refine Wp.brnT (iff_inB.2 ⟨hk40,by show k4.val<((d4.length:Nat):Int); omega⟩) ?_
               refine Wp.brnT (iff_inB.2 ⟨hk40,by show k4.val<(((setAt r4 (I.nat k4) (I.of .i64 0)).length:Nat):Int); rw [a7K,List.length_set]; omega⟩) ?_
               have e:setAt (setAt r4 (I.nat k4) (I.of .i64 0)) (I.nat k4) (rd0 d4 k4.val.toNat)=r4.set k4.val.toNat (rd0 d4 k4.val.toNat):=by
                rw [a7K,a7K]
                show (r4.set k4.val.toNat _).set k4.val.toNat _=_
                rw [List.set_set]
               refine Wp.again ⟨rfl,rfl,rfl,rfl,rfl,rfl,?_,?_,?_,?_,?_⟩ hm4
               ·
                show (setAt (setAt r4 (I.nat k4) (I.of .i64 0)) (I.nat k4) (rd0 d4 k4.val.toNat)).length=_
                rw [e,List.length_set]; exact hl4
               ·
                show c2Z (setAt (setAt r4 (I.nat k4) (I.of .i64 0)) (I.nat k4) (rd0 d4 k4.val.toNat))
                rw [e]; exact st.2
               ·
                show 0≤(I.add k4 (I.of .i64 1)).val; omega
               ·
                show (I.add k4 (I.of .i64 1)).val≤_; omega
               ·
                show bv ((setAt (setAt r4 (I.nat k4) (I.of .i64 0)) (I.nat k4) (rd0 d4 k4.val.toNat)).take (I.add k4 (I.of .i64 1)).val.toNat)=bv (d4.take (I.add k4 (I.of .i64 1)).val.toNat)
                rw [e,show (I.add k4 (I.of .i64 1)).val.toNat=k4.val.toNat+1 by omega]
                exact st.1
              ·
               have hkd:=niff_ltb.1 h
               have hkd:(I.ofNat .i64 (a0K d4)).val≤k4.val:=hkd
               clear h
               have hz:rd0 d4 k4.val.toNat=I.of .i64 0:=c7U _ _ _ (by omega)
               rw [hz] at st
               have e:setAt r4 (I.nat k4) (I.of .i64 0)=r4.set k4.val.toNat (I.of .i64 0):=a7K _ _ _
               refine Wp.again ⟨rfl,rfl,rfl,rfl,rfl,rfl,?_,?_,?_,?_,?_⟩ hm4
               ·
                show (setAt r4 (I.nat k4) (I.of .i64 0)).length=_
                rw [e,List.length_set]; exact hl4
               ·
                show c2Z (setAt r4 (I.nat k4) (I.of .i64 0))
                rw [e]; exact st.2
               ·
                show 0≤(I.add k4 (I.of .i64 1)).val; omega
               ·
                show (I.add k4 (I.of .i64 1)).val≤_; omega
               ·
                show bv ((setAt r4 (I.nat k4) (I.of .i64 0)).take (I.add k4 (I.of .i64 1)).val.toNat)=bv (d4.take (I.add k4 (I.of .i64 1)).val.toNat)
                rw [e,show (I.add k4 (I.of .i64 1)).val.toNat=k4.val.toNat+1 by omega]
                exact st.1
             ·
              have hkg:=niff_ltb.1 h
              have hkg:(I.ofNat .i64 (a0K r4)).val≤k4.val:=hkg
              clear h
              have hk:k4.val.toNat=b4.length+1:=by omega
              rw [hk,List.take_of_length_le (by omega),List.take_of_length_le hdlen,hdB.val] at hbk
              have hqi:=(b6M hM.qd i4.val.toNat)
              have hqn:=hqi.nat
              have hq0:=hqi.1
              have hlow:=hM.low
              have hqlen:=hM.ql
              have hsb:=g8G bit4 (by omega) hb15
              have hpw:2^bit4.val.toNat≤2^15:=Nat.pow_le_pow_right (by decide) (by omega)
              have hqb:(rd0 q4 i4.val.toNat).nat+2^bit4.val.toNat<65536:=by
               have e1:65536=2^(bit4.val.toNat+1)*2^(15-bit4.val.toNat):=by rw [← Nat.pow_add,show bit4.val.toNat+1+(15-bit4.val.toNat)=16 by omega]
               have e2:=Nat.div_add_mod (rd0 q4 i4.val.toNat).nat (2^(bit4.val.toNat+1))
               rw [hlow,Nat.add_zero] at e2
               have e3:(rd0 q4 i4.val.toNat).nat / 2^(bit4.val.toNat+1)+1≤2^(15-bit4.val.toNat):=by
                rcases Nat.lt_or_ge ((rd0 q4 i4.val.toNat).nat / 2^(bit4.val.toNat+1)) (2^(15-bit4.val.toNat)) with h1 | h1
                ·
                 exact h1
                ·
                 exfalso
                 have:=Nat.mul_le_mul_left (2^(bit4.val.toNat+1)) h1
                 omega
               have e4:=Nat.mul_le_mul_left (2^(bit4.val.toNat+1)) e3
               rw [Nat.mul_add,Nat.mul_one,← e1,e2,Nat.pow_succ] at e4
               have:0<2^bit4.val.toNat:=Nat.pow_pos (by decide)
               omega
              have hv:(I.add (rd0 q4 i4.val.toNat) (I.shl (I.of .i64 1) (I.conv .u64 bit4))).val=(rd0 q4 i4.val.toNat).val+((2^bit4.val.toNat:Nat):Int):=by rw [a6A (by rw [hsb]; omega),hsb]
              generalize hV:I.add (rd0 q4 i4.val.toNat) (I.shl (I.of .i64 1) (I.conv .u64 bit4))=v at hv
              have hvn:v.nat=(rd0 q4 i4.val.toNat).nat+2^bit4.val.toNat:=by unfold I.nat at hqn ⊢; omega
              have hvd:DigOk v:=⟨by omega,by omega⟩
              have bi:inB i4 (a0K q4)=true:=iff_inB.2 ⟨by omega,by show i4.val<((q4.length:Nat):Int); omega⟩
              have st:=f0J (e:=1) (q':=q4.set i4.val.toNat v) (r':=r4) hM (by omega) (by rw [hbk,hbe]; omega) hd4 (by omega) (by simpa using hqlen) (c4V hM.qd _ hvd) (fun t ht=>by rw [d2T _ _ _ _ (by omega)]; exact hM.zero t ht) (by rw [e0B _ _ _ (by omega),hvn,Nat.one_mul]) (c5G _ _ _)
              refine Wp.done (Wp.brnT bi (Wp.brnT (c4P _) (Wp.brnT bi ?_)))
              refine Wp.again ⟨rfl,rfl,rfl,?_,?_,hl4,?_⟩ hmb
              ·
               show -1≤(I.sub bit4 (I.of .i64 1)).val; omega
              ·
               show (I.sub bit4 (I.of .i64 1)).val≤15; omega
              ·
               show DivMid a4 (setAt q4 (I.nat i4) (I.add (rd0 q4 i4.val.toNat) (I.shl (I.of .i64 1) (I.conv .u64 bit4)))) r4 n i4.val.toNat ((I.sub bit4 (I.of .i64 1)).val+1).toNat
               rw [hV,a7K,esb]
               exact st
            ·
             exact ⟨rfl,rfl,rfl,rfl,rfl,rfl,by show s3.length=_; omega,hsd,by show 0≤(I.of .i64 0).val; decide,by show (I.of .i64 0).val≤_; omega,rfl⟩
            ·
             exact c0O _ (by show ((b3.length+1:Int)-(I.of .i64 0).val).toNat<_; omega)
          ·
           refine ⟨rfl,rfl,rfl,rfl,rfl,rfl,?_,?_,?_⟩
           ·
            show 0≤(I.ofNat .i64 (a0K s3)).val; omega
           ·
            show (I.ofNat .i64 (a0K s3)).val≤_; omega
           ·
            show bv (s3.take (I.ofNat .i64 (a0K s3)).val.toNat)=_
            rw [hols,Int.toNat_natCast,List.take_length]
          ·
           refine c0O _ ?_
           show (I.ofNat .i64 (a0K s3)).val.toNat<_
           omega
       ·
        refine ⟨rfl,rfl,rfl,rfl,rfl,rfl,?_,?_,?_⟩
        ·
         show 0≤(I.ofNat .i64 (a0K s)).val; omega
        ·
         show (I.ofNat .i64 (a0K s)).val≤_; omega
        ·
         show bv (s.take (I.ofNat .i64 (a0K s)).val.toNat)=_
         rw [hols,Int.toNat_natCast,List.take_length]
       ·
        refine c0O _ ?_
        show (I.ofNat .i64 (a0K s)).val.toNat<_
        omega
     ·
      refine ⟨rfl,rfl,rfl,rfl,rfl,?_,by show 0≤(I.of .i64 0).val; decide,by show (I.of .i64 0).val≤(r.length:Int); omega,?_⟩
      ·
       show 0≤(I.and (I.shr (rd0 a1 i1.val.toNat) (I.conv .u64 bit)) (I.of .i64 1)).val
       rw [hbv]; omega
      ·
       show DblInv r bv0 (I.nat (I.and (I.shr (rd0 a1 i1.val.toNat) (I.conv .u64 bit)) (I.of .i64 1))) (I.of .i64 0).val.toNat r
       have e:I.nat (I.and (I.shr (rd0 a1 i1.val.toNat) (I.conv .u64 bit)) (I.of .i64 1))=bv0:=by
        show (I.and (I.shr (rd0 a1 i1.val.toNat) (I.conv .u64 bit)) (I.of .i64 1)).val.toNat=_
        rw [hbv,Int.toNat_natCast]
       rw [e]
       refine ⟨rfl,hM.rd,rfl,hbv1,?_⟩
       have e0:(I.of .i64 0).val.toNat=0:=rfl
       rw [e0]
       simp [bv]
     ·
      exact c0O _ (by show ((r.length:Int)-(I.of .i64 0).val).toNat<_; omega)
    ·
     have hbz:=niff_leb.1 h
     have hbz:bit.val<(I.of .i64 0).val:=hbz
     clear h
     have e0:(bit.val+1).toNat=0:=by omega
     rw [e0] at hM
     refine Wp.done (Wp.again ⟨rfl,rfl,?_,?_,hrl,?_⟩ hmi)
     ·
      show -1≤(I.sub i1 (I.of .i64 1)).val; omega
     ·
      show (I.sub i1 (I.of .i64 1)).val<_; omega
     ·
      show DivOut a1 q r n ((I.sub i1 (I.of .i64 1)).val+1).toNat
      rw [show ((I.sub i1 (I.of .i64 1)).val+1).toNat=i1.val.toNat by omega]
      exact mid_end hM
   ·
    have hz:=niff_leb.1 h
    have hz:i.val<(I.of .i64 0).val:=hz
    clear h
    have e0:(i.val+1).toNat=0:=by omega
    rw [e0] at hI
    have heq:=hI.eq
    have hlt:=hI.lt
    have hqd:=hI.qd
    have hrd:=hI.rd
    have hql:=hI.ql
    simp only [List.drop_zero] at heq
    rw [ha.val] at heq
    have hQ:bv q0=m / n:=by rw [heq,Nat.mul_comm,Nat.mul_add_div (by omega),Nat.div_eq_of_lt hlt,Nat.add_zero]
    have hR:bv r0=m%n:=by rw [heq,Nat.mul_comm,Nat.mul_add_mod,Nat.mod_eq_of_lt hlt]
    have holq:(I.ofNat .i64 (a0K q0)).val=q0.length:=a2Z (by show q0.length<_; omega)
    have holr0:(I.ofNat .i64 (a0K r0)).val=r0.length:=a2Z (by show r0.length<_; omega)
    have hq2:q0.length≤1073741824:=by omega
    have hr2:r0.length≤1073741824:=by omega
    clear heq hI hrl hlt
    refine Wp.done ?_
    refine Wp.iter (fun x=>x.2.1=q0∧x.2.2.1=r0∧0≤x.1.1.val∧x.1.1.val≤(q0.length:Int)∧bv (q0.take x.1.1.val.toNat)=bv q0) (fun x=>x.1.1.val.toNat) ?_ ?_ ?_
    ·
     rintro ⟨⟨j,⟨⟩⟩,q1,r1,⟨⟩⟩ ⟨k0,k1,hj0,hj1,hbt⟩
     simp only at k0 k1 hj0 hj1 hbt
     subst k0 k1
     refine Wp.brn (fun h=>?_) (fun h=>?_)
     have hjp:=iff_ltb.1 h
     have hjp:(I.of .i64 0).val<j.val:=hjp
     clear h
     obtain ⟨sj,bj,z1,z2⟩:=e1J (l:=q1) (j:=j) hqd hjp hj1 hq2 hbt
     refine Wp.brnT bj (Wp.brn (fun h2=>?_) (fun h2=>?_))
     ·
      refine Wp.again ⟨rfl,rfl,?_,?_,z1 h2⟩ ?_
      ·
       show 0≤(I.sub j (I.of .i64 1)).val; omega
      ·
       show (I.sub j (I.of .i64 1)).val≤_; omega
      ·
       show (I.sub j (I.of .i64 1)).val.toNat<j.val.toNat
       omega
     have hB:=z2 h2
     clear z1 z2 h2 bj sj
     rotate_left
     have hjz:=niff_ltb.1 h
     have hjz:j.val≤(I.of .i64 0).val:=hjz
     clear h
     have hB:=d4O (l:=q1) (j:=j) hj0 (by omega) hbt
     all_goals
      refine Wp.done (Wp.brnT (e8T hj0 hj1) ?_)
      have hQB:=hB
      clear hB
      generalize a3T q1 0 (I.nat j)=ql2 at hQB
      clear hbt hj0 hj1
      refine Wp.iter (fun x=>x.1.2.1=ql2∧x.2.1=r1∧0≤x.1.1.val∧x.1.1.val≤(r1.length:Int)∧bv (r1.take x.1.1.val.toNat)=bv r1) (fun x=>x.1.1.val.toNat) ?_ ?_ ?_
      ·
       rintro ⟨⟨j,ql2,⟨⟩⟩,r1,⟨⟩⟩ ⟨k0,k1,hj0,hj1,hbt⟩
       simp only at k0 k1 hj0 hj1 hbt
       subst k0 k1
       refine Wp.brn (fun h=>?_) (fun h=>?_)
       have hjp:=iff_ltb.1 h
       have hjp:(I.of .i64 0).val<j.val:=hjp
       clear h
       obtain ⟨sj,bj,z1,z2⟩:=e1J (l:=r1) (j:=j) hrd hjp hj1 hr2 hbt
       refine Wp.brnT bj (Wp.brn (fun h2=>?_) (fun h2=>?_))
       ·
        refine Wp.again ⟨rfl,rfl,?_,?_,z1 h2⟩ ?_
        ·
         show 0≤(I.sub j (I.of .i64 1)).val; omega
        ·
         show (I.sub j (I.of .i64 1)).val≤_; omega
        ·
         show (I.sub j (I.of .i64 1)).val.toNat<j.val.toNat
         omega
       have hB:=z2 h2
       clear z1 z2 h2 bj sj
       rotate_left
       have hjz:=niff_ltb.1 h
       have hjz:j.val≤(I.of .i64 0).val:=hjz
       clear h
       have hB:=d4O (l:=r1) (j:=j) hj0 (by omega) hbt
       all_goals
        refine Wp.done (Wp.brnT (e8T hj0 hj1) ?_)
        refine ⟨_,_,rfl,?_,?_⟩
        ·
         show IsB ql2 (m / n)
         rw [← hQ]; exact hQB
        ·
         show IsB (a3T r1 0 (I.nat j)) (m%n)
         rw [← hR]; exact hB
      ·
       refine ⟨rfl,rfl,?_,?_,?_⟩
       ·
        show 0≤(I.ofNat .i64 (a0K r1)).val; omega
       ·
        show (I.ofNat .i64 (a0K r1)).val≤_; omega
       ·
        show bv (r1.take (I.ofNat .i64 (a0K r1)).val.toNat)=_
        rw [holr0,Int.toNat_natCast,List.take_length]
      ·
       refine c0O _ ?_
       show (I.ofNat .i64 (a0K r1)).val.toNat<_
       omega
    ·
     refine ⟨rfl,rfl,?_,?_,?_⟩
     ·
      show 0≤(I.ofNat .i64 (a0K q0)).val; omega
     ·
      show (I.ofNat .i64 (a0K q0)).val≤_; omega
     ·
      show bv (q0.take (I.ofNat .i64 (a0K q0)).val.toNat)=_
      rw [holq,Int.toNat_natCast,List.take_length]
    ·
     refine c0O _ ?_
     show (I.ofNat .i64 (a0K q0)).val.toNat<_
     omega
  ·
   have hsub1:(I.sub (I.ofNat .i64 (a0K a)) (I.of .i64 1)).val=a.length-1:=by rw [a8Q (by omega)]; omega
   refine ⟨rfl,rfl,?_,?_,?_,?_⟩
   ·
    show -1≤(I.sub (I.ofNat .i64 (a0K a)) (I.of .i64 1)).val; omega
   ·
    show (I.sub (I.ofNat .i64 (a0K a)) (I.of .i64 1)).val<_; omega
   ·
    show (b9Q (I.nat (I.add (I.ofNat .i64 (a0K b)) (I.of .i64 1))) (I.of .i64 0)).length=_
    rw [b3E,hbn]
   ·
    show DivOut a (b9Q (I.nat (I.ofNat .i64 (a0K a))) (I.of .i64 0)) (b9Q (I.nat (I.add (I.ofNat .i64 (a0K b)) (I.of .i64 1))) (I.of .i64 0)) n ((I.sub (I.ofNat .i64 (a0K a)) (I.of .i64 1)).val+1).toNat
    rw [hsub1,hn,show ((a.length:Int)-1+1).toNat=a.length by omega]
    refine ⟨b3E _ _,c4B _,c4B _,by rw [e0R]; omega,fun s _=>e2O _ _,?_⟩
    rw [List.drop_of_length_le (Nat.le_refl _),List.drop_of_length_le (by rw [b3E]; omega),e0R]
    simp [bv]
  ·
   have hsub1:(I.sub (I.ofNat .i64 (a0K a)) (I.of .i64 1)).val=a.length-1:=by rw [a8Q (by omega)]; omega
   exact c0O _ (by show ((I.sub (I.ofNat .i64 (a0K a)) (I.of .i64 1)).val+1).toNat<_; omega)
 exact key.out
end Sym

/- Signed numbers: the law of quotients. -/
namespace Sym
open Go
theorem e7S {s:SB} {z:Int} {l:List Dg} {d:Nat} (hs:IsSB s z) (hl:IsB l d) (hd:d≠0) (hz:Bd z.natAbs) (hdl:l.length≤900000):∃ r:SB,a5E K0 ((s,l,()),())=some ((r,()),())∧IsSB r (z / (d:Int)):=by
 have key:Wp (fun o=>∃ r:SB,o=some ((r,()),())∧IsSB r (z / (d:Int))) (a5E K0 ((s,l,()),())):=by
  unfold a5E
  obtain ⟨q,r,hqr,hQ,hR⟩:∃ (q r:List Dg),a3R K0 ((s.2.1,l,()),())=some ((q,r,()),())∧IsB q (z.natAbs / d)∧IsB r (z.natAbs%d):=c7V hs.abs hl hd (Bd.len hs.abs hz) hdl
  have hqb:Bd (z.natAbs / d):=Nat.lt_of_le_of_lt (Nat.div_le_self _ _) hz
  have hqb1:z.natAbs / d+1<65536^65:=by
   have h1:z.natAbs / d<65536^64:=hqb
   have h2:65536^64<65536^65:=by decide
   omega
  have hrb:Bd (z.natAbs%d):=Nat.lt_of_le_of_lt (Nat.mod_le _ _) hz
  have hql:=Bd.len hQ hqb
  have hrl:=Bd.len hR hrb
  have hol:(I.ofNat .i64 (a0K r)).val=r.length:=a2Z (by show r.length<_; omega)
  have c0:(I.of .i64 0).val=0:=rfl
  have hrp:=f8L hR
  have hbit:I.ltb (I.of .i64 0) (I.ofNat .i64 (a0K r))=decide (z.natAbs%d≠0):=by
   unfold I.ltb
   rw [c0,hol]
   have:((0:Int)<(r.length:Int))↔z.natAbs%d≠0:=by omega
   simp only [this]
  refine Wp.optF hqr ?_
  refine Wp.jn (fun x=>x.1.1=q∧x.1.2.1=(s.1&&decide (z.natAbs%d≠0))∧x.2.1.1=s.1) ?_ ?_
  ·
   rintro ⟨⟨q',b,⟨⟩⟩,⟨n,l',⟨⟩⟩,r',⟨⟩⟩ ⟨e1,e2,e3⟩
   simp only at e1 e2 e3
   subst e1 e2
   have hneg:=hs.neg
   by_cases hz0:z<0
   ·
    have hn:n=true:=by rw [e3,hneg]; exact decide_eq_true hz0
    have hdiv:z / (d:Int)=if z.natAbs%d=0 then -((z.natAbs / d:Nat):Int) else -((z.natAbs / d+1:Nat):Int):=by
     have h1:=g5F z.natAbs d (by omega)
     have h2:-(z.natAbs:Int)=z:=by omega
     rw [h2] at h1
     exact h1
    by_cases hm:z.natAbs%d=0
    ·
     rw [if_pos hm] at hdiv
     refine Wp.brnF (by show (s.1&&decide (z.natAbs%d≠0))=false; simp [hm]) ?_
     obtain ⟨t,ht,hT⟩:=b9J n hQ hql
     refine Wp.optF ht ⟨t,rfl,?_⟩
     rw [hdiv]
     subst hn
     exact hT
    ·
     rw [if_neg hm] at hdiv
     refine Wp.brnT (by show (s.1&&decide (z.natAbs%d≠0))=true; rw [hneg,decide_eq_true hz0]; simp [hm]) ?_
     obtain ⟨o,ho,hO⟩:=a1N (I.of .u64 1)
     refine Wp.optF ho ?_
     have h1:(I.of .u64 1).nat=1:=rfl
     rw [h1] at hO
     obtain ⟨q2,hq2,hQ2⟩:=b3H hQ hO hql (Bd.len hO (by unfold Bd; decide))
     refine Wp.optF hq2 ?_
     obtain ⟨t,ht,hT⟩:=b9J n hQ2 (len_small' hQ2 65 hqb1 (by decide))
     refine Wp.optF ht ⟨t,rfl,?_⟩
     rw [hdiv]
     subst hn
     exact hT
   ·
    have hn:n=false:=by rw [e3,hneg]; exact decide_eq_false hz0
    refine Wp.brnF (by show (s.1&&decide (z.natAbs%d≠0))=false; rw [hneg,decide_eq_false hz0]; rfl) ?_
    obtain ⟨t,ht,hT⟩:=b9J n hQ hql
    refine Wp.optF ht ⟨t,rfl,?_⟩
    have h2:z / (d:Int)=((z.natAbs / d:Nat):Int):=by
     rw [Int.natCast_ediv]
     congr 1
     omega
    rw [h2]
    subst hn
    exact hT
  ·
   intro j hj
   cases hs1:s.1 with
   | false=>exact Wp.brnF rfl (hj _ ⟨rfl,by rw [hs1]; rfl,rfl⟩)
   | true=>exact Wp.brnT rfl (hj _ ⟨rfl,by rw [hs1]; exact hbit,rfl⟩)
 exact key.out
end Sym
