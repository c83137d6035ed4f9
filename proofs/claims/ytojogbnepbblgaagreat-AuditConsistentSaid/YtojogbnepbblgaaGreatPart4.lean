/- The given functions as plain functions, as the printer told them. -/
import Derived.Test.YtojogbnepbblgaaGreatProg
import Derived.Test.YtojogbnepbblgaaGreatPart3
namespace Sym
open Go
noncomputable section
def d6L:List (I .u8):=f2M [0]
def f5S:List (I .u8):=f2M [1]
def f1X:List (I .u8):=f2M [128]
abbrev a0E:Type:=(I .u64) × (U × ((I .u64) × Unit))
noncomputable abbrev a1G:a0E:=((I.of .u64 0),(Z_U,((I.of .u64 0),())))
abbrev a0B:Type:=(I .u64) × a0D
noncomputable abbrev a0O:a0B:=((I.of .u64 0),a1D)
abbrev a7N:Type:=(I .u64) × a0B
noncomputable abbrev a4A:a7N:=((I.of .u64 0),a0O)
abbrev b5X:Type:=(I .u32) × ((I .u32) × ((I .u32) × ((I .u32) × ((I .u32) × ((I .u32) × ((I .u32) × ((I .u32) × Unit)))))))
noncomputable abbrev c7N:b5X:=((I.of .u32 0),((I.of .u32 0),((I.of .u32 0),((I.of .u32 0),((I.of .u32 0),((I.of .u32 0),((I.of .u32 0),((I.of .u32 0),()))))))))
abbrev c0Q:Type:=U × (U × (U × (U × Unit)))
noncomputable abbrev c3E:c0Q:=(Z_U,(Z_U,(Z_U,(Z_U,()))))
abbrev a7Y:Type:=(I .u64) × ((I .u64) × ((I .u64) × (U × ((I .u64) × (U × (U × ((I .u64) × ((List (I .u8)) × Unit))))))))
abbrev a3D:Type:=(List a0E) × (c0Q × Unit)
abbrev a9F:Type:=(I .u64) × ((I .u64) × ((I .u64) × ((I .u64) × (Bool × (U × c0Q)))))
noncomputable abbrev a2F:a9F:=((I.of .u64 0),((I.of .u64 0),((I.of .u64 0),((I.of .u64 0),(false,(Z_U,c3E))))))
abbrev a0G:Type:=(I .u8) × ((I .u8) × ((I .u8) × ((I .u8) × ((I .u8) × ((I .u8) × ((I .u8) × ((I .u8) × ((I .u8) × ((I .u8) × ((I .u8) × ((I .u8) × ((I .u8) × ((I .u8) × ((I .u8) × ((I .u8) × ((I .u8) × ((I .u8) × ((I .u8) × ((I .u8) × ((I .u8) × ((I .u8) × ((I .u8) × ((I .u8) × ((I .u8) × ((I .u8) × ((I .u8) × ((I .u8) × ((I .u8) × ((I .u8) × ((I .u8) × ((I .u8) × Unit)))))))))))))))))))))))))))))))
noncomputable abbrev a2J:a0G:=((I.of .u8 0),((I.of .u8 0),((I.of .u8 0),((I.of .u8 0),((I.of .u8 0),((I.of .u8 0),((I.of .u8 0),((I.of .u8 0),((I.of .u8 0),((I.of .u8 0),((I.of .u8 0),((I.of .u8 0),((I.of .u8 0),((I.of .u8 0),((I.of .u8 0),((I.of .u8 0),((I.of .u8 0),((I.of .u8 0),((I.of .u8 0),((I.of .u8 0),((I.of .u8 0),((I.of .u8 0),((I.of .u8 0),((I.of .u8 0),((I.of .u8 0),((I.of .u8 0),((I.of .u8 0),((I.of .u8 0),((I.of .u8 0),((I.of .u8 0),((I.of .u8 0),((I.of .u8 0),()))))))))))))))))))))))))))))))))
abbrev b4S:Type:=U × (U × (U × (U × c0Q)))
noncomputable abbrev a2Z:b4S:=(Z_U,(Z_U,(Z_U,(Z_U,c3E))))
abbrev b6C:Type:=(I .u64) × ((I .u64) × ((I .u64) × (U × ((List a0G) × Unit))))
abbrev a7A:Type:=U × ((List a0G) × ((List (I .u64)) × ((List a0D) × Unit)))
abbrev a1Z:Type:=(I .i64) × ((I .i64) × (a9F × (U × (U × ((I .u64) × (U × (U × ((List a0B) × Unit))))))))
abbrev c4T:Type:=(I .u32) × ((I .u32) × ((I .u32) × ((I .u32) × ((I .u32) × ((I .u32) × ((I .u32) × ((I .u32) × ((I .u32) × ((I .u32) × ((I .u32) × ((I .u32) × ((I .u32) × ((I .u32) × ((I .u32) × ((I .u32) × ((I .u32) × ((I .u32) × ((I .u32) × ((I .u32) × ((I .u32) × ((I .u32) × ((I .u32) × ((I .u32) × ((I .u32) × ((I .u32) × ((I .u32) × ((I .u32) × ((I .u32) × ((I .u32) × ((I .u32) × ((I .u32) × ((I .u32) × ((I .u32) × ((I .u32) × ((I .u32) × ((I .u32) × ((I .u32) × ((I .u32) × ((I .u32) × ((I .u32) × ((I .u32) × ((I .u32) × ((I .u32) × ((I .u32) × ((I .u32) × ((I .u32) × ((I .u32) × ((I .u32) × ((I .u32) × ((I .u32) × ((I .u32) × ((I .u32) × ((I .u32) × ((I .u32) × ((I .u32) × b5X)))))))))))))))))))))))))))))))))))))))))))))))))))))))
noncomputable abbrev d3T:c4T:=((I.of .u32 0),((I.of .u32 0),((I.of .u32 0),((I.of .u32 0),((I.of .u32 0),((I.of .u32 0),((I.of .u32 0),((I.of .u32 0),((I.of .u32 0),((I.of .u32 0),((I.of .u32 0),((I.of .u32 0),((I.of .u32 0),((I.of .u32 0),((I.of .u32 0),((I.of .u32 0),((I.of .u32 0),((I.of .u32 0),((I.of .u32 0),((I.of .u32 0),((I.of .u32 0),((I.of .u32 0),((I.of .u32 0),((I.of .u32 0),((I.of .u32 0),((I.of .u32 0),((I.of .u32 0),((I.of .u32 0),((I.of .u32 0),((I.of .u32 0),((I.of .u32 0),((I.of .u32 0),((I.of .u32 0),((I.of .u32 0),((I.of .u32 0),((I.of .u32 0),((I.of .u32 0),((I.of .u32 0),((I.of .u32 0),((I.of .u32 0),((I.of .u32 0),((I.of .u32 0),((I.of .u32 0),((I.of .u32 0),((I.of .u32 0),((I.of .u32 0),((I.of .u32 0),((I.of .u32 0),((I.of .u32 0),((I.of .u32 0),((I.of .u32 0),((I.of .u32 0),((I.of .u32 0),((I.of .u32 0),((I.of .u32 0),((I.of .u32 0),c7N))))))))))))))))))))))))))))))))))))))))))))))))))))))))
abbrev a1U:Type:=(I .i64) × (a7Y × (a0B × ((I .u64) × ((I .i64) × (U × ((I .u64) × (b6C × Unit)))))))
abbrev b9I:Type:=(I .u64) × (a2X × (a7N × ((I .u64) × (a5M × ((List a0E) × (c0Q × ((List a0B) × ((List Bool) × (U × ((List a0D) × Unit))))))))))
abbrev a0W:Type:=(I .u64) × (a2X × (a7N × ((I .u64) × (a5M × (Unit × (Unit × (Unit × Unit)))))))
abbrev a0M:Type:=Unit × (c0Q × Unit)
abbrev a0U:Type:=U × (Unit × (Unit × (Unit × Unit)))
abbrev c4Y:Ty:=.cons (.arr 8 (.sl (.int .i64))) (.cons .bool .nil)
abbrev a0X:Ty:=.cons (.int .u64) (.cons a1Q (.cons (.int .u64) .nil))
abbrev a0P:Ty:=.cons (.int .u64) a0Y
abbrev a1P:Ty:=.cons (.int .u64) a0P
abbrev a2B:Ty:=.cons (.int .u64) (.cons a1Q (.cons (.sl a0Y) .nil))
abbrev a7P:Ty:=.cons (.int .u64) (.cons (.int .u64) (.cons (.int .u64) (.cons a1Q (.cons (.sl (.arr 32 (.int .u8))) .nil))))
abbrev a0K:Ty:=.cons (.sl a0X) (.cons (.arr 4 a1Q) .nil)
abbrev a0S:Ty:=.cons a1Q (.cons (.sl (.arr 32 (.int .u8))) (.cons (.sl (.int .u64)) (.cons (.sl a0Y) .nil)))
abbrev a1R:Ty:=.cons (.int .u64) (.cons (.int .u64) (.cons (.int .u64) (.cons a1Q (.cons (.int .u64) (.cons a1Q (.cons a1Q (.cons (.int .u64) (.cons (.sl (.int .u8)) .nil))))))))
abbrev a3A:Ty:=.cons a1Q (.cons a1Q (.cons a1Q (.cons a1Q (.cons a1Q (.cons a1Q (.cons a1Q (.cons a1Q .nil)))))))
abbrev a3Q:Ty:=.cons (.int .u64) (.cons (.int .u64) (.cons (.int .u64) (.cons (.int .u64) (.cons .bool (.cons a1Q (.cons a1Q (.cons a1Q (.cons a1Q (.cons a1Q .nil)))))))))
abbrev a1W:Ty:=.cons (.int .i64) (.cons (.int .i64) (.cons a3Q (.cons a1Q (.cons a1Q (.cons (.int .u64) (.cons a1Q (.cons a1Q (.cons (.sl a0P) .nil))))))))
abbrev a1M:Ty:=.cons (.int .i64) (.cons a1R (.cons a0P (.cons (.int .u64) (.cons (.int .i64) (.cons a1Q (.cons (.int .u64) (.cons a7P .nil)))))))
abbrev a1I:Ty:=.cons (.int .u64) (.cons a0Q (.cons a1P (.cons (.int .u64) (.cons a0Z (.cons .opq (.cons (.sl a0P) (.cons .opq .nil)))))))
abbrev a8G:Ty:=.cons (.int .u64) (.cons a0Q (.cons a1P (.cons (.int .u64) (.cons a0Z (.cons (.sl a0X) (.cons (.arr 4 a1Q) (.cons (.sl a0P) (.cons (.sl .bool) (.cons a1Q (.cons (.sl a0Y) .nil))))))))))
abbrev a0F:List BSh:=[.box a1I (.pair (.pl (.int .u64)) (.pair (.pl a0Q) (.pair (.pl a1P) (.pair (.pl (.int .u64)) (.pair (.pl a0Z) (.pair (.ptr 1 []) (.pair (.whole 3) (.pair (.ptr 2 []) (.pl .nil))))))))),.box a0K (.pair (.whole 4) (.pl (.cons (.arr 4 a1Q) .nil))),.box a0S (.pair (.pl a1Q) (.pair (.whole 5) (.pair (.whole 6) (.pair (.whole 7) (.pl .nil))))),.row a0P,.row a0X,.row (.arr 32 (.int .u8)),.row (.int .u64),.row a0Y]
abbrev a2R:List BSh:=[.box a0S (.pair (.pl a1Q) (.pair (.whole 1) (.pair (.whole 2) (.pair (.whole 3) (.pl .nil))))),.row (.arr 32 (.int .u8)),.row (.int .u64),.row a0Y]
abbrev a0L:List BSh:=[.box a0K (.pair (.whole 1) (.pl (.cons (.arr 4 a1Q) .nil))),.row a0X]
def b7R (K:Nat) (x:(⟨[],[]⟩:Tm).D):Option (⟨[.pl a0Q],[]⟩:Tm).D :=
 some (((I.of .u64 7000000,(I.of .u64 10,(I.of .u64 102,((I.of .u64 100000000,(I.of .u64 0,(I.of .u64 0,(I.of .u64 0,())))),(I.of .u64 32000000,((I.of .u64 60000000,(I.of .u64 0,(I.of .u64 0,(I.of .u64 0,())))),(I.of .u64 1000,((I.of .u64 10,(I.of .u64 0,(I.of .u64 0,(I.of .u64 0,())))),(I.of .u64 160000000,(I.of .u64 10,(I.of .u64 16,(I.of .u64 65536,())))))))))))),()),())
def b0A (K:Nat) (x:(⟨[.pl (.int .u64),.pl (.int .u64),.pl (.int .u64)],[]⟩:Tm).D):Option (⟨[.pl (.int .u64)],[]⟩:Tm).D :=
 let a:(I .u64):=x.1.1
 let b:(I .u64):=x.1.2.1
 let c:(I .u64):=x.1.2.2.1
 optF none (a0H K ((a,()),())) fun y0=>optF none (a0H K ((b,()),())) fun y1=>optF none (a0H K ((c,()),())) fun y2=>optF none (a1V K ((y1.1.1,(y2.1.1,())),())) fun y3=>optF none (a2U K ((y0.1.1,(y3.1.1,())),())) fun y4=>brn (I.leb y4.1.1 (I.of .i64 0)) (some ((I.of .u64 0,()),())) (optF none (a2N K ((y0.1.1,(y3.1.1,())),())) fun y5=>optF none (a0R K ((y5.1.1,()),())) fun y6=>some ((y6.1.1.1,()),()))
def b0M (K:Nat) (x:(⟨[.pl (.int .u64),.pl (.int .u64),.pl (.int .u64)],[]⟩:Tm).D):Option (⟨[.pl (.int .u64)],[]⟩:Tm).D :=
 let a:(I .u64):=x.1.1
 let b:(I .u64):=x.1.2.1
 let c:(I .u64):=x.1.2.2.1
 optF none (b0A K ((a,(b,(c,()))),())) fun y0=>some ((y0.1.1,()),())
def a9B (K:Nat) (x:(⟨[.pl (.int .u64),.pl a0Q],[]⟩:Tm).D):Option (⟨[.pl (.int .u64),.pl (.int .i64)],[]⟩:Tm).D :=
 let a:(I .u64):=x.1.1
 let b:a2X:=x.1.2.1
 optF none (a3O K ((b,()),())) fun y0=>brn (a4S y0.1.1) (some ((I.of .u64 0,(I.of .i64 15,())),())) (optF none (b0M K ((a,(b.1,(b.2.1,()))),())) fun y1=>optF none (a0H K ((y1.1.1,()),())) fun y2=>optF none (a0H K ((I.of .u64 10000,()),())) fun y3=>optF none (a1V K ((y2.1.1,(y3.1.1,())),())) fun y4=>optF none (a0H K ((b.2.2.1,()),())) fun y5=>optF none (a0H K ((b.1,()),())) fun y6=>optF none (a1V K ((y5.1.1,(y6.1.1,())),())) fun y7=>optF none (a3L K ((y4.1.1,(y7.1.1,())),())) fun y8=>optF none (a0H K ((I.of .u64 200000,()),())) fun y9=>optF none (a4J K ((y8.1.1,(y9.1.1,())),())) fun y10=>optF none (a0R K ((y10.1.1,()),())) fun y11=>some ((y11.1.1.1,(I.of .i64 0,())),()))
def b5D (K:Nat) (x:(⟨[.pl (.int .u64),.pl (.int .i64)],[]⟩:Tm).D):Option (⟨[.pl (.int .u64),.pl (.int .i64)],[]⟩:Tm).D :=
 let a:(I .u64):=x.1.1
 let b:(I .i64):=x.1.2.1
 jn (fun (x0:(((I .u64) × ((I .i64) × Unit)) × Unit))=>optF none (a0H K ((I.of .u64 10000,()),())) fun y1=>iter none (fun x2=>brn (I.leb (I.of .i64 1) x2.1.2.2.1) (optF (.done none) (a0H K ((x2.1.1,()),())) fun y3=>optF (.done none) (a1V K ((x2.1.2.1,(y3.1.1,())),())) fun y4=>optF (.done none) (a0H K (((I.conv (k:=.i64) .u64 x2.1.2.2.1),()),())) fun y5=>optF (.done none) (a0H K ((I.of .u64 10000,()),())) fun y6=>optF (.done none) (a1V K ((y5.1.1,(y6.1.1,())),())) fun y7=>optF (.done none) (a3L K ((y4.1.1,(y7.1.1,())),())) fun y8=>optF (.done none) (a0H K ((I.of .u64 10000,()),())) fun y9=>optF (.done none) (a1H K ((y9.1.1,(y8.1.1,())),())) fun y10=>.again ((x2.1.1,(y10.1.1,((I.sub x2.1.2.2.1 (I.of .i64 1)),()))),())) (.done (optF none (a0R K ((x2.1.2.1,()),())) fun y3=>some ((y3.1.1.1,(I.of .i64 0,())),())))) K ((x0.1.1,(y1.1.1,(x0.1.2.1,()))),())) fun j0=>brn (I.ltb (I.of .u64 200000) a) (some ((I.of .u64 0,(I.of .i64 2,())),())) (brn (I.ltb b (I.of .i64 1)) (some ((I.of .u64 0,(I.of .i64 2,())),())) (brn (I.ltb (I.of .i64 20) b) (some ((I.of .u64 0,(I.of .i64 2,())),())) (j0 ((a,(b,())),()))))
def b2V (K:Nat) (x:(⟨[.pl a1Q,.pl (.int .u64)],[]⟩:Tm).D):Option (⟨[.pl a1Q,.pl (.int .i64)],[]⟩:Tm).D :=
 let a:U:=x.1.1
 let b:(I .u64):=x.1.2.1
 optF none (a0C K ((a,()),())) fun y0=>optF none (a0H K ((b,()),())) fun y1=>optF none (a1V K ((y0.1.1,(y1.1.1,())),())) fun y2=>optF none (a0H K ((I.of .u64 10000,()),())) fun y3=>optF none (a3L K ((y2.1.1,(y3.1.1,())),())) fun y4=>optF none (a2L K ((y4.1.1,()),())) fun y5=>some ((y5.1.1,(y5.1.2.1,())),())
def a9U (K:Nat) (x:(⟨[.pl a1Q,.pl (.int .u64),.pl (.int .i64)],[]⟩:Tm).D):Option (⟨[.pl a1Q,.pl (.int .i64)],[]⟩:Tm).D :=
 let a:U:=x.1.1
 let b:(I .u64):=x.1.2.1
 let c:(I .i64):=x.1.2.2.1
 optF none (b5D K ((b,(c,())),())) fun y0=>brn (I.neb y0.1.2.1 (I.of .i64 0)) (some ((Z_U,(y0.1.2.1,())),())) (optF none (b2V K ((a,(y0.1.1,())),())) fun y1=>some ((y1.1.1,(y1.1.2.1,())),()))
def b1H (K:Nat) (x:(⟨[.pl (.int .u64),.pl a0Q],[]⟩:Tm).D):Option (⟨[.pl a1Q,.pl (.int .i64)],[]⟩:Tm).D :=
 let a:(I .u64):=x.1.1
 let b:a2X:=x.1.2.1
 optF none (a9B K ((a,(b,())),())) fun y0=>brn (I.neb y0.1.2.1 (I.of .i64 0)) (some ((Z_U,(y0.1.2.1,())),())) (optF none (a9U K ((b.2.2.2.1,(y0.1.1,(I.of .i64 10,()))),())) fun y1=>some ((y1.1.1,(y1.1.2.1,())),()))
def b8B (K:Nat) (x:(⟨[.pl a0Q],[]⟩:Tm).D):Option (⟨[.pl a1P,.pl (.int .i64)],[]⟩:Tm).D :=
 let a:a2X:=x.1.1
 optF none (b1H K ((I.of .u64 0,(a,())),())) fun y0=>brn (I.neb y0.1.2.1 (I.of .i64 0)) (some ((a4A,(y0.1.2.1,())),())) (some (((I.of .u64 1,(I.of .u64 0,(I.of .u64 0,(y0.1.1,())))),(I.of .i64 0,())),()))
def c3O (K:Nat) (x:(⟨[],[]⟩:Tm).D):Option (⟨[.ptr 0 []],a0L⟩:Tm).D :=
 some ((),(((),(c3E,())),([],())))
def c3M (K:Nat) (x:(⟨[],[]⟩:Tm).D):Option (⟨[.ptr 0 []],a2R⟩:Tm).D :=
 some ((),((Z_U,((),((),((),())))),([],([],([],())))))
def b4C (K:Nat) (x:(⟨[],[]⟩:Tm).D):Option (⟨[.ptr 0 []],a0F⟩:Tm).D :=
 optF none (b7R K ((),())) fun y0=>optF none (b8B K ((y0.1.1,()),())) fun y1=>optF none (b7W K ((),())) fun y2=>optF none (c3O K ((),())) fun y3=>optF none (c3M K ((),())) fun y4=>some ((),((I.of .u64 0,(y0.1.1,(y1.1.1,(I.of .u64 0,(y2.1.1,((),((),((),())))))))),(y3.2.1,(y4.2.1,([],(y3.2.2.1,(y4.2.2.1,(y4.2.2.2.1,(y4.2.2.2.2.1,())))))))))
def b1J (K:Nat) (x:(⟨[],[]⟩:Tm).D):Option (⟨[.whole 0],[.row a1M]⟩:Tm).D :=
 iter none (fun (x0:(((I .u64) × Unit) × ((List a1U) × Unit)))=>brn (I.ltb x0.1.1 (I.of .u64 5)) (brn (a1E (@a0I a1U (@a2A a1U x0.2.1 ((I.of .i64 6,((I.of .u64 0,(I.of .u64 0,(I.of .u64 0,(Z_U,(I.of .u64 0,(Z_U,(Z_U,(I.of .u64 0,([],()))))))))),(a0O,(I.of .u64 0,(I.of .i64 0,((I.of .u64 288230376151711744,(I.of .u64 0,(I.of .u64 0,(I.of .u64 0,())))),(x0.1.1,((I.of .u64 0,(I.of .u64 0,(I.of .u64 0,(Z_U,([],()))))),()))))))))::[])))) (.again (((I.add x0.1.1 (I.of .u64 1)),()),((@a2A a1U x0.2.1 ((I.of .i64 6,((I.of .u64 0,(I.of .u64 0,(I.of .u64 0,(Z_U,(I.of .u64 0,(Z_U,(Z_U,(I.of .u64 0,([],()))))))))),(a0O,(I.of .u64 0,(I.of .i64 0,((I.of .u64 288230376151711744,(I.of .u64 0,(I.of .u64 0,(I.of .u64 0,())))),(x0.1.1,((I.of .u64 0,(I.of .u64 0,(I.of .u64 0,(Z_U,([],()))))),()))))))))::[])),()))) (.done none)) (.done (iter none (fun x1=>brn (I.ltb x1.1.1 (I.of .u64 8)) (brn (a1E (@a0I a1U (@a2A a1U x1.2.1 ((I.of .i64 5,((I.of .u64 0,(I.of .u64 0,(I.of .u64 0,(Z_U,(I.of .u64 0,(Z_U,(Z_U,(I.of .u64 0,([],()))))))))),(a0O,(I.of .u64 0,(I.of .i64 0,(Z_U,(x1.1.1,((I.of .u64 0,(I.of .u64 0,(I.of .u64 0,(Z_U,([],()))))),()))))))))::[])))) (.again (((I.add x1.1.1 (I.of .u64 1)),()),((@a2A a1U x1.2.1 ((I.of .i64 5,((I.of .u64 0,(I.of .u64 0,(I.of .u64 0,(Z_U,(I.of .u64 0,(Z_U,(Z_U,(I.of .u64 0,([],()))))))))),(a0O,(I.of .u64 0,(I.of .i64 0,(Z_U,(x1.1.1,((I.of .u64 0,(I.of .u64 0,(I.of .u64 0,(Z_U,([],()))))),()))))))))::[])),()))) (.done none)) (.done (brn (a1E (@a0I a1U (@a2A a1U x1.2.1 ((I.of .i64 3,((I.of .u64 0,(I.of .u64 0,(I.of .u64 0,(Z_U,(I.of .u64 0,(Z_U,(Z_U,(I.of .u64 0,([],()))))))))),(a0O,(I.of .u64 12,(I.of .i64 0,(Z_U,(I.of .u64 0,((I.of .u64 0,(I.of .u64 0,(I.of .u64 0,(Z_U,([],()))))),()))))))))::[])))) (some ((),((@a2A a1U x1.2.1 ((I.of .i64 3,((I.of .u64 0,(I.of .u64 0,(I.of .u64 0,(Z_U,(I.of .u64 0,(Z_U,(Z_U,(I.of .u64 0,([],()))))))))),(a0O,(I.of .u64 12,(I.of .i64 0,(Z_U,(I.of .u64 0,((I.of .u64 0,(I.of .u64 0,(I.of .u64 0,(Z_U,([],()))))),()))))))))::[])),()))) none))) K ((I.of .u64 5,()),(x0.2.1,()))))) K ((I.of .u64 1,()),([],()))
def a8I (K:Nat) (x:(⟨[.pl (.int .i64)],[]⟩:Tm).D):Option (⟨[.pl .bool],[]⟩:Tm).D :=
 let a:(I .i64):=x.1.1
 brn (I.leb (I.of .i64 1) a) (some (((I.leb a (I.of .i64 7)),()),())) (some ((false,()),()))
def a6I (K:Nat) (x:(⟨[.bp a0K,.pl (.int .u64)],[]⟩:Tm).D):Option (⟨[.pl (.int .i64)],[]⟩:Tm).D :=
 let a:a3D:=x.1.1
 let b:(I .u64):=x.1.2.1
 iter none (fun x0=>brn (I.ltb x0.1.2.2.1 (I.ofNat .i64 (@a0I a0E x0.1.1.1))) (brn (inB x0.1.2.2.1 (@a0I a0E x0.1.1.1)) (brn (I.eqb (@rdL a0E a1G x0.1.1.1 (I.nat x0.1.2.2.1)).1 x0.1.2.1) (.done (some ((x0.1.2.2.1,()),()))) (.again ((x0.1.1,(x0.1.2.1,((I.add x0.1.2.2.1 (I.of .i64 1)),()))),()))) (.done none)) (.done (some (((I.of .i64 (-1)),()),())))) K ((a,(b,(I.of .i64 0,()))),())
def a3C (K:Nat) (x:(⟨[.bp a0K,.pl (.int .u64)],[]⟩:Tm).D):Option (⟨[.pl a0X],[]⟩:Tm).D :=
 let a:a3D:=x.1.1
 let b:(I .u64):=x.1.2.1
 optF none (a6I K ((a,(b,())),())) fun y0=>brn (I.leb (I.of .i64 0) y0.1.1) (brn (inB y0.1.1 (@a0I a0E a.1)) (some (((@rdL a0E a1G a.1 (I.nat y0.1.1)),()),())) none) (some (((b,(Z_U,(I.of .u64 0,()))),()),()))
def a6Z (K:Nat) (x:(⟨[.pl a1P,.pl a0Q],[]⟩:Tm).D):Option (⟨[.pl (.int .u64)],[]⟩:Tm).D :=
 let a:a7N:=x.1.1
 let b:a2X:=x.1.2.1
 brn (I.ltb b.2.2.2.2.1 a.2.2.1) (some ((I.of .u64 0,()),())) (some (((I.sub b.2.2.2.2.1 a.2.2.1),()),()))
def a6E (K:Nat) (x:(⟨[.ptr 0 [],.pl a1R],a0F⟩:Tm).D):Option (⟨[.pl a1Q,.pl (.int .i64)],a0F⟩:Tm).D :=
 let a:a7Y:=x.1.1
 let h0:a0W:=x.2.1
 let h1:a0M:=x.2.2.1
 let h2:a0U:=x.2.2.2.1
 let h3:(List a0B):=x.2.2.2.2.1
 let h4:(List a0E):=x.2.2.2.2.2.1
 let h5:(List a0G):=x.2.2.2.2.2.2.1
 let h6:(List (I .u64)):=x.2.2.2.2.2.2.2.1
 let h7:(List a0D):=x.2.2.2.2.2.2.2.2.1
 brn (I.ltb (I.of .i64 4096) (I.ofNat .i64 (@a0I (I .u8) a.2.2.2.2.2.2.2.2.1))) (some ((Z_U,(I.of .i64 6,())),(h0,(h1,(h2,(h3,(h4,(h5,(h6,(h7,())))))))))) (jn (fun (x0:(Unit × (a0W × (a0M × ((List a0E) × ((List a0B) × (a0U × ((List a0G) × ((List (I .u64)) × ((List a0D) × (a7Y × (U × (U × Unit)))))))))))))=>optF none (a3C K (((x0.2.2.2.1,x0.2.2.1.2),(x0.2.2.2.2.2.2.2.2.2.1.1,())),())) fun y1=>brn (I.neb x0.2.2.2.2.2.2.2.2.2.1.2.1 y1.1.1.2.2.1) (some ((x0.2.2.2.2.2.2.2.2.2.2.2.1,(I.of .i64 11,())),(x0.2.1,(x0.2.2.1,(x0.2.2.2.2.2.1,(x0.2.2.2.2.1,(x0.2.2.2.1,(x0.2.2.2.2.2.2.1,(x0.2.2.2.2.2.2.2.1,(x0.2.2.2.2.2.2.2.2.1,())))))))))) (brn (I.eqb (I.add y1.1.1.2.2.1 (I.of .u64 1)) (I.of .u64 0)) (some ((x0.2.2.2.2.2.2.2.2.2.2.2.1,(I.of .i64 4,())),(x0.2.1,(x0.2.2.1,(x0.2.2.2.2.2.1,(x0.2.2.2.2.1,(x0.2.2.2.1,(x0.2.2.2.2.2.2.1,(x0.2.2.2.2.2.2.2.1,(x0.2.2.2.2.2.2.2.2.1,())))))))))) (optF none (a9D K ((x0.2.2.2.2.2.2.2.2.2.1,(x0.2.1.2.2.1.2.2.2.1,())),())) fun y2=>brn (I.neb y2.1.2.1 (I.of .i64 0)) (some ((x0.2.2.2.2.2.2.2.2.2.2.2.1,(y2.1.2.1,())),(x0.2.1,(x0.2.2.1,(x0.2.2.2.2.2.1,(x0.2.2.2.2.1,(x0.2.2.2.1,(x0.2.2.2.2.2.2.1,(x0.2.2.2.2.2.2.2.1,(x0.2.2.2.2.2.2.2.2.1,())))))))))) (optF none (a6Z K ((x0.2.1.2.2.1,(x0.2.1.2.1,())),())) fun y3=>brn (I.ltb y3.1.1 x0.2.2.2.2.2.2.2.2.2.1.2.2.2.2.1) (some ((x0.2.2.2.2.2.2.2.2.2.2.2.1,(I.of .i64 13,())),(x0.2.1,(x0.2.2.1,(x0.2.2.2.2.2.1,(x0.2.2.2.2.1,(x0.2.2.2.1,(x0.2.2.2.2.2.2.1,(x0.2.2.2.2.2.2.2.1,(x0.2.2.2.2.2.2.2.2.1,())))))))))) (optF none (b0Q K ((x0.2.2.2.2.2.2.2.2.2.1,(y2.1.1,(y1.1.1.2.1,()))),())) fun y4=>brn (a4S y4.1.1) (some ((x0.2.2.2.2.2.2.2.2.2.2.2.1,(I.of .i64 10,())),(x0.2.1,(x0.2.2.1,(x0.2.2.2.2.2.1,(x0.2.2.2.2.1,(x0.2.2.2.1,(x0.2.2.2.2.2.2.1,(x0.2.2.2.2.2.2.2.1,(x0.2.2.2.2.2.2.2.2.1,())))))))))) (some ((y2.1.1,(I.of .i64 0,())),(x0.2.1,(x0.2.2.1,(x0.2.2.2.2.2.1,(x0.2.2.2.2.1,(x0.2.2.2.1,(x0.2.2.2.2.2.2.1,(x0.2.2.2.2.2.2.2.1,(x0.2.2.2.2.2.2.2.2.1,()))))))))))))))) fun j0=>brn (I.eqb a.1 (I.of .u64 0)) (some ((Z_U,(I.of .i64 2,())),(h0,(h1,(h2,(h3,(h4,(h5,(h6,(h7,())))))))))) (brn (I.eqb a.2.2.1 (I.of .u64 0)) (some ((Z_U,(I.of .i64 2,())),(h0,(h1,(h2,(h3,(h4,(h5,(h6,(h7,())))))))))) (brn (I.eqb a.1 (I.of .u64 18446744073709551615)) (some ((Z_U,(I.of .i64 2,())),(h0,(h1,(h2,(h3,(h4,(h5,(h6,(h7,())))))))))) (j0 ((),(h0,(h1,(h4,(h3,(h2,(h5,(h6,(h7,(a,(Z_U,(Z_U,()))))))))))))))))
def a4Q (K:Nat) (x:(⟨[.ptr 0 [],.pl a0X],a0L⟩:Tm).D):Option (⟨[],a0L⟩:Tm).D :=
 let a:a0E:=x.1.1
 let h0:a0M:=x.2.1
 let h1:(List a0E):=x.2.2.1
 optF none (a6I K (((h1,h0.2),(a.1,())),())) fun y0=>brn (I.leb (I.of .i64 0) y0.1.1) (brn (inB y0.1.1 (@a0I a0E h1)) (some ((),(h0,((@c2C a0E h1 (I.nat y0.1.1) a),())))) none) (brn (a1E (@a0I a0E (@a2A a0E h1 (a::[])))) (some ((),(h0,((@a2A a0E h1 (a::[])),())))) none)
def a3Y (K:Nat) (x:(⟨[.ptr 0 [],.pl (.int .u64),.pl a1Q],a0L⟩:Tm).D):Option (⟨[.pl .bool],a0L⟩:Tm).D :=
 let a:(I .u64):=x.1.1
 let b:U:=x.1.2.1
 let h0:a0M:=x.2.1
 let h1:(List a0E):=x.2.2.1
 optF none (a3C K (((h1,h0.2),(a,())),())) fun y0=>optF none (a4Y K ((y0.1.1.2.1,(b,())),())) fun y1=>brn (I.neb y1.1.2.1 (I.of .i64 0)) (some ((false,()),(h0,(h1,())))) (optF none (a4Q K (((y0.1.1.1,(y1.1.1,y0.1.1.2.2)),()),(h0,(h1,())))) fun y2=>some ((true,()),(y2.2.1,(y2.2.2.1,()))))
def a2O (K:Nat) (x:(⟨[.ptr 0 [],.pl (.int .u64),.pl (.int .i64),.pl a1Q],a0L⟩:Tm).D):Option (⟨[.pl (.int .i64)],a0L⟩:Tm).D :=
 let a:(I .u64):=x.1.1
 let b:(I .i64):=x.1.2.1
 let c:U:=x.1.2.2.1
 let h0:a0M:=x.2.1
 let h1:(List a0E):=x.2.2.1
 jn (fun (x0:(((I .u64) × ((I .i64) × Unit)) × (a0M × ((List a0E) × (U × Unit)))))=>optF none (a3Y K ((x0.1.1,(x0.2.2.2.1,())),(x0.2.1,(x0.2.2.1,())))) fun y1=>brn (a4S y1.1.1) (some ((I.of .i64 10,()),(y1.2.1,(y1.2.2.1,())))) (brn (inB (I.sub x0.1.2.1 (I.of .i64 1)) 4) (optF none (a0C K (((@Arr.sel U Z_U 4 y1.2.1.2.1 (I.nat (I.sub x0.1.2.1 (I.of .i64 1)))),()),())) fun y2=>optF none (a0C K ((x0.2.2.2.1,()),())) fun y3=>optF none (a1H K ((y2.1.1,(y3.1.1,())),())) fun y4=>optF none (a0R K ((y4.1.1,()),())) fun y5=>brn (inB (I.sub x0.1.2.1 (I.of .i64 1)) 4) (some ((I.of .i64 0,()),(((),((@Arr.upd U 4 y1.2.1.2.1 (I.nat (I.sub x0.1.2.1 (I.of .i64 1))) y5.1.1),y1.2.1.2.2)),(y1.2.2.1,())))) none) none)) fun j0=>brn (I.eqb a (I.of .u64 0)) (some ((I.of .i64 2,()),(h0,(h1,())))) (brn (I.ltb b (I.of .i64 1)) (some ((I.of .i64 2,()),(h0,(h1,())))) (brn (I.ltb (I.of .i64 4) b) (some ((I.of .i64 2,()),(h0,(h1,())))) (j0 ((a,(b,())),(h0,(h1,(c,())))))))
def a3X (K:Nat) (x:(⟨[.ptr 0 [],.pl (.int .u64)],a0L⟩:Tm).D):Option (⟨[.pl (.int .i64)],a0L⟩:Tm).D :=
 let a:(I .u64):=x.1.1
 let h0:a0M:=x.2.1
 let h1:(List a0E):=x.2.2.1
 brn (I.eqb a (I.of .u64 0)) (some ((I.of .i64 2,()),(h0,(h1,())))) (optF none (a3C K (((h1,h0.2),(a,())),())) fun y0=>brn (I.eqb (I.add y0.1.1.2.2.1 (I.of .u64 1)) (I.of .u64 0)) (some ((I.of .i64 4,()),(h0,(h1,())))) (optF none (a4Q K (((y0.1.1.1,(y0.1.1.2.1,((I.add y0.1.1.2.2.1 (I.of .u64 1)),y0.1.1.2.2.2))),()),(h0,(h1,())))) fun y1=>some ((I.of .i64 0,()),(y1.2.1,(y1.2.2.1,())))))
def a8U (K:Nat) (x:(⟨[.pl (.int .u64),.pl (.int .u64)],[]⟩:Tm).D):Option (⟨[.pl (.int .u64)],[]⟩:Tm).D :=
 let a:(I .u64):=x.1.1
 let b:(I .u64):=x.1.2.1
 optF none (a0H K ((a,()),())) fun y0=>optF none (a0H K ((b,()),())) fun y1=>optF none (a1H K ((y0.1.1,(y1.1.1,())),())) fun y2=>optF none (a0R K ((y2.1.1,()),())) fun y3=>optF none (a7L K ((y3.1.1,()),())) fun y4=>brn (a4S y4.1.2.1) (some ((I.of .u64 18446744073709551615,()),())) (some ((y4.1.1,()),()))
def a4U (K:Nat) (x:(⟨[.ptr 0 [],.pl (.int .u64),.pl a1Q],a0L⟩:Tm).D):Option (⟨[],a0L⟩:Tm).D :=
 let a:(I .u64):=x.1.1
 let b:U:=x.1.2.1
 let h0:a0M:=x.2.1
 let h1:(List a0E):=x.2.2.1
 optF none (a3C K (((h1,h0.2),(a,())),())) fun y0=>optF none (a0C K ((y0.1.1.2.1,()),())) fun y1=>optF none (a0C K ((b,()),())) fun y2=>optF none (a1H K ((y1.1.1,(y2.1.1,())),())) fun y3=>optF none (a0R K ((y3.1.1,()),())) fun y4=>optF none (a4Q K (((y0.1.1.1,(y4.1.1,y0.1.1.2.2)),()),(h0,(h1,())))) fun y5=>some ((),(y5.2.1,(y5.2.2.1,())))
def a5Q (K:Nat) (x:(⟨[.ptr 0 [],.pl (.int .u64),.pl (.int .u64),.pl a1Q],a0L⟩:Tm).D):Option (⟨[.pl (.int .i64)],a0L⟩:Tm).D :=
 let a:(I .u64):=x.1.1
 let b:(I .u64):=x.1.2.1
 let c:U:=x.1.2.2.1
 let h0:a0M:=x.2.1
 let h1:(List a0E):=x.2.2.1
 jn (fun (x0:(((I .u64) × ((I .u64) × Unit)) × (a0M × ((List a0E) × (U × Unit)))))=>optF none (a3Y K ((x0.1.1,(x0.2.2.2.1,())),(x0.2.1,(x0.2.2.1,())))) fun y1=>brn (a4S y1.1.1) (some ((I.of .i64 10,()),(y1.2.1,(y1.2.2.1,())))) (optF none (a4U K ((x0.1.2.1,(x0.2.2.2.1,())),(y1.2.1,(y1.2.2.1,())))) fun y2=>some ((I.of .i64 0,()),(y2.2.1,(y2.2.2.1,()))))) fun j0=>brn (I.eqb a (I.of .u64 0)) (some ((I.of .i64 2,()),(h0,(h1,())))) (brn (I.eqb b (I.of .u64 0)) (some ((I.of .i64 2,()),(h0,(h1,())))) (j0 ((a,(b,())),(h0,(h1,(c,()))))))
def a5R (K:Nat) (x:(⟨[.ptr 0 [],.pl (.int .u64),.pl a1Q],a0L⟩:Tm).D):Option (⟨[.pl (.int .i64)],a0L⟩:Tm).D :=
 let a:(I .u64):=x.1.1
 let b:U:=x.1.2.1
 let h0:a0M:=x.2.1
 let h1:(List a0E):=x.2.2.1
 brn (I.eqb a (I.of .u64 0)) (some ((I.of .i64 2,()),(h0,(h1,())))) (optF none (a3Y K ((a,(b,())),(h0,(h1,())))) fun y0=>brn (a4S y0.1.1) (some ((I.of .i64 10,()),(y0.2.1,(y0.2.2.1,())))) (some ((I.of .i64 0,()),(y0.2.1,(y0.2.2.1,())))))
def c1W (K:Nat) (x:(⟨[],[]⟩:Tm).D):Option (⟨[.pl (.arr 64 (.int .u32))],[]⟩:Tm).D :=
 some (((I.of .u32 1116352408,(I.of .u32 1899447441,(I.of .u32 3049323471,(I.of .u32 3921009573,(I.of .u32 961987163,(I.of .u32 1508970993,(I.of .u32 2453635748,(I.of .u32 2870763221,(I.of .u32 3624381080,(I.of .u32 310598401,(I.of .u32 607225278,(I.of .u32 1426881987,(I.of .u32 1925078388,(I.of .u32 2162078206,(I.of .u32 2614888103,(I.of .u32 3248222580,(I.of .u32 3835390401,(I.of .u32 4022224774,(I.of .u32 264347078,(I.of .u32 604807628,(I.of .u32 770255983,(I.of .u32 1249150122,(I.of .u32 1555081692,(I.of .u32 1996064986,(I.of .u32 2554220882,(I.of .u32 2821834349,(I.of .u32 2952996808,(I.of .u32 3210313671,(I.of .u32 3336571891,(I.of .u32 3584528711,(I.of .u32 113926993,(I.of .u32 338241895,(I.of .u32 666307205,(I.of .u32 773529912,(I.of .u32 1294757372,(I.of .u32 1396182291,(I.of .u32 1695183700,(I.of .u32 1986661051,(I.of .u32 2177026350,(I.of .u32 2456956037,(I.of .u32 2730485921,(I.of .u32 2820302411,(I.of .u32 3259730800,(I.of .u32 3345764771,(I.of .u32 3516065817,(I.of .u32 3600352804,(I.of .u32 4094571909,(I.of .u32 275423344,(I.of .u32 430227734,(I.of .u32 506948616,(I.of .u32 659060556,(I.of .u32 883997877,(I.of .u32 958139571,(I.of .u32 1322822218,(I.of .u32 1537002063,(I.of .u32 1747873779,(I.of .u32 1955562222,(I.of .u32 2024104815,(I.of .u32 2227730452,(I.of .u32 2361852424,(I.of .u32 2428436474,(I.of .u32 2756734187,(I.of .u32 3204031479,(I.of .u32 3329325298,())))))))))))))))))))))))))))))))))))))))))))))))))))))))))))))))),()),())
def a2S (K:Nat) (x:(⟨[.pl (.int .u32),.pl (.int .u64)],[]⟩:Tm).D):Option (⟨[.pl (.int .u32)],[]⟩:Tm).D :=
 let a:(I .u32):=x.1.1
 let b:(I .u64):=x.1.2.1
 brn (I.nn b) (brn (I.nn (I.sub (I.of .u64 32) b)) (some (((I.or (I.shr a b) (I.shl a (I.sub (I.of .u64 32) b))),()),())) none) none
def b2R (K:Nat) (x:(⟨[.pl (.arr 8 (.int .u32)),.pl (.sl (.int .u8))],[]⟩:Tm).D):Option (⟨[.pl (.arr 8 (.int .u32))],[]⟩:Tm).D :=
 let a:b5X:=x.1.1
 let b:(List (I .u8)):=x.1.2.1
 optF none (c1W K ((),())) fun y0=>iter none (fun x1=>brn (I.ltb x1.1.2.1 (I.of .i64 64)) (brn (I.ltb x1.1.2.1 (I.of .i64 16)) (brn (inB (I.mul (I.of .i64 4) x1.1.2.1) (@a0I (I .u8) x1.1.1)) (brn (inB (I.add (I.mul (I.of .i64 4) x1.1.2.1) (I.of .i64 1)) (@a0I (I .u8) x1.1.1)) (brn (inB (I.add (I.mul (I.of .i64 4) x1.1.2.1) (I.of .i64 2)) (@a0I (I .u8) x1.1.1)) (brn (inB (I.add (I.mul (I.of .i64 4) x1.1.2.1) (I.of .i64 3)) (@a0I (I .u8) x1.1.1)) (brn (inB x1.1.2.1 64) (.again ((x1.1.1,((I.add x1.1.2.1 (I.of .i64 1)),())),(x1.2.1,(x1.2.2.1,(x1.2.2.2.1,((@Arr.upd (I .u32) 64 x1.2.2.2.2.1 (I.nat x1.1.2.1) (I.add (I.add (I.add (I.shl (I.conv (k:=.u8) .u32 (@rdL (I .u8) (I.of .u8 0) x1.1.1 (I.nat (I.mul (I.of .i64 4) x1.1.2.1)))) (I.of .u64 24)) (I.shl (I.conv (k:=.u8) .u32 (@rdL (I .u8) (I.of .u8 0) x1.1.1 (I.nat (I.add (I.mul (I.of .i64 4) x1.1.2.1) (I.of .i64 1))))) (I.of .u64 16))) (I.shl (I.conv (k:=.u8) .u32 (@rdL (I .u8) (I.of .u8 0) x1.1.1 (I.nat (I.add (I.mul (I.of .i64 4) x1.1.2.1) (I.of .i64 2))))) (I.of .u64 8))) (I.conv (k:=.u8) .u32 (@rdL (I .u8) (I.of .u8 0) x1.1.1 (I.nat (I.add (I.mul (I.of .i64 4) x1.1.2.1) (I.of .i64 3))))))),())))))) (.done none)) (.done none)) (.done none)) (.done none)) (.done none)) (brn (inB (I.sub x1.1.2.1 (I.of .i64 15)) 64) (brn (inB (I.sub x1.1.2.1 (I.of .i64 2)) 64) (brn (inB (I.sub x1.1.2.1 (I.of .i64 16)) 64) (optF (.done none) (a2S K (((@Arr.sel (I .u32) (I.of .u32 0) 64 x1.2.2.2.2.1 (I.nat (I.sub x1.1.2.1 (I.of .i64 15)))),(I.of .u64 7,())),())) fun y2=>optF (.done none) (a2S K (((@Arr.sel (I .u32) (I.of .u32 0) 64 x1.2.2.2.2.1 (I.nat (I.sub x1.1.2.1 (I.of .i64 15)))),(I.of .u64 18,())),())) fun y3=>brn (inB (I.sub x1.1.2.1 (I.of .i64 7)) 64) (optF (.done none) (a2S K (((@Arr.sel (I .u32) (I.of .u32 0) 64 x1.2.2.2.2.1 (I.nat (I.sub x1.1.2.1 (I.of .i64 2)))),(I.of .u64 17,())),())) fun y4=>optF (.done none) (a2S K (((@Arr.sel (I .u32) (I.of .u32 0) 64 x1.2.2.2.2.1 (I.nat (I.sub x1.1.2.1 (I.of .i64 2)))),(I.of .u64 19,())),())) fun y5=>brn (inB x1.1.2.1 64) (.again ((x1.1.1,((I.add x1.1.2.1 (I.of .i64 1)),())),(x1.2.1,(x1.2.2.1,(x1.2.2.2.1,((@Arr.upd (I .u32) 64 x1.2.2.2.2.1 (I.nat x1.1.2.1) (I.add (I.add (I.add (@Arr.sel (I .u32) (I.of .u32 0) 64 x1.2.2.2.2.1 (I.nat (I.sub x1.1.2.1 (I.of .i64 16)))) (I.xor (I.xor y2.1.1 y3.1.1) (I.shr (@Arr.sel (I .u32) (I.of .u32 0) 64 x1.2.2.2.2.1 (I.nat (I.sub x1.1.2.1 (I.of .i64 15)))) (I.of .u64 3)))) (@Arr.sel (I .u32) (I.of .u32 0) 64 x1.2.2.2.2.1 (I.nat (I.sub x1.1.2.1 (I.of .i64 7))))) (I.xor (I.xor y4.1.1 y5.1.1) (I.shr (@Arr.sel (I .u32) (I.of .u32 0) 64 x1.2.2.2.2.1 (I.nat (I.sub x1.1.2.1 (I.of .i64 2)))) (I.of .u64 10))))),())))))) (.done none)) (.done none)) (.done none)) (.done none)) (.done none))) (.done (iter none (fun x2=>brn (I.ltb x2.1.1 (I.of .i64 64)) (optF (.done none) (a2S K ((x2.2.2.2.2.2.1.2.2.2.2.1,(I.of .u64 6,())),())) fun y3=>optF (.done none) (a2S K ((x2.2.2.2.2.2.1.2.2.2.2.1,(I.of .u64 11,())),())) fun y4=>optF (.done none) (a2S K ((x2.2.2.2.2.2.1.2.2.2.2.1,(I.of .u64 25,())),())) fun y5=>brn (inB x2.1.1 64) (brn (inB x2.1.1 64) (optF (.done none) (a2S K ((x2.2.2.2.2.2.1.1,(I.of .u64 2,())),())) fun y6=>optF (.done none) (a2S K ((x2.2.2.2.2.2.1.1,(I.of .u64 13,())),())) fun y7=>optF (.done none) (a2S K ((x2.2.2.2.2.2.1.1,(I.of .u64 22,())),())) fun y8=>.again (((I.add x2.1.1 (I.of .i64 1)),()),(x2.2.1,(x2.2.2.1,(x2.2.2.2.1,(x2.2.2.2.2.1,(((I.add (I.add (I.add (I.add (I.add x2.2.2.2.2.2.1.2.2.2.2.2.2.2.1 (I.xor (I.xor y3.1.1 y4.1.1) y5.1.1)) (I.xor (I.and x2.2.2.2.2.2.1.2.2.2.2.1 x2.2.2.2.2.2.1.2.2.2.2.2.1) (I.and (I.com x2.2.2.2.2.2.1.2.2.2.2.1) x2.2.2.2.2.2.1.2.2.2.2.2.2.1))) (@Arr.sel (I .u32) (I.of .u32 0) 64 x2.2.2.2.1 (I.nat x2.1.1))) (@Arr.sel (I .u32) (I.of .u32 0) 64 x2.2.2.2.2.1 (I.nat x2.1.1))) (I.add (I.xor (I.xor y6.1.1 y7.1.1) y8.1.1) (I.xor (I.xor (I.and x2.2.2.2.2.2.1.1 x2.2.2.2.2.2.1.2.1) (I.and x2.2.2.2.2.2.1.1 x2.2.2.2.2.2.1.2.2.1)) (I.and x2.2.2.2.2.2.1.2.1 x2.2.2.2.2.2.1.2.2.1)))),(x2.2.2.2.2.2.1.1,(x2.2.2.2.2.2.1.2.1,(x2.2.2.2.2.2.1.2.2.1,((I.add x2.2.2.2.2.2.1.2.2.2.1 (I.add (I.add (I.add (I.add x2.2.2.2.2.2.1.2.2.2.2.2.2.2.1 (I.xor (I.xor y3.1.1 y4.1.1) y5.1.1)) (I.xor (I.and x2.2.2.2.2.2.1.2.2.2.2.1 x2.2.2.2.2.2.1.2.2.2.2.2.1) (I.and (I.com x2.2.2.2.2.2.1.2.2.2.2.1) x2.2.2.2.2.2.1.2.2.2.2.2.2.1))) (@Arr.sel (I .u32) (I.of .u32 0) 64 x2.2.2.2.1 (I.nat x2.1.1))) (@Arr.sel (I .u32) (I.of .u32 0) 64 x2.2.2.2.2.1 (I.nat x2.1.1)))),(x2.2.2.2.2.2.1.2.2.2.2.1,(x2.2.2.2.2.2.1.2.2.2.2.2.1,(x2.2.2.2.2.2.1.2.2.2.2.2.2.1,())))))))),()))))))) (.done none)) (.done none)) (.done (iter none (fun x3=>brn (I.ltb x3.1.1 (I.of .i64 8)) (brn (inB x3.1.1 8) (brn (inB x3.1.1 8) (brn (inB x3.1.1 8) (.again (((I.add x3.1.1 (I.of .i64 1)),()),(x3.2.1,(x3.2.2.1,((@Arr.upd (I .u32) 8 x3.2.2.2.1 (I.nat x3.1.1) (I.add (@Arr.sel (I .u32) (I.of .u32 0) 8 x3.2.2.2.1 (I.nat x3.1.1)) (@Arr.sel (I .u32) (I.of .u32 0) 8 x3.2.1 (I.nat x3.1.1)))),()))))) (.done none)) (.done none)) (.done none)) (.done (some ((x3.2.2.2.1,()),())))) K ((I.of .i64 0,()),(x2.2.1,(x2.2.2.1,(x2.2.2.2.2.2.1,()))))))) K ((I.of .i64 0,()),(x1.2.1,(x1.2.2.1,(x1.2.2.2.1,(x1.2.2.2.2.1,(x1.2.1,()))))))))) K ((b,(I.of .i64 0,())),(a,(c7N,(y0.1.1,(d3T,())))))
def a9Y (K:Nat) (x:(⟨[.pl (.sl (.int .u8))],[]⟩:Tm).D):Option (⟨[.pl (.arr 32 (.int .u8))],[]⟩:Tm).D :=
 let a:(List (I .u8)):=x.1.1
 brn (a1E (@a0I (I .u8) (@a2A (I .u8) [] a))) (brn (a1E (@a0I (I .u8) (@a2A (I .u8) (@a2A (I .u8) [] a) f1X))) (iter none (fun (x0:(((List (I .u8)) × Unit) × (a0G × ((List (I .u8)) × Unit))))=>brn (I.neb (I.rem (I.ofNat .i64 (@a0I (I .u8) x0.2.2.1)) (I.of .i64 64)) (I.of .i64 56)) (brn (a1E (@a0I (I .u8) (@a2A (I .u8) x0.2.2.1 d6L))) (.again ((x0.1.1,()),(x0.2.1,((@a2A (I .u8) x0.2.2.1 d6L),())))) (.done none)) (.done (iter none (fun x1=>brn (I.leb (I.of .i64 0) x1.1.2.1) (brn (I.nn (I.conv (k:=.i64) .u64 (I.mul (I.of .i64 8) x1.1.2.1))) (brn (a1E (@a0I (I .u8) (@a2A (I .u8) x1.2.2.1 ((I.conv (k:=.u64) .u8 (I.shr x1.1.1 (I.conv (k:=.i64) .u64 (I.mul (I.of .i64 8) x1.1.2.1))))::[])))) (.again ((x1.1.1,((I.sub x1.1.2.1 (I.of .i64 1)),())),(x1.2.1,((@a2A (I .u8) x1.2.2.1 ((I.conv (k:=.u64) .u8 (I.shr x1.1.1 (I.conv (k:=.i64) .u64 (I.mul (I.of .i64 8) x1.1.2.1))))::[])),())))) (.done none)) (.done none)) (.done (iter none (fun x2=>brn (I.ltb x2.1.1 (I.ofNat .i64 (@a0I (I .u8) x2.2.2.1))) (brn (inB' x2.1.1 (I.nat (I.add x2.1.1 (I.of .i64 64)))) (brn (inB' (I.add x2.1.1 (I.of .i64 64)) (@a0I (I .u8) x2.2.2.1)) (optF (.done none) (b2R K ((x2.2.2.2.1,((@a3W (I .u8) x2.2.2.1 (I.nat x2.1.1) ((I.nat (I.add x2.1.1 (I.of .i64 64))) - (I.nat x2.1.1))),())),())) fun y3=>.again (((I.add x2.1.1 (I.of .i64 64)),()),(x2.2.1,(x2.2.2.1,(y3.1.1,()))))) (.done none)) (.done none)) (.done (iter none (fun x3=>brn (I.ltb x3.1.1 (I.of .i64 32)) (brn (inB (I.quo x3.1.1 (I.of .i64 4)) 8) (brn (I.nn (I.conv (k:=.i64) .u64 (I.sub (I.of .i64 24) (I.mul (I.of .i64 8) (I.rem x3.1.1 (I.of .i64 4)))))) (brn (inB x3.1.1 32) (.again (((I.add x3.1.1 (I.of .i64 1)),()),(x3.2.1,(x3.2.2.1,((@Arr.upd (I .u8) 32 x3.2.2.2.1 (I.nat x3.1.1) (I.conv (k:=.u32) .u8 (I.shr (@Arr.sel (I .u32) (I.of .u32 0) 8 x3.2.2.1 (I.nat (I.quo x3.1.1 (I.of .i64 4)))) (I.conv (k:=.i64) .u64 (I.sub (I.of .i64 24) (I.mul (I.of .i64 8) (I.rem x3.1.1 (I.of .i64 4)))))))),()))))) (.done none)) (.done none)) (.done none)) (.done (some ((x3.2.2.2.1,()),())))) K ((I.of .i64 0,()),(x2.2.1,(x2.2.2.2.1,(a2J,()))))))) K ((I.of .i64 0,()),(x1.2.1,(x1.2.2.1,((I.of .u32 1779033703,(I.of .u32 3144134277,(I.of .u32 1013904242,(I.of .u32 2773480762,(I.of .u32 1359893119,(I.of .u32 2600822924,(I.of .u32 528734635,(I.of .u32 1541459225,())))))))),()))))))) K (((I.mul (I.conv (k:=.i64) .u64 (I.ofNat .i64 (@a0I (I .u8) x0.1.1))) (I.of .u64 8)),(I.of .i64 7,())),(x0.2.1,(x0.2.2.1,())))))) K ((a,()),(a2J,((@a2A (I .u8) (@a2A (I .u8) [] a) f1X),())))) none) none
def b4B (K:Nat) (x:(⟨[.pl (.sl (.int .u8))],[]⟩:Tm).D):Option (⟨[.pl (.arr 32 (.int .u8))],[]⟩:Tm).D :=
 let a:(List (I .u8)):=x.1.1
 brn (a1E (@a0I (I .u8) (@a2A (I .u8) d6L a))) (optF none (a9Y K (((@a2A (I .u8) d6L a),()),())) fun y0=>some ((y0.1.1,()),())) none
def b1X (K:Nat) (x:(⟨[.pl a1Q],[]⟩:Tm).D):Option (⟨[.pl (.sl (.int .u8))],[]⟩:Tm).D :=
 let a:U:=x.1.1
 iter none (fun (x0:(((I .i64) × Unit) × (U × ((List (I .u8)) × Unit))))=>brn (I.leb (I.of .i64 0) x0.1.1) (brn (inB (I.quo x0.1.1 (I.of .i64 8)) 4) (brn (I.nn (I.conv (k:=.i64) .u64 (I.mul (I.of .i64 8) (I.rem x0.1.1 (I.of .i64 8))))) (brn (I.ltb (I.of .i64 0) (I.ofNat .i64 (@a0I (I .u8) x0.2.2.1))) (brn (a1E (@a0I (I .u8) (@a2A (I .u8) x0.2.2.1 ((I.conv (k:=.u64) .u8 (I.shr (@Arr.sel (I .u64) (I.of .u64 0) 4 x0.2.1 (I.nat (I.quo x0.1.1 (I.of .i64 8)))) (I.conv (k:=.i64) .u64 (I.mul (I.of .i64 8) (I.rem x0.1.1 (I.of .i64 8))))))::[])))) (.again (((I.sub x0.1.1 (I.of .i64 1)),()),(x0.2.1,((@a2A (I .u8) x0.2.2.1 ((I.conv (k:=.u64) .u8 (I.shr (@Arr.sel (I .u64) (I.of .u64 0) 4 x0.2.1 (I.nat (I.quo x0.1.1 (I.of .i64 8)))) (I.conv (k:=.i64) .u64 (I.mul (I.of .i64 8) (I.rem x0.1.1 (I.of .i64 8))))))::[])),())))) (.done none)) (brn (I.ltb (I.of .u8 0) (I.conv (k:=.u64) .u8 (I.shr (@Arr.sel (I .u64) (I.of .u64 0) 4 x0.2.1 (I.nat (I.quo x0.1.1 (I.of .i64 8)))) (I.conv (k:=.i64) .u64 (I.mul (I.of .i64 8) (I.rem x0.1.1 (I.of .i64 8))))))) (brn (a1E (@a0I (I .u8) (@a2A (I .u8) x0.2.2.1 ((I.conv (k:=.u64) .u8 (I.shr (@Arr.sel (I .u64) (I.of .u64 0) 4 x0.2.1 (I.nat (I.quo x0.1.1 (I.of .i64 8)))) (I.conv (k:=.i64) .u64 (I.mul (I.of .i64 8) (I.rem x0.1.1 (I.of .i64 8))))))::[])))) (.again (((I.sub x0.1.1 (I.of .i64 1)),()),(x0.2.1,((@a2A (I .u8) x0.2.2.1 ((I.conv (k:=.u64) .u8 (I.shr (@Arr.sel (I .u64) (I.of .u64 0) 4 x0.2.1 (I.nat (I.quo x0.1.1 (I.of .i64 8)))) (I.conv (k:=.i64) .u64 (I.mul (I.of .i64 8) (I.rem x0.1.1 (I.of .i64 8))))))::[])),())))) (.done none)) (.again (((I.sub x0.1.1 (I.of .i64 1)),()),(x0.2.1,(x0.2.2.1,())))))) (.done none)) (.done none)) (.done (some ((x0.2.2.1,()),())))) K ((I.of .i64 31,()),(a,([],())))
def a5C (K:Nat) (x:(⟨[.pl (.sl (.int .u8)),.pl a1Q],[]⟩:Tm).D):Option (⟨[.pl (.sl (.int .u8))],[]⟩:Tm).D :=
 let a:(List (I .u8)):=x.1.1
 let b:U:=x.1.2.1
 optF none (b1X K ((b,()),())) fun y0=>brn (a1E (@a0I (I .u8) (@a2A (I .u8) [] a))) (brn (a1E (@a0I (I .u8) (@a2A (I .u8) (@a2A (I .u8) [] a) ((I.conv (k:=.i64) .u8 (I.ofNat .i64 (@a0I (I .u8) y0.1.1)))::[])))) (brn (a1E (@a0I (I .u8) (@a2A (I .u8) (@a2A (I .u8) (@a2A (I .u8) [] a) ((I.conv (k:=.i64) .u8 (I.ofNat .i64 (@a0I (I .u8) y0.1.1)))::[])) y0.1.1))) (some (((@a2A (I .u8) (@a2A (I .u8) (@a2A (I .u8) [] a) ((I.conv (k:=.i64) .u8 (I.ofNat .i64 (@a0I (I .u8) y0.1.1)))::[])) y0.1.1),()),())) none) none) none
def a5K (K:Nat) (x:(⟨[.pl (.sl (.int .u8)),.pl (.int .u64)],[]⟩:Tm).D):Option (⟨[.pl (.sl (.int .u8))],[]⟩:Tm).D :=
 let a:(List (I .u8)):=x.1.1
 let b:(I .u64):=x.1.2.1
 optF none (a5C K ((a,((b,(I.of .u64 0,(I.of .u64 0,(I.of .u64 0,())))),())),())) fun y0=>some ((y0.1.1,()),())
def b0V (K:Nat) (x:(⟨[.pl a0P],[]⟩:Tm).D):Option (⟨[.pl (.sl (.int .u8))],[]⟩:Tm).D :=
 let a:a0B:=x.1.1
 optF none (a5K K (([],(a.1,())),())) fun y0=>optF none (a5K K ((y0.1.1,(a.2.1,())),())) fun y1=>optF none (a5C K ((y1.1.1,(a.2.2.1,())),())) fun y2=>some ((y2.1.1,()),())
def a6O (K:Nat) (x:(⟨[.pl a0P],[]⟩:Tm).D):Option (⟨[.pl (.arr 32 (.int .u8))],[]⟩:Tm).D :=
 let a:a0B:=x.1.1
 optF none (b0V K ((a,()),())) fun y0=>optF none (b4B K ((y0.1.1,()),())) fun y1=>some ((y1.1.1,()),())
def a8C (K:Nat) (x:(⟨[.pl (.sl a0P),.pl (.int .i64)],[]⟩:Tm).D):Option (⟨[.pl (.sl (.arr 32 (.int .u8)))],[]⟩:Tm).D :=
 let a:(List a0B):=x.1.1
 let b:(I .i64):=x.1.2.1
 iter none (fun (x0:(((List a0B) × ((I .i64) × ((I .i64) × Unit))) × ((List a0G) × Unit)))=>brn (I.ltb x0.1.2.2.1 x0.1.2.1) (brn (inB x0.1.2.2.1 (@a0I a0B x0.1.1)) (optF (.done none) (a6O K (((@rdL a0B a0O x0.1.1 (I.nat x0.1.2.2.1)),()),())) fun y1=>brn (a1E (@a0I a0G (@a2A a0G x0.2.1 (y1.1.1::[])))) (.again ((x0.1.1,(x0.1.2.1,((I.add x0.1.2.2.1 (I.of .i64 1)),()))),((@a2A a0G x0.2.1 (y1.1.1::[])),()))) (.done none)) (.done none)) (.done (some ((x0.2.1,()),())))) K ((a,(b,(I.of .i64 0,()))),([],()))
def a5B (K:Nat) (x:(⟨[.pl (.int .i64)],[]⟩:Tm).D):Option (⟨[.pl (.int .i64)],[]⟩:Tm).D :=
 let a:(I .i64):=x.1.1
 iter none (fun x0=>brn (I.ltb x0.1.2.1 (I.sub x0.1.1 x0.1.2.1)) (.again ((x0.1.1,((I.mul (I.of .i64 2) x0.1.2.1),())),())) (.done (some ((x0.1.2.1,()),())))) K ((a,(I.of .i64 1,())),())
def a8X (K:Nat) (x:(⟨[.pl (.arr 32 (.int .u8)),.pl (.arr 32 (.int .u8))],[]⟩:Tm).D):Option (⟨[.pl (.arr 32 (.int .u8))],[]⟩:Tm).D :=
 let a:a0G:=x.1.1
 let b:a0G:=x.1.2.1
 brn (a1E (@a0I (I .u8) (@a2A (I .u8) f5S (@a3W (I .u8) (@Arr.list (I .u8) 32 a) 0 32)))) (brn (a1E (@a0I (I .u8) (@a2A (I .u8) (@a2A (I .u8) f5S (@a3W (I .u8) (@Arr.list (I .u8) 32 a) 0 32)) (@a3W (I .u8) (@Arr.list (I .u8) 32 b) 0 32)))) (optF none (a9Y K (((@a2A (I .u8) (@a2A (I .u8) f5S (@a3W (I .u8) (@Arr.list (I .u8) 32 a) 0 32)) (@a3W (I .u8) (@Arr.list (I .u8) 32 b) 0 32)),()),())) fun y0=>some ((y0.1.1,()),())) none) none
def a6K (K:Nat) (r0:(⟨[.pl (.sl (.arr 32 (.int .u8)))],[]⟩:Tm).D→Option (⟨[.pl (.arr 32 (.int .u8))],[]⟩:Tm).D) (x:(⟨[.pl (.sl (.arr 32 (.int .u8)))],[]⟩:Tm).D):Option (⟨[.pl (.arr 32 (.int .u8))],[]⟩:Tm).D :=
 let a:(List a0G):=x.1.1
 brn (@I.eqb .i64 (I.ofNat .i64 (@a0I a0G a)) (I.of .i64 0))
 (optF (none) (a9Y K (([],()),())) fun y0 =>
 some ((y0.1.1,()),()))
 (brn (@I.eqb .i64 (I.ofNat .i64 (@a0I a0G a)) (I.of .i64 1))
  (brn (@inB .i64 (I.of .i64 0) (@a0I a0G a))
  (some (((@rdL a0G a2J a 0),()),()))
  (none))
  (optF (none) (a5B K (((I.ofNat .i64 (@a0I a0G a)),()),())) fun y0 =>
  brn (@inB' .i64 y0.1.1 (@a0I a0G a))
  (optF (none) (r0 (((@a3W a0G a 0 (@I.nat .i64 y0.1.1)),()),())) fun y1 =>
  brn (@inB' .i64 y0.1.1 (@a0I a0G a))
   (optF (none) (r0 (((@a3W a0G a (@I.nat .i64 y0.1.1) ((@a0I a0G a) - (@I.nat .i64 y0.1.1))),()),())) fun y2 =>
   optF (none) (a8X K ((y1.1.1,(y2.1.1,())),())) fun y3 =>
   some ((y3.1.1,()),()))
   (none))
  (none)))
def a3H (K:Nat):Nat→(⟨[.pl (.sl (.arr 32 (.int .u8)))],[]⟩:Tm).D→Option (⟨[.pl (.arr 32 (.int .u8))],[]⟩:Tm).D
 | 0,_=>none
 | k0 + 1,x=>a6K K (a3H K k0) x
def a4Z (K:Nat) (x:(⟨[.pl (.sl (.arr 32 (.int .u8)))],[]⟩:Tm).D):Option (⟨[.pl (.arr 32 (.int .u8))],[]⟩:Tm).D:=a3H K K x
def b0F (K:Nat) (x:(⟨[.pl (.sl a0P),.pl (.int .i64)],[]⟩:Tm).D):Option (⟨[.pl (.arr 32 (.int .u8)),.pl .bool],[]⟩:Tm).D :=
 let a:(List a0B):=x.1.1
 let b:(I .i64):=x.1.2.1
 jn (fun (x0:(((List a0B) × ((I .i64) × Unit)) × (a0G × Unit)))=>optF none (a8C K ((x0.1.1,(x0.1.2.1,())),())) fun y1=>optF none (a4Z K ((y1.1.1,()),())) fun y2=>some ((y2.1.1,(true,())),())) fun j0=>brn (I.ltb b (I.of .i64 0)) (some ((a2J,(false,())),())) (brn (I.ltb (I.ofNat .i64 (@a0I a0B a)) b) (some ((a2J,(false,())),())) (j0 ((a,(b,())),(a2J,()))))
def a5E (K:Nat) (x:(⟨[.ptr 0 [],.pl (.int .u64),.pl a1Q],a0F⟩:Tm).D):Option (⟨[.pl a0P],a0F⟩:Tm).D :=
 let a:(I .u64):=x.1.1
 let b:U:=x.1.2.1
 let h0:a0W:=x.2.1
 let h1:a0M:=x.2.2.1
 let h2:a0U:=x.2.2.2.1
 let h3:(List a0B):=x.2.2.2.2.1
 let h4:(List a0E):=x.2.2.2.2.2.1
 let h5:(List a0G):=x.2.2.2.2.2.2.1
 let h6:(List (I .u64)):=x.2.2.2.2.2.2.2.1
 let h7:(List a0D):=x.2.2.2.2.2.2.2.2.1
 brn (a1E (@a0I a0B (@a2A a0B h3 (((I.conv (k:=.i64) .u64 (I.ofNat .i64 (@a0I a0B h3))),(a,(b,())))::[])))) (optF none (b0F K (((@a2A a0B h3 (((I.conv (k:=.i64) .u64 (I.ofNat .i64 (@a0I a0B h3))),(a,(b,())))::[])),((I.ofNat .i64 (@a0I a0B (@a2A a0B h3 (((I.conv (k:=.i64) .u64 (I.ofNat .i64 (@a0I a0B h3))),(a,(b,())))::[])))),())),())) fun y0=>brn (a1E (@a0I a0G (@a2A a0G h5 (y0.1.1::[])))) (some ((((I.conv (k:=.i64) .u64 (I.ofNat .i64 (@a0I a0B h3))),(a,(b,()))),()),(h0,(h1,(h2,((@a2A a0B h3 (((I.conv (k:=.i64) .u64 (I.ofNat .i64 (@a0I a0B h3))),(a,(b,())))::[])),(h4,((@a2A a0G h5 (y0.1.1::[])),(h6,(h7,())))))))))) none) none
def a7V (K:Nat) (x:(⟨[.ptr 0 [],.pl a1R],a0F⟩:Tm).D):Option (⟨[.pl a1W],a0F⟩:Tm).D :=
 let a:a7Y:=x.1.1
 let h0:a0W:=x.2.1
 let h1:a0M:=x.2.2.1
 let h2:a0U:=x.2.2.2.1
 let h3:(List a0B):=x.2.2.2.2.1
 let h4:(List a0E):=x.2.2.2.2.2.1
 let h5:(List a0G):=x.2.2.2.2.2.2.1
 let h6:(List (I .u64)):=x.2.2.2.2.2.2.2.1
 let h7:(List a0D):=x.2.2.2.2.2.2.2.2.1
 optF none (a6E K ((a,()),(h0,(h1,(h2,(h3,(h4,(h5,(h6,(h7,())))))))))) fun y0=>brn (I.neb y0.1.2.1 (I.of .i64 0)) (some (((I.of .i64 0,(y0.1.2.1,(a2F,(Z_U,(Z_U,(I.of .u64 0,(Z_U,(Z_U,([],()))))))))),()),y0.2)) (optF none (a9V K ((a,(y0.2.1.2.2.1.2.2.2.1,(y0.2.1.2.2.2.2.1.1,(y0.2.1.2.1,())))),())) fun y1=>brn (I.neb y1.1.2.1 (I.of .i64 0)) (some (((I.of .i64 0,(y1.1.2.1,(a2F,(Z_U,(Z_U,(I.of .u64 0,(Z_U,(Z_U,([],()))))))))),()),y0.2)) (optF none (a9A K ((y0.2.1.2.2.2.2.1,(y1.1.1.1,())),())) fun y2=>brn (I.neb y2.1.2.1 (I.of .i64 0)) (some (((I.of .i64 0,(I.of .i64 4,(a2F,(Z_U,(Z_U,(I.of .u64 0,(Z_U,(Z_U,([],()))))))))),()),y0.2)) (optF none (a2O K ((a.1,(I.of .i64 3,(y1.1.1.2.2.2.2.2.2.1,()))),(y0.2.2.1,(y0.2.2.2.2.2.1,())))) fun y3=>optF none (a2O K ((a.1,(I.of .i64 2,(y1.1.1.2.2.2.2.2.2.2.1,()))),(y3.2.1,(y3.2.2.1,())))) fun y4=>optF none (a2O K ((a.1,(I.of .i64 1,(y1.1.1.2.2.2.2.2.2.2.2.1,()))),(y4.2.1,(y4.2.2.1,())))) fun y5=>optF none (a2O K ((a.1,(I.of .i64 4,(y1.1.1.2.2.2.2.2.2.2.2.2.1,()))),(y5.2.1,(y5.2.2.1,())))) fun y6=>optF none (a3X K ((a.1,()),(y6.2.1,(y6.2.2.1,())))) fun y7=>optF none (a8U K ((y0.2.1.2.2.2.1,(y1.1.1.2.2.1,())),())) fun y8=>jn (fun (x9:(Unit × (a0W × (a0M × ((List a0E) × ((List a0B) × (a0U × ((List a0G) × ((List (I .u64)) × ((List a0D) × (a7Y × (((I .i64) × ((I .i64) × (a9F × (U × (U × ((I .u64) × (U × (U × (Unit × Unit))))))))) × ((List a0B) × (((I .i64) × ((I .i64) × (a9F × (U × (U × ((I .u64) × (U × (U × (Unit × Unit))))))))) × ((List a0B) × Unit)))))))))))))))=>brn (I.neb x9.2.2.2.2.2.2.2.2.2.1.2.2.1 (I.of .u64 18446744073709551615)) (optF none (a5Q K ((x9.2.2.2.2.2.2.2.2.2.1.1,(x9.2.2.2.2.2.2.2.2.2.1.2.2.1,(x9.2.2.2.2.2.2.2.2.2.1.2.2.2.1,()))),(x9.2.2.1,(x9.2.2.2.1,())))) fun y10=>some (((x9.2.2.2.2.2.2.2.2.2.2.2.2.1.1,(x9.2.2.2.2.2.2.2.2.2.2.2.2.1.2.1,(x9.2.2.2.2.2.2.2.2.2.2.2.2.1.2.2.1,(x9.2.2.2.2.2.2.2.2.2.2.2.2.1.2.2.2.1,(x9.2.2.2.2.2.2.2.2.2.1.2.2.2.1,(x9.2.2.2.2.2.2.2.2.2.2.2.2.1.2.2.2.2.2.1,(x9.2.2.2.2.2.2.2.2.2.2.2.2.1.2.2.2.2.2.2.1,(x9.2.2.2.2.2.2.2.2.2.2.2.2.1.2.2.2.2.2.2.2.1,(x9.2.2.2.2.2.2.2.2.2.2.2.2.2.1,x9.2.2.2.2.2.2.2.2.2.2.2.2.1.2.2.2.2.2.2.2.2.2))))))))),()),(x9.2.1,(y10.2.1,(x9.2.2.2.2.2.1,(x9.2.2.2.2.1,(y10.2.2.1,(x9.2.2.2.2.2.2.1,(x9.2.2.2.2.2.2.2.1,(x9.2.2.2.2.2.2.2.2.1,())))))))))) (optF none (a2E K ((x9.2.2.2.2.2.2.2.2.2.1.2.2.2.1,()),())) fun y10=>brn (a4S y10.1.1) (optF none (a5R K ((x9.2.2.2.2.2.2.2.2.2.1.1,(x9.2.2.2.2.2.2.2.2.2.1.2.2.2.1,())),(x9.2.2.1,(x9.2.2.2.1,())))) fun y11=>optF none (a5E K ((x9.2.2.2.2.2.2.2.2.2.1.1,(x9.2.2.2.2.2.2.2.2.2.1.2.2.2.1,())),(x9.2.1,(y11.2.1,(x9.2.2.2.2.2.1,(x9.2.2.2.2.1,(y11.2.2.1,(x9.2.2.2.2.2.2.1,(x9.2.2.2.2.2.2.2.1,(x9.2.2.2.2.2.2.2.2.1,())))))))))) fun y12=>brn (a1E (@a0I a0B (@a2A a0B x9.2.2.2.2.2.2.2.2.2.2.2.2.2.1 (y12.1.1::[])))) (some (((x9.2.2.2.2.2.2.2.2.2.2.2.2.1.1,(x9.2.2.2.2.2.2.2.2.2.2.2.2.1.2.1,(x9.2.2.2.2.2.2.2.2.2.2.2.2.1.2.2.1,(x9.2.2.2.2.2.2.2.2.2.2.2.2.1.2.2.2.1,(x9.2.2.2.2.2.2.2.2.2.1.2.2.2.1,(x9.2.2.2.2.2.2.2.2.2.2.2.2.1.2.2.2.2.2.1,(x9.2.2.2.2.2.2.2.2.2.2.2.2.1.2.2.2.2.2.2.1,(x9.2.2.2.2.2.2.2.2.2.2.2.2.1.2.2.2.2.2.2.2.1,((@a2A a0B x9.2.2.2.2.2.2.2.2.2.2.2.2.2.1 (y12.1.1::[])),x9.2.2.2.2.2.2.2.2.2.2.2.2.1.2.2.2.2.2.2.2.2.2))))))))),()),y12.2)) none) (some (((x9.2.2.2.2.2.2.2.2.2.2.2.2.1.1,(x9.2.2.2.2.2.2.2.2.2.2.2.2.1.2.1,(x9.2.2.2.2.2.2.2.2.2.2.2.2.1.2.2.1,(x9.2.2.2.2.2.2.2.2.2.2.2.2.1.2.2.2.1,(x9.2.2.2.2.2.2.2.2.2.1.2.2.2.1,(x9.2.2.2.2.2.2.2.2.2.2.2.2.1.2.2.2.2.2.1,(x9.2.2.2.2.2.2.2.2.2.2.2.2.1.2.2.2.2.2.2.1,(x9.2.2.2.2.2.2.2.2.2.2.2.2.1.2.2.2.2.2.2.2.1,(x9.2.2.2.2.2.2.2.2.2.2.2.2.2.1,x9.2.2.2.2.2.2.2.2.2.2.2.2.1.2.2.2.2.2.2.2.2.2))))))))),()),(x9.2.1,(x9.2.2.1,(x9.2.2.2.2.2.1,(x9.2.2.2.2.1,(x9.2.2.2.1,(x9.2.2.2.2.2.2.1,(x9.2.2.2.2.2.2.2.1,(x9.2.2.2.2.2.2.2.2.1,())))))))))))) fun j9=>brn y1.1.1.2.2.2.2.1 (some (((I.of .i64 0,(I.of .i64 0,(y1.1.1,(y0.1.1,(Z_U,(I.of .u64 0,(Z_U,(Z_U,([],()))))))))),()),((y0.2.1.1,(y0.2.1.2.1,((y0.2.1.2.2.1.1,(y0.2.1.2.2.1.2.1,((I.add y0.2.1.2.2.1.2.2.1 y1.1.1.2.2.2.1),y0.2.1.2.2.1.2.2.2))),(y8.1.1,(y2.1.1,y0.2.1.2.2.2.2.2))))),(y7.2.1,(y0.2.2.2.1,(y0.2.2.2.2.1,(y7.2.2.1,(y0.2.2.2.2.2.2.1,(y0.2.2.2.2.2.2.2.1,(y0.2.2.2.2.2.2.2.2.1,())))))))))) (brn (I.eqb a.2.2.1 a.1) (some (((I.of .i64 0,(I.of .i64 0,(y1.1.1,(y0.1.1,(Z_U,(I.of .u64 0,(Z_U,(Z_U,([],()))))))))),()),((y0.2.1.1,(y0.2.1.2.1,((y0.2.1.2.2.1.1,(y0.2.1.2.2.1.2.1,((I.add y0.2.1.2.2.1.2.2.1 y1.1.1.2.2.2.1),y0.2.1.2.2.1.2.2.2))),(y8.1.1,(y2.1.1,y0.2.1.2.2.2.2.2))))),(y7.2.1,(y0.2.2.2.1,(y0.2.2.2.2.1,(y7.2.2.1,(y0.2.2.2.2.2.2.1,(y0.2.2.2.2.2.2.2.1,(y0.2.2.2.2.2.2.2.2.1,())))))))))) (j9 ((),((y0.2.1.1,(y0.2.1.2.1,((y0.2.1.2.2.1.1,(y0.2.1.2.2.1.2.1,((I.add y0.2.1.2.2.1.2.2.1 y1.1.1.2.2.2.1),y0.2.1.2.2.1.2.2.2))),(y8.1.1,(y2.1.1,y0.2.1.2.2.2.2.2))))),(y7.2.1,(y7.2.2.1,(y0.2.2.2.2.1,(y0.2.2.2.1,(y0.2.2.2.2.2.2.1,(y0.2.2.2.2.2.2.2.1,(y0.2.2.2.2.2.2.2.2.1,(a,((I.of .i64 0,(I.of .i64 0,(a2F,(Z_U,(Z_U,(I.of .u64 0,(Z_U,(Z_U,((),()))))))))),([],((I.of .i64 0,(I.of .i64 0,(y1.1.1,(y0.1.1,(Z_U,(I.of .u64 0,(Z_U,(Z_U,((),()))))))))),([],())))))))))))))))))))
def a6U (K:Nat) (x:(⟨[.bp a0K,.pl (.int .i64)],[]⟩:Tm).D):Option (⟨[.pl a1Q],[]⟩:Tm).D :=
 let a:a3D:=x.1.1
 let b:(I .i64):=x.1.2.1
 brn (I.ltb b (I.of .i64 1)) (some ((Z_U,()),())) (brn (I.ltb (I.of .i64 4) b) (some ((Z_U,()),())) (brn (inB (I.sub b (I.of .i64 1)) 4) (some (((@Arr.sel U Z_U 4 a.2.1 (I.nat (I.sub b (I.of .i64 1)))),()),())) none))
def a4C (K:Nat) (x:(⟨[.ptr 0 [],.pl (.int .i64),.pl a1Q],a0L⟩:Tm).D):Option (⟨[.pl (.int .i64)],a0L⟩:Tm).D :=
 let a:(I .i64):=x.1.1
 let b:U:=x.1.2.1
 let h0:a0M:=x.2.1
 let h1:(List a0E):=x.2.2.1
 jn (fun (x0:(((I .i64) × Unit) × (a0M × ((List a0E) × (U × Unit)))))=>brn (inB (I.sub x0.1.1 (I.of .i64 1)) 4) (optF none (a4Y K (((@Arr.sel U Z_U 4 x0.2.1.2.1 (I.nat (I.sub x0.1.1 (I.of .i64 1)))),(x0.2.2.2.1,())),())) fun y1=>brn (I.neb y1.1.2.1 (I.of .i64 0)) (some ((I.of .i64 10,()),(x0.2.1,(x0.2.2.1,())))) (brn (inB (I.sub x0.1.1 (I.of .i64 1)) 4) (some ((I.of .i64 0,()),(((),((@Arr.upd U 4 x0.2.1.2.1 (I.nat (I.sub x0.1.1 (I.of .i64 1))) y1.1.1),x0.2.1.2.2)),(x0.2.2.1,())))) none)) none) fun j0=>brn (I.ltb a (I.of .i64 1)) (some ((I.of .i64 2,()),(h0,(h1,())))) (brn (I.ltb (I.of .i64 4) a) (some ((I.of .i64 2,()),(h0,(h1,())))) (j0 ((a,()),(h0,(h1,(b,()))))))
def a5V (K:Nat) (x:(⟨[.ptr 0 [],.pl a0P],a0F⟩:Tm).D):Option (⟨[.pl a1W],a0F⟩:Tm).D :=
 let a:a0B:=x.1.1
 let h0:a0W:=x.2.1
 let h1:a0M:=x.2.2.1
 let h2:a0U:=x.2.2.2.1
 let h3:(List a0B):=x.2.2.2.2.1
 let h4:(List a0E):=x.2.2.2.2.2.1
 let h5:(List a0G):=x.2.2.2.2.2.2.1
 let h6:(List (I .u64)):=x.2.2.2.2.2.2.2.1
 let h7:(List a0D):=x.2.2.2.2.2.2.2.2.1
 optF none (a6U K (((h4,h1.2),(I.of .i64 3,())),())) fun y0=>optF none (b0N K ((h0.2.2.2.2.1,(h0.2.1,(y0.1.1,(a,(h0.2.2.1.2.1,()))))),())) fun y1=>brn (I.neb y1.1.2.2.1 (I.of .i64 0)) (some (((I.of .i64 0,(y1.1.2.2.1,(a2F,(Z_U,(Z_U,(I.of .u64 0,(Z_U,(Z_U,([],()))))))))),()),(h0,(h1,(h2,(h3,(h4,(h5,(h6,(h7,())))))))))) (optF none (b1F K ((y1.1.2.1.2.2.1,()),())) fun y2=>iter none (fun (x3:(((I .i64) × Unit) × (a0W × (a0M × ((List a0E) × ((List a0B) × (a0U × ((List a0G) × ((List (I .u64)) × ((List a0D) × (((I .i64) × ((I .i64) × (a9F × (U × (U × ((I .u64) × (U × (U × (Unit × Unit))))))))) × ((List a0B) × (a6J × (((I .i64) × ((I .i64) × (a9F × (U × (U × ((I .u64) × (U × (U × (Unit × Unit))))))))) × ((List a0B) × Unit)))))))))))))))=>brn (I.ltb x3.1.1 (I.ofNat .i64 (@a0I a0D x3.2.2.2.2.2.2.2.2.2.2.2.1.2.2.1))) (brn (inB x3.1.1 (@a0I a0D x3.2.2.2.2.2.2.2.2.2.2.2.1.2.2.1)) (optF (.done none) (a4C K ((I.of .i64 3,((@rdL a0D a1D x3.2.2.2.2.2.2.2.2.2.2.2.1.2.2.1 (I.nat x3.1.1)).2.1,())),(x3.2.2.1,(x3.2.2.2.1,())))) fun y4=>brn (inB x3.1.1 (@a0I a0D x3.2.2.2.2.2.2.2.2.2.2.2.1.2.2.1)) (brn (inB x3.1.1 (@a0I a0D x3.2.2.2.2.2.2.2.2.2.2.2.1.2.2.1)) (optF (.done none) (a5E K (((@rdL a0D a1D x3.2.2.2.2.2.2.2.2.2.2.2.1.2.2.1 (I.nat x3.1.1)).1,((@rdL a0D a1D x3.2.2.2.2.2.2.2.2.2.2.2.1.2.2.1 (I.nat x3.1.1)).2.1,())),(x3.2.1,(y4.2.1,(x3.2.2.2.2.2.1,(x3.2.2.2.2.1,(y4.2.2.1,(x3.2.2.2.2.2.2.1,(x3.2.2.2.2.2.2.2.1,(x3.2.2.2.2.2.2.2.2.1,())))))))))) fun y5=>brn (a1E (@a0I a0B (@a2A a0B x3.2.2.2.2.2.2.2.2.2.2.2.2.2.1 (y5.1.1::[])))) (.again (((I.add x3.1.1 (I.of .i64 1)),()),(y5.2.1,(y5.2.2.1,(y5.2.2.2.2.2.1,(y5.2.2.2.2.1,(y5.2.2.2.1,(y5.2.2.2.2.2.2.1,(y5.2.2.2.2.2.2.2.1,(y5.2.2.2.2.2.2.2.2.1,(x3.2.2.2.2.2.2.2.2.2.1,(x3.2.2.2.2.2.2.2.2.2.2.1,(x3.2.2.2.2.2.2.2.2.2.2.2.1,(x3.2.2.2.2.2.2.2.2.2.2.2.2.1,((@a2A a0B x3.2.2.2.2.2.2.2.2.2.2.2.2.2.1 (y5.1.1::[])),()))))))))))))))) (.done none)) (.done none)) (.done none)) (.done none)) (.done (some (((x3.2.2.2.2.2.2.2.2.2.2.2.2.1.1,(x3.2.2.2.2.2.2.2.2.2.2.2.2.1.2.1,(x3.2.2.2.2.2.2.2.2.2.2.2.2.1.2.2.1,(x3.2.2.2.2.2.2.2.2.2.2.2.2.1.2.2.2.1,(x3.2.2.2.2.2.2.2.2.2.2.2.2.1.2.2.2.2.1,(x3.2.2.2.2.2.2.2.2.2.2.2.2.1.2.2.2.2.2.1,(x3.2.2.2.2.2.2.2.2.2.2.2.2.1.2.2.2.2.2.2.1,(x3.2.2.2.2.2.2.2.2.2.2.2.2.1.2.2.2.2.2.2.2.1,(x3.2.2.2.2.2.2.2.2.2.2.2.2.2.1,x3.2.2.2.2.2.2.2.2.2.2.2.2.1.2.2.2.2.2.2.2.2.2))))))))),()),(x3.2.1,(x3.2.2.1,(x3.2.2.2.2.2.1,(x3.2.2.2.2.1,(x3.2.2.2.1,(x3.2.2.2.2.2.2.1,(x3.2.2.2.2.2.2.2.1,(x3.2.2.2.2.2.2.2.2.1,())))))))))))) K ((I.of .i64 0,()),((h0.1,(h0.2.1,(h0.2.2.1,(h0.2.2.2.1,(y1.1.1,h0.2.2.2.2.2))))),(h1,(h4,(h3,(h2,(h5,(h6,(h7,((I.of .i64 0,(I.of .i64 0,(a2F,(Z_U,(Z_U,(I.of .u64 0,(Z_U,(Z_U,((),()))))))))),([],(y1.1.2.1,((I.of .i64 0,(I.of .i64 0,(a2F,(Z_U,(Z_U,(y1.1.2.1.1,(y1.1.2.1.2.1,(y2.1.1,((),()))))))))),([],())))))))))))))))
def b2C (K:Nat) (x:(⟨[.pl (.int .u64),.pl (.int .u64),.pl (.int .u64)],[]⟩:Tm).D):Option (⟨[.pl (.int .u64)],[]⟩:Tm).D :=
 let a:(I .u64):=x.1.1
 let b:(I .u64):=x.1.2.1
 let c:(I .u64):=x.1.2.2.1
 optF none (b0A K ((a,(b,(c,()))),())) fun y0=>some ((y0.1.1,()),())
def b2Y (K:Nat) (x:(⟨[.pl a1P,.pl (.int .u64),.pl (.int .u64),.pl a0Q],[]⟩:Tm).D):Option (⟨[.pl a1P,.pl (.int .i64)],[]⟩:Tm).D :=
 let a:a7N:=x.1.1
 let b:(I .u64):=x.1.2.1
 let c:(I .u64):=x.1.2.2.1
 let d:a2X:=x.1.2.2.2.1
 jn (fun (x0:(((I .u64) × ((I .u64) × Unit)) × (a7N × (a2X × (a7N × Unit)))))=>optF none (b1H K ((x0.1.2.1,(x0.2.2.1,())),())) fun y1=>brn (I.neb y1.1.2.1 (I.of .i64 0)) (some ((a4A,(y1.1.2.1,())),())) (brn (I.eqb (I.add x0.2.1.1 (I.of .u64 1)) (I.of .u64 0)) (some ((a4A,(I.of .i64 4,())),())) (brn (I.ltb (I.add x0.2.1.2.1 x0.1.1) x0.2.1.2.1) (some ((a4A,(I.of .i64 4,())),())) (some ((((I.add x0.2.1.1 (I.of .u64 1)),((I.add x0.2.1.2.1 x0.1.1),(I.of .u64 0,(y1.1.1,())))),(I.of .i64 0,())),()))))) fun j0=>brn (I.ltb b (I.of .u64 1)) (some ((a4A,(I.of .i64 2,())),())) (brn (I.ltb (I.of .u64 1048576) b) (some ((a4A,(I.of .i64 2,())),())) (j0 ((b,(c,())),(a,(d,(a4A,()))))))
def c3N (K:Nat) (x:(⟨[.pl a0Q],[]⟩:Tm).D):Option (⟨[.pl (.arr 12 a1Q)],[]⟩:Tm).D :=
 let a:a2X:=x.1.1
 some ((((a.1,(I.of .u64 0,(I.of .u64 0,(I.of .u64 0,())))),((a.2.1,(I.of .u64 0,(I.of .u64 0,(I.of .u64 0,())))),((a.2.2.1,(I.of .u64 0,(I.of .u64 0,(I.of .u64 0,())))),(a.2.2.2.1,((a.2.2.2.2.1,(I.of .u64 0,(I.of .u64 0,(I.of .u64 0,())))),(a.2.2.2.2.2.1,((a.2.2.2.2.2.2.1,(I.of .u64 0,(I.of .u64 0,(I.of .u64 0,())))),(a.2.2.2.2.2.2.2.1,((a.2.2.2.2.2.2.2.2.1,(I.of .u64 0,(I.of .u64 0,(I.of .u64 0,())))),((a.2.2.2.2.2.2.2.2.2.1,(I.of .u64 0,(I.of .u64 0,(I.of .u64 0,())))),((a.2.2.2.2.2.2.2.2.2.2.1,(I.of .u64 0,(I.of .u64 0,(I.of .u64 0,())))),((a.2.2.2.2.2.2.2.2.2.2.2.1,(I.of .u64 0,(I.of .u64 0,(I.of .u64 0,())))),())))))))))))),()),())
def a7R (K:Nat) (x:(⟨[.pl a0Q,.pl (.int .i64),.pl a1Q],[]⟩:Tm).D):Option (⟨[.pl a0Q,.pl (.int .i64)],[]⟩:Tm).D :=
 let a:a2X:=x.1.1
 let b:(I .i64):=x.1.2.1
 let c:U:=x.1.2.2.1
 jn (fun (x0:(((I .i64) × Unit) × (a2X × (U × (a2X × Unit)))))=>optF none (a3O K ((x0.2.1,()),())) fun y1=>brn (a4S y1.1.1) (some ((a5D,(I.of .i64 15,())),())) (optF none (c3N K ((x0.2.1,()),())) fun y2=>brn (inB (I.sub x0.1.1 (I.of .i64 1)) 12) (iter none (fun x3=>brn (I.ltb x3.1.1 (I.of .i64 12)) (brn (inB x3.1.1 12) (optF (.done none) (a7L K (((@Arr.sel U Z_U 12 x3.2.2.1 (I.nat x3.1.1)),()),())) fun y4=>brn (a4S y4.1.2.1) (.done (some ((a5D,(I.of .i64 15,())),()))) (.again (((I.add x3.1.1 (I.of .i64 1)),()),(x3.2.1,(x3.2.2.1,()))))) (.done none)) (.done (optF none (a3O K (((x3.2.2.1.1.1,(x3.2.2.1.2.1.1,(x3.2.2.1.2.2.1.1,(x3.2.2.1.2.2.2.1,(x3.2.2.1.2.2.2.2.1.1,(x3.2.2.1.2.2.2.2.2.1,(x3.2.2.1.2.2.2.2.2.2.1.1,(x3.2.2.1.2.2.2.2.2.2.2.1,(x3.2.2.1.2.2.2.2.2.2.2.2.1.1,(x3.2.2.1.2.2.2.2.2.2.2.2.2.1.1,(x3.2.2.1.2.2.2.2.2.2.2.2.2.2.1.1,(x3.2.2.1.2.2.2.2.2.2.2.2.2.2.2.1.1,())))))))))))),()),())) fun y4=>brn (a4S y4.1.1) (some ((a5D,(I.of .i64 15,())),())) (some (((x3.2.2.1.1.1,(x3.2.2.1.2.1.1,(x3.2.2.1.2.2.1.1,(x3.2.2.1.2.2.2.1,(x3.2.2.1.2.2.2.2.1.1,(x3.2.2.1.2.2.2.2.2.1,(x3.2.2.1.2.2.2.2.2.2.1.1,(x3.2.2.1.2.2.2.2.2.2.2.1,(x3.2.2.1.2.2.2.2.2.2.2.2.1.1,(x3.2.2.1.2.2.2.2.2.2.2.2.2.1.1,(x3.2.2.1.2.2.2.2.2.2.2.2.2.2.1.1,(x3.2.2.1.2.2.2.2.2.2.2.2.2.2.2.1.1,())))))))))))),(I.of .i64 0,())),()))))) K ((I.of .i64 0,()),(x0.2.2.2.1,((@Arr.upd U 12 y2.1.1 (I.nat (I.sub x0.1.1 (I.of .i64 1))) x0.2.2.1),())))) none)) fun j0=>brn (I.ltb b (I.of .i64 1)) (some ((a5D,(I.of .i64 17,())),())) (brn (I.ltb (I.of .i64 12) b) (some ((a5D,(I.of .i64 17,())),())) (j0 ((b,()),(a,(c,(a5D,()))))))
def a5Y (K:Nat) (x:(⟨[.ptr 0 [],.pl a1Q],a2R⟩:Tm).D):Option (⟨[.pl (.int .i64)],a2R⟩:Tm).D :=
 let a:U:=x.1.1
 let h0:a0U:=x.2.1
 let h1:(List a0G):=x.2.2.1
 let h2:(List (I .u64)):=x.2.2.2.1
 let h3:(List a0D):=x.2.2.2.2.1
 optF none (a2E K ((a,()),())) fun y0=>brn y0.1.1 (some ((I.of .i64 2,()),(h0,(h1,(h2,(h3,())))))) (optF none (a7G K ((h0.1,(a,())),())) fun y1=>brn (I.neb y1.1.2.1 (I.of .i64 0)) (some ((y1.1.2.1,()),(h0,(h1,(h2,(h3,())))))) (some ((I.of .i64 0,()),((y1.1.1,h0.2),(h1,(h2,(h3,())))))))
def a8T (K:Nat) (x:(⟨[.pl (.sl (.int .i64)),.pl (.sl (.int .i64))],[]⟩:Tm).D):Option (⟨[.whole 0],[.row (.int .i64)]⟩:Tm).D :=
 let a:(List (I .i64)):=x.1.1
 let b:(List (I .i64)):=x.1.2.1
 iter none (fun (x0:(((List (I .i64)) × ((List (I .i64)) × ((I .i64) × ((I .i64) × Unit)))) × ((List (I .i64)) × Unit)))=>jn (fun (x1:(((List (I .i64)) × ((List (I .i64)) × ((I .i64) × ((I .i64) × Unit)))) × ((List (I .i64)) × Unit)))=>jn (fun (x2:(((List (I .i64)) × ((List (I .i64)) × ((I .i64) × ((I .i64) × Unit)))) × ((List (I .i64)) × Unit)))=>brn (I.ltb x2.1.2.2.2.1 (I.ofNat .i64 (@a0I (I .i64) x2.1.2.1))) (brn (inB x2.1.2.2.2.1 (@a0I (I .i64) x2.1.2.1)) (brn (a1E (@a0I (I .i64) (@a2A (I .i64) x2.2.1 ((I.and (I.add x2.1.2.2.1 (@rdL (I .i64) (I.of .i64 0) x2.1.2.1 (I.nat x2.1.2.2.2.1))) (I.of .i64 65535))::[])))) (.again ((x2.1.1,(x2.1.2.1,((I.shr (I.add x2.1.2.2.1 (@rdL (I .i64) (I.of .i64 0) x2.1.2.1 (I.nat x2.1.2.2.2.1))) (I.of .u64 16)),((I.add x2.1.2.2.2.1 (I.of .i64 1)),())))),((@a2A (I .i64) x2.2.1 ((I.and (I.add x2.1.2.2.1 (@rdL (I .i64) (I.of .i64 0) x2.1.2.1 (I.nat x2.1.2.2.2.1))) (I.of .i64 65535))::[])),()))) (.done none)) (.done none)) (brn (a1E (@a0I (I .i64) (@a2A (I .i64) x2.2.1 ((I.and x2.1.2.2.1 (I.of .i64 65535))::[])))) (.again ((x2.1.1,(x2.1.2.1,((I.shr x2.1.2.2.1 (I.of .u64 16)),((I.add x2.1.2.2.2.1 (I.of .i64 1)),())))),((@a2A (I .i64) x2.2.1 ((I.and x2.1.2.2.1 (I.of .i64 65535))::[])),()))) (.done none))) fun j2=>brn (I.ltb x1.1.2.2.2.1 (I.ofNat .i64 (@a0I (I .i64) x1.1.1))) (brn (inB x1.1.2.2.2.1 (@a0I (I .i64) x1.1.1)) (j2 ((x1.1.1,(x1.1.2.1,((I.add x1.1.2.2.1 (@rdL (I .i64) (I.of .i64 0) x1.1.1 (I.nat x1.1.2.2.2.1))),(x1.1.2.2.2.1,())))),(x1.2.1,()))) (.done none)) (j2 ((x1.1.1,(x1.1.2.1,(x1.1.2.2.1,(x1.1.2.2.2.1,())))),(x1.2.1,())))) fun j1=>brn (I.ltb x0.1.2.2.2.1 (I.ofNat .i64 (@a0I (I .i64) x0.1.1))) (j1 ((x0.1.1,(x0.1.2.1,(x0.1.2.2.1,(x0.1.2.2.2.1,())))),(x0.2.1,()))) (brn (I.ltb x0.1.2.2.2.1 (I.ofNat .i64 (@a0I (I .i64) x0.1.2.1))) (j1 ((x0.1.1,(x0.1.2.1,(x0.1.2.2.1,(x0.1.2.2.2.1,())))),(x0.2.1,()))) (brn (I.ltb (I.of .i64 0) x0.1.2.2.1) (j1 ((x0.1.1,(x0.1.2.1,(x0.1.2.2.1,(x0.1.2.2.2.1,())))),(x0.2.1,()))) (.done (some ((),(x0.2.1,()))))))) K ((a,(b,(I.of .i64 0,(I.of .i64 0,())))),([],()))
def a6H (K:Nat) (x:(⟨[.bp a0K],[]⟩:Tm).D):Option (⟨[.pl (.sl (.int .i64))],[]⟩:Tm).D :=
 let a:a3D:=x.1.1
 iter none (fun (x0:((a3D × ((I .i64) × Unit)) × ((List (I .i64)) × Unit)))=>brn (I.ltb x0.1.2.1 (I.ofNat .i64 (@a0I a0E x0.1.1.1))) (brn (inB x0.1.2.1 (@a0I a0E x0.1.1.1)) (optF (.done none) (a0C K (((@rdL a0E a1G x0.1.1.1 (I.nat x0.1.2.1)).2.1,()),())) fun y1=>optF (.done none) (a8T K ((x0.2.1,(y1.1.1,())),())) fun y2=>.again ((x0.1.1,((I.add x0.1.2.1 (I.of .i64 1)),())),(y2.2.1,()))) (.done none)) (.done (iter none (fun x1=>brn (I.ltb x1.1.2.1 (I.of .i64 4)) (brn (inB x1.1.2.1 4) (optF (.done none) (a0C K (((@Arr.sel U Z_U 4 x1.1.1.2.1 (I.nat x1.1.2.1)),()),())) fun y2=>optF (.done none) (a8T K ((x1.2.1,(y2.1.1,())),())) fun y3=>.again ((x1.1.1,((I.add x1.1.2.1 (I.of .i64 1)),())),(y3.2.1,()))) (.done none)) (.done (some ((x1.2.1,()),())))) K ((x0.1.1,(I.of .i64 0,())),(x0.2.1,()))))) K ((a,(I.of .i64 0,())),([],()))
def a7I (K:Nat) (x:(⟨[.ptr 0 [],.pl (.int .u64),.pl a1Q],a0L⟩:Tm).D):Option (⟨[.pl (.int .i64)],a0L⟩:Tm).D :=
 let a:(I .u64):=x.1.1
 let b:U:=x.1.2.1
 let h0:a0M:=x.2.1
 let h1:(List a0E):=x.2.2.1
 brn (I.eqb a (I.of .u64 0)) (some ((I.of .i64 2,()),(h0,(h1,())))) (optF none (a6H K (((h1,h0.2),()),())) fun y0=>optF none (a0C K ((b,()),())) fun y1=>optF none (a1H K ((y0.1.1,(y1.1.1,())),())) fun y2=>optF none (a2D K ((y2.1.1,()),())) fun y3=>brn (a4S y3.1.1) (some ((I.of .i64 4,()),(h0,(h1,())))) (optF none (a4U K ((a,(b,())),(h0,(h1,())))) fun y4=>some ((I.of .i64 0,()),(y4.2.1,(y4.2.2.1,())))))
def a4M (K:Nat) (x:(⟨[.bp a0S,.pl (.int .u64)],[]⟩:Tm).D):Option (⟨[.pl .bool],[]⟩:Tm).D :=
 let a:a7A:=x.1.1
 let b:(I .u64):=x.1.2.1
 iter none (fun x0=>brn (I.ltb x0.1.2.2.1 (I.ofNat .i64 (@a0I (I .u64) x0.1.1.2.2.1))) (brn (inB x0.1.2.2.1 (@a0I (I .u64) x0.1.1.2.2.1)) (brn (I.eqb (@rdL (I .u64) (I.of .u64 0) x0.1.1.2.2.1 (I.nat x0.1.2.2.1)) x0.1.2.1) (.done (some ((true,()),()))) (.again ((x0.1.1,(x0.1.2.1,((I.add x0.1.2.2.1 (I.of .i64 1)),()))),()))) (.done none)) (.done (some ((false,()),())))) K ((a,(b,(I.of .i64 0,()))),())
def a9G (K:Nat) (r0:(⟨[.pl (.int .i64),.pl (.int .i64),.pl (.arr 32 (.int .u8)),.pl (.sl (.arr 32 (.int .u8)))],[]⟩:Tm).D→Option (⟨[.pl (.arr 32 (.int .u8)),.pl .bool],[]⟩:Tm).D) (x:(⟨[.pl (.int .i64),.pl (.int .i64),.pl (.arr 32 (.int .u8)),.pl (.sl (.arr 32 (.int .u8)))],[]⟩:Tm).D):Option (⟨[.pl (.arr 32 (.int .u8)),.pl .bool],[]⟩:Tm).D :=
 let a:(I .i64):=x.1.1
 let b:(I .i64):=x.1.2.1
 let c:a0G:=x.1.2.2.1
 let d:(List a0G):=x.1.2.2.2.1
 brn (@I.eqb .i64 a (I.of .i64 1))
 (some ((c,((@I.eqb .i64 (I.ofNat .i64 (@a0I a0G d)) (I.of .i64 0)),())),()))
 (brn (@I.eqb .i64 (I.ofNat .i64 (@a0I a0G d)) (I.of .i64 0))
  (some ((c,(false,())),()))
  (brn (@inB .i64 (@I.sub .i64 (I.ofNat .i64 (@a0I a0G d)) (I.of .i64 1)) (@a0I a0G d))
  (optF (none) (a5B K ((a,()),())) fun y0 =>
  brn (@I.ltb .i64 b y0.1.1)
   (brn (@inB' .i64 (@I.sub .i64 (I.ofNat .i64 (@a0I a0G d)) (I.of .i64 1)) (@a0I a0G d))
   (optF (none) (r0 ((y0.1.1,(b,(c,((@a3W a0G d 0 (@I.nat .i64 (@I.sub .i64 (I.ofNat .i64 (@a0I a0G d)) (I.of .i64 1)))),())))),())) fun y1 =>
   optF (none) (a8X K ((y1.1.1,((@rdL a0G a2J d (@I.nat .i64 (@I.sub .i64 (I.ofNat .i64 (@a0I a0G d)) (I.of .i64 1)))),())),())) fun y2 =>
   some ((y2.1.1,(y1.1.2.1,())),()))
   (none))
   (brn (@inB' .i64 (@I.sub .i64 (I.ofNat .i64 (@a0I a0G d)) (I.of .i64 1)) (@a0I a0G d))
   (optF (none) (r0 (((@I.sub .i64 a y0.1.1),((@I.sub .i64 b y0.1.1),(c,((@a3W a0G d 0 (@I.nat .i64 (@I.sub .i64 (I.ofNat .i64 (@a0I a0G d)) (I.of .i64 1)))),())))),())) fun y1 =>
   optF (none) (a8X K (((@rdL a0G a2J d (@I.nat .i64 (@I.sub .i64 (I.ofNat .i64 (@a0I a0G d)) (I.of .i64 1)))),(y1.1.1,())),())) fun y2 =>
   some ((y2.1.1,(y1.1.2.1,())),()))
   (none)))
  (none)))
def a4W (K:Nat):Nat→(⟨[.pl (.int .i64),.pl (.int .i64),.pl (.arr 32 (.int .u8)),.pl (.sl (.arr 32 (.int .u8)))],[]⟩:Tm).D→Option (⟨[.pl (.arr 32 (.int .u8)),.pl .bool],[]⟩:Tm).D
 | 0,_=>none
 | k0 + 1,x=>a9G K (a4W K k0) x
def b6M (K:Nat) (x:(⟨[.pl (.int .i64),.pl (.int .i64),.pl (.arr 32 (.int .u8)),.pl (.sl (.arr 32 (.int .u8)))],[]⟩:Tm).D):Option (⟨[.pl (.arr 32 (.int .u8)),.pl .bool],[]⟩:Tm).D:=a4W K K x
def a7H (K:Nat) (x:(⟨[.pl (.arr 32 (.int .u8)),.pl (.int .i64),.pl (.int .i64),.pl (.arr 32 (.int .u8)),.pl (.sl (.arr 32 (.int .u8)))],[]⟩:Tm).D):Option (⟨[.pl .bool],[]⟩:Tm).D :=
 let a:a0G:=x.1.1
 let b:(I .i64):=x.1.2.1
 let c:(I .i64):=x.1.2.2.1
 let d:a0G:=x.1.2.2.2.1
 let e:(List a0G):=x.1.2.2.2.2.1
 jn (fun (x0:(((I .i64) × ((I .i64) × ((List a0G) × Unit))) × (a0G × (a0G × Unit))))=>optF none (b6M K ((x0.1.1,(x0.1.2.1,(x0.2.2.1,(x0.1.2.2.1,())))),())) fun y1=>brn y1.1.2.1 (some (((Ty.eqb (.arr 32 (.int .u8)) y1.1.1 x0.2.1),()),())) (some ((false,()),()))) fun j0=>brn (I.ltb c (I.of .i64 0)) (some ((false,()),())) (brn (I.leb b c) (some ((false,()),())) (brn (I.ltb (I.of .i64 64) (I.ofNat .i64 (@a0I a0G e))) (some ((false,()),())) (j0 ((b,(c,(e,()))),(a,(d,()))))))
def a5F (K:Nat) (x:(⟨[.bp a0S,.pl (.int .u64)],[]⟩:Tm).D):Option (⟨[.pl a1Q],[]⟩:Tm).D :=
 let a:a7A:=x.1.1
 let b:(I .u64):=x.1.2.1
 iter none (fun x0=>brn (I.ltb x0.1.2.2.1 (I.ofNat .i64 (@a0I a0D x0.1.1.2.2.2.1))) (brn (inB x0.1.2.2.1 (@a0I a0D x0.1.1.2.2.2.1)) (brn (I.eqb (@rdL a0D a1D x0.1.1.2.2.2.1 (I.nat x0.1.2.2.1)).1 x0.1.2.1) (brn (inB x0.1.2.2.1 (@a0I a0D x0.1.1.2.2.2.1)) (.done (some (((@rdL a0D a1D x0.1.1.2.2.2.1 (I.nat x0.1.2.2.1)).2.1,()),()))) (.done none)) (.again ((x0.1.1,(x0.1.2.1,((I.add x0.1.2.2.1 (I.of .i64 1)),()))),(x0.2.1,())))) (.done none)) (.done (some ((Z_U,()),())))) K ((a,(b,(I.of .i64 0,()))),(Z_U,()))
def a6T (K:Nat) (x:(⟨[.ptr 0 [],.pl a7P],a2R⟩:Tm).D):Option (⟨[.pl (.int .i64)],a2R⟩:Tm).D :=
 let a:b6C:=x.1.1
 let h0:a0U:=x.2.1
 let h1:(List a0G):=x.2.2.1
 let h2:(List (I .u64)):=x.2.2.2.1
 let h3:(List a0D):=x.2.2.2.2.1
 jn (fun (x0:(Unit × (a0U × ((List a0G) × ((List (I .u64)) × ((List a0D) × (b6C × Unit)))))))=>jn (fun (x1:(Unit × (a0U × ((List a0G) × ((List (I .u64)) × ((List a0D) × (b6C × Unit)))))))=>optF none (a4M K (((x1.2.1.1,(x1.2.2.1,(x1.2.2.2.1,(x1.2.2.2.2.1,x1.2.1.2.2.2.2)))),(x1.2.2.2.2.2.1.1,())),())) fun y2=>brn y2.1.1 (some ((I.of .i64 9,()),(x1.2.1,(x1.2.2.1,(x1.2.2.2.1,(x1.2.2.2.2.1,())))))) (brn (inB (I.sub x1.2.2.2.2.2.1.2.1 (I.of .u64 1)) (@a0I a0G x1.2.2.1)) (optF none (a6O K (((x1.2.2.2.2.2.1.1,(x1.2.2.2.2.2.1.2.2.1,(x1.2.2.2.2.2.1.2.2.2.1,()))),()),())) fun y3=>optF none (a7H K (((@rdL a0G a2J x1.2.2.1 (I.nat (I.sub x1.2.2.2.2.2.1.2.1 (I.of .u64 1)))),((I.conv (k:=.u64) .i64 x1.2.2.2.2.2.1.2.1),((I.conv (k:=.u64) .i64 x1.2.2.2.2.2.1.1),(y3.1.1,(x1.2.2.2.2.2.1.2.2.2.2.1,()))))),())) fun y4=>brn (a4S y4.1.1) (some ((I.of .i64 16,()),(x1.2.1,(x1.2.2.1,(x1.2.2.2.1,(x1.2.2.2.2.1,())))))) (optF none (a4Y K ((x1.2.1.1,(x1.2.2.2.2.2.1.2.2.2.1,())),())) fun y5=>brn (I.neb y5.1.2.1 (I.of .i64 0)) (some ((I.of .i64 10,()),(x1.2.1,(x1.2.2.1,(x1.2.2.2.1,(x1.2.2.2.2.1,())))))) (optF none (a5F K (((x1.2.1.1,(x1.2.2.1,(x1.2.2.2.1,(x1.2.2.2.2.1,x1.2.1.2.2.2.2)))),(x1.2.2.2.2.2.1.2.2.1,())),())) fun y6=>optF none (a7G K ((y6.1.1,(x1.2.2.2.2.2.1.2.2.2.1,())),())) fun y7=>brn (I.neb y7.1.2.1 (I.of .i64 0)) (some ((y7.1.2.1,()),(x1.2.1,(x1.2.2.1,(x1.2.2.2.1,(x1.2.2.2.2.1,())))))) (brn (a1E (@a0I (I .u64) (@a2A (I .u64) x1.2.2.2.1 (x1.2.2.2.2.2.1.1::[])))) (iter none (fun (x8:(((I .i64) × Unit) × (a0U × ((List a0G) × ((List (I .u64)) × ((List a0D) × (b6C × (U × Unit))))))))=>brn (I.ltb x8.1.1 (I.ofNat .i64 (@a0I a0D x8.2.2.2.2.1))) (brn (inB x8.1.1 (@a0I a0D x8.2.2.2.2.1)) (brn (I.eqb (@rdL a0D a1D x8.2.2.2.2.1 (I.nat x8.1.1)).1 x8.2.2.2.2.2.1.2.2.1) (brn (inB x8.1.1 (@a0I a0D x8.2.2.2.2.1)) (.done (some ((I.of .i64 0,()),(x8.2.1,(x8.2.2.1,(x8.2.2.2.1,((@c2C a0D x8.2.2.2.2.1 (I.nat x8.1.1) ((@rdL a0D a1D x8.2.2.2.2.1 (I.nat x8.1.1)).1,(x8.2.2.2.2.2.2.1,(@rdL a0D a1D x8.2.2.2.2.1 (I.nat x8.1.1)).2.2))),()))))))) (.done none)) (.again (((I.add x8.1.1 (I.of .i64 1)),()),(x8.2.1,(x8.2.2.1,(x8.2.2.2.1,(x8.2.2.2.2.1,(x8.2.2.2.2.2.1,(x8.2.2.2.2.2.2.1,()))))))))) (.done none)) (.done (brn (a1E (@a0I a0D (@a2A a0D x8.2.2.2.2.1 ((x8.2.2.2.2.2.1.2.2.1,(x8.2.2.2.2.2.2.1,()))::[])))) (some ((I.of .i64 0,()),(x8.2.1,(x8.2.2.1,(x8.2.2.2.1,((@a2A a0D x8.2.2.2.2.1 ((x8.2.2.2.2.2.1.2.2.1,(x8.2.2.2.2.2.2.1,()))::[])),())))))) none))) K ((I.of .i64 0,()),((y5.1.1,x1.2.1.2),(x1.2.2.1,((@a2A (I .u64) x1.2.2.2.1 (x1.2.2.2.2.2.1.1::[])),(x1.2.2.2.2.1,(x1.2.2.2.2.2.1,(y7.1.1,())))))))) none)))) none)) fun j1=>brn (I.ltb x0.2.2.2.2.2.1.2.1 (I.of .u64 1)) (some ((I.of .i64 8,()),(x0.2.1,(x0.2.2.1,(x0.2.2.2.1,(x0.2.2.2.2.1,())))))) (brn (I.ltb (I.conv (k:=.i64) .u64 (I.ofNat .i64 (@a0I a0G x0.2.2.1))) x0.2.2.2.2.2.1.2.1) (some ((I.of .i64 8,()),(x0.2.1,(x0.2.2.1,(x0.2.2.2.1,(x0.2.2.2.2.1,())))))) (brn (I.leb x0.2.2.2.2.2.1.2.1 x0.2.2.2.2.2.1.1) (some ((I.of .i64 8,()),(x0.2.1,(x0.2.2.1,(x0.2.2.2.1,(x0.2.2.2.2.1,())))))) (j1 ((),(x0.2.1,(x0.2.2.1,(x0.2.2.2.1,(x0.2.2.2.2.1,(x0.2.2.2.2.2.1,())))))))))) fun j0=>brn (I.eqb a.2.2.1 (I.of .u64 0)) (some ((I.of .i64 2,()),(h0,(h1,(h2,(h3,())))))) (optF none (a2E K ((a.2.2.2.1,()),())) fun y1=>brn y1.1.1 (some ((I.of .i64 2,()),(h0,(h1,(h2,(h3,())))))) (brn (I.ltb (I.of .i64 64) (I.ofNat .i64 (@a0I a0G a.2.2.2.2.1))) (some ((I.of .i64 2,()),(h0,(h1,(h2,(h3,())))))) (j0 ((),(h0,(h1,(h2,(h3,(a,())))))))))
def a6G (K:Nat) (x:(⟨[.ptr 0 [],.pl a1M],a0F⟩:Tm).D):Option (⟨[.pl (.int .i64)],a0F⟩:Tm).D :=
 let a:a1U:=x.1.1
 let h0:a0W:=x.2.1
 let h1:a0M:=x.2.2.1
 let h2:a0U:=x.2.2.2.1
 let h3:(List a0B):=x.2.2.2.2.1
 let h4:(List a0E):=x.2.2.2.2.2.1
 let h5:(List a0G):=x.2.2.2.2.2.2.1
 let h6:(List (I .u64)):=x.2.2.2.2.2.2.2.1
 let h7:(List a0D):=x.2.2.2.2.2.2.2.2.1
 brn (I.eqb a.1 (I.of .i64 3)) (optF none (b2C K ((h0.2.2.2.1,(h0.2.1.1,(a.2.2.2.1,()))),())) fun y0=>optF none (b2Y K ((h0.2.2.1,(a.2.2.2.1,(y0.1.1,(h0.2.1,())))),())) fun y1=>brn (I.eqb y1.1.2.1 (I.of .i64 0)) (some ((y1.1.2.1,()),((h0.1,(h0.2.1,(y1.1.1,(y0.1.1,h0.2.2.2.2)))),(h1,(h2,(h3,(h4,(h5,(h6,(h7,())))))))))) (some ((y1.1.2.1,()),(h0,(h1,(h2,(h3,(h4,(h5,(h6,(h7,()))))))))))) (brn (I.eqb a.1 (I.of .i64 4)) (optF none (a7R K ((h0.2.1,(a.2.2.2.2.1,(a.2.2.2.2.2.1,()))),())) fun y0=>brn (I.eqb y0.1.2.1 (I.of .i64 0)) (some ((y0.1.2.1,()),((h0.1,(y0.1.1,h0.2.2)),(h1,(h2,(h3,(h4,(h5,(h6,(h7,())))))))))) (some ((y0.1.2.1,()),(h0,(h1,(h2,(h3,(h4,(h5,(h6,(h7,()))))))))))) (brn (I.eqb a.1 (I.of .i64 5)) (optF none (a8H K ((h0.2.2.2.2.1,(a.2.2.2.2.2.2.1,())),())) fun y0=>brn (I.eqb y0.1.2.1 (I.of .i64 0)) (some ((y0.1.2.1,()),((h0.1,(h0.2.1,(h0.2.2.1,(h0.2.2.2.1,(y0.1.1,h0.2.2.2.2.2))))),(h1,(h2,(h3,(h4,(h5,(h6,(h7,())))))))))) (some ((y0.1.2.1,()),(h0,(h1,(h2,(h3,(h4,(h5,(h6,(h7,()))))))))))) (brn (I.eqb a.1 (I.of .i64 6)) (jn (fun (x0:(Unit × (a0W × (a0M × ((List a0E) × ((List a0B) × (a0U × ((List a0G) × ((List (I .u64)) × ((List a0D) × (a1U × Unit)))))))))))=>optF none (a0C K ((x0.2.2.2.2.2.1.1,()),())) fun y1=>optF none (a0C K ((x0.2.2.2.2.2.2.2.2.2.1.2.2.2.2.2.1,()),())) fun y2=>optF none (a1H K ((y1.1.1,(y2.1.1,())),())) fun y3=>optF none (a2D K ((y3.1.1,()),())) fun y4=>brn (a4S y4.1.1) (some ((I.of .i64 4,()),(x0.2.1,(x0.2.2.1,(x0.2.2.2.2.2.1,(x0.2.2.2.2.1,(x0.2.2.2.1,(x0.2.2.2.2.2.2.1,(x0.2.2.2.2.2.2.2.1,(x0.2.2.2.2.2.2.2.2.1,())))))))))) (optF none (a5Y K ((x0.2.2.2.2.2.2.2.2.2.1.2.2.2.2.2.1,()),(x0.2.2.2.2.2.1,(x0.2.2.2.2.2.2.1,(x0.2.2.2.2.2.2.2.1,(x0.2.2.2.2.2.2.2.2.1,())))))) fun y5=>optF none (a7I K ((x0.2.2.2.2.2.2.2.2.2.1.2.2.2.2.2.2.1,(x0.2.2.2.2.2.2.2.2.2.1.2.2.2.2.2.1,())),(x0.2.2.1,(x0.2.2.2.1,())))) fun y6=>some ((y6.1.1,()),(x0.2.1,(y6.2.1,(y5.2.1,(x0.2.2.2.2.1,(y6.2.2.1,(y5.2.2.1,(y5.2.2.2.1,(y5.2.2.2.2.1,()))))))))))) fun j0=>brn (I.eqb a.2.2.2.2.2.2.1 (I.of .u64 0)) (some ((I.of .i64 2,()),(h0,(h1,(h2,(h3,(h4,(h5,(h6,(h7,())))))))))) (brn (I.eqb a.2.2.2.2.2.2.1 (I.of .u64 18446744073709551615)) (some ((I.of .i64 2,()),(h0,(h1,(h2,(h3,(h4,(h5,(h6,(h7,())))))))))) (optF none (a2E K ((a.2.2.2.2.2.1,()),())) fun y1=>brn y1.1.1 (some ((I.of .i64 2,()),(h0,(h1,(h2,(h3,(h4,(h5,(h6,(h7,())))))))))) (j0 ((),(h0,(h1,(h4,(h3,(h2,(h5,(h6,(h7,(a,())))))))))))))) (optF none (a6T K ((a.2.2.2.2.2.2.2.1,()),(h2,(h5,(h6,(h7,())))))) fun y0=>some ((y0.1.1,()),(h0,(h1,(y0.2.1,(h3,(h4,(y0.2.2.1,(y0.2.2.2.1,(y0.2.2.2.2.1,())))))))))))))
def a4D (K:Nat) (x:(⟨[.ptr 0 [],.pl a1M],a0F⟩:Tm).D):Option (⟨[.pl a1W],a0F⟩:Tm).D :=
 let a:a1U:=x.1.1
 let h0:a0W:=x.2.1
 let h1:a0M:=x.2.2.1
 let h2:a0U:=x.2.2.2.1
 let h3:(List a0B):=x.2.2.2.2.1
 let h4:(List a0E):=x.2.2.2.2.2.1
 let h5:(List a0G):=x.2.2.2.2.2.2.1
 let h6:(List (I .u64)):=x.2.2.2.2.2.2.2.1
 let h7:(List a0D):=x.2.2.2.2.2.2.2.2.1
 jn (fun (x0:(Unit × (a0W × (a0M × ((List a0E) × ((List a0B) × (a0U × ((List a0G) × ((List (I .u64)) × ((List a0D) × (a1U × (((I .i64) × ((I .i64) × (a9F × (U × (U × ((I .u64) × (U × (U × (Unit × Unit))))))))) × ((List a0B) × Unit)))))))))))))=>optF none (a8I K ((x0.2.2.2.2.2.2.2.2.2.1.1,()),())) fun y1=>brn (a4S y1.1.1) (some (((I.of .i64 0,(I.of .i64 17,(a2F,(Z_U,(Z_U,(I.of .u64 0,(Z_U,(Z_U,([],()))))))))),()),(x0.2.1,(x0.2.2.1,(x0.2.2.2.2.2.1,(x0.2.2.2.2.1,(x0.2.2.2.1,(x0.2.2.2.2.2.2.1,(x0.2.2.2.2.2.2.2.1,(x0.2.2.2.2.2.2.2.2.1,())))))))))) (brn (I.eqb x0.2.2.2.2.2.2.2.2.2.1.1 (I.of .i64 1)) (optF none (a7V K ((x0.2.2.2.2.2.2.2.2.2.1.2.1,()),(x0.2.1,(x0.2.2.1,(x0.2.2.2.2.2.1,(x0.2.2.2.2.1,(x0.2.2.2.1,(x0.2.2.2.2.2.2.1,(x0.2.2.2.2.2.2.2.1,(x0.2.2.2.2.2.2.2.2.1,())))))))))) fun y2=>some (((x0.2.2.2.2.2.2.2.2.2.1.1,y2.1.1.2),()),y2.2)) (brn (I.eqb x0.2.2.2.2.2.2.2.2.2.1.1 (I.of .i64 2)) (optF none (a5V K ((x0.2.2.2.2.2.2.2.2.2.1.2.2.1,()),(x0.2.1,(x0.2.2.1,(x0.2.2.2.2.2.1,(x0.2.2.2.2.1,(x0.2.2.2.1,(x0.2.2.2.2.2.2.1,(x0.2.2.2.2.2.2.2.1,(x0.2.2.2.2.2.2.2.2.1,())))))))))) fun y2=>some (((x0.2.2.2.2.2.2.2.2.2.1.1,y2.1.1.2),()),y2.2)) (optF none (a6G K ((x0.2.2.2.2.2.2.2.2.2.1,()),(x0.2.1,(x0.2.2.1,(x0.2.2.2.2.2.1,(x0.2.2.2.2.1,(x0.2.2.2.1,(x0.2.2.2.2.2.2.1,(x0.2.2.2.2.2.2.2.1,(x0.2.2.2.2.2.2.2.2.1,())))))))))) fun y2=>some (((x0.2.2.2.2.2.2.2.2.2.1.1,(y2.1.1,(a2F,(Z_U,(Z_U,(I.of .u64 0,(Z_U,(Z_U,([],()))))))))),()),y2.2))))) fun j0=>brn (I.neb (I.add h0.1 (I.of .u64 1)) (I.of .u64 0)) (j0 ((),(((I.add h0.1 (I.of .u64 1)),h0.2),(h1,(h4,(h3,(h2,(h5,(h6,(h7,(a,((I.of .i64 0,(I.of .i64 0,(a2F,(Z_U,(Z_U,(I.of .u64 0,(Z_U,(Z_U,((),()))))))))),([],()))))))))))))) (j0 ((),(h0,(h1,(h4,(h3,(h2,(h5,(h6,(h7,(a,((I.of .i64 0,(I.of .i64 0,(a2F,(Z_U,(Z_U,(I.of .u64 0,(Z_U,(Z_U,((),()))))))))),([],())))))))))))))
def b0Z (K:Nat) (x:(⟨[.pl (.int .i64),.pl (.int .u64),.pl .bool],[]⟩:Tm).D):Option (⟨[.pl a1M],[]⟩:Tm).D :=
 let a:(I .i64):=x.1.1
 let b:(I .u64):=x.1.2.1
 let c:Bool:=x.1.2.2.1
 brn (I.eqb (I.rem a (I.of .i64 13)) (I.of .i64 5)) (some (((I.of .i64 6,((I.of .u64 0,(I.of .u64 0,(I.of .u64 0,(Z_U,(I.of .u64 0,(Z_U,(Z_U,(I.of .u64 0,([],()))))))))),(a0O,(I.of .u64 0,(I.of .i64 0,(((I.add (I.of .u64 4503599627370496) (I.conv (k:=.i64) .u64 (I.rem a (I.of .i64 100000)))),(I.of .u64 0,(I.of .u64 0,(I.of .u64 0,())))),(I.of .u64 9,((I.of .u64 0,(I.of .u64 0,(I.of .u64 0,(Z_U,([],()))))),())))))))),()),())) (brn (I.eqb (I.rem a (I.of .i64 31)) (I.of .i64 6)) (some (((I.of .i64 6,((I.of .u64 0,(I.of .u64 0,(I.of .u64 0,(Z_U,(I.of .u64 0,(Z_U,(Z_U,(I.of .u64 0,([],()))))))))),(a0O,(I.of .u64 0,(I.of .i64 0,(((I.add (I.of .u64 4503599627370496) (I.conv (k:=.i64) .u64 (I.rem a (I.of .i64 100000)))),(I.of .u64 0,(I.of .u64 0,(I.of .u64 0,())))),(I.of .u64 0,((I.of .u64 0,(I.of .u64 0,(I.of .u64 0,(Z_U,([],()))))),())))))))),()),())) (brn (I.eqb (I.rem a (I.of .i64 37)) (I.of .i64 7)) (some (((I.of .i64 6,((I.of .u64 0,(I.of .u64 0,(I.of .u64 0,(Z_U,(I.of .u64 0,(Z_U,(Z_U,(I.of .u64 0,([],()))))))))),(a0O,(I.of .u64 0,(I.of .i64 0,(((I.add (I.of .u64 4503599627370496) (I.conv (k:=.i64) .u64 (I.rem a (I.of .i64 100000)))),(I.of .u64 0,(I.of .u64 0,(I.of .u64 0,())))),(I.of .u64 18446744073709551615,((I.of .u64 0,(I.of .u64 0,(I.of .u64 0,(Z_U,([],()))))),())))))))),()),())) (brn (I.eqb (I.rem a (I.of .i64 11)) (I.of .i64 3)) (some (((I.of .i64 6,((I.of .u64 0,(I.of .u64 0,(I.of .u64 0,(Z_U,(I.of .u64 0,(Z_U,(Z_U,(I.of .u64 0,([],()))))))))),(a0O,(I.of .u64 0,(I.of .i64 0,(((I.conv (k:=.i64) .u64 (I.rem a (I.of .i64 50))),(I.of .u64 0,(I.of .u64 0,(I.of .u64 0,())))),(b,((I.of .u64 0,(I.of .u64 0,(I.of .u64 0,(Z_U,([],()))))),())))))))),()),())) (brn (I.eqb (I.rem a (I.of .i64 61)) (I.of .i64 8)) (brn (a4S c) (some (((I.of .i64 6,((I.of .u64 0,(I.of .u64 0,(I.of .u64 0,(Z_U,(I.of .u64 0,(Z_U,(Z_U,(I.of .u64 0,([],()))))))))),(a0O,(I.of .u64 0,(I.of .i64 0,((I.of .u64 0,(I.of .u64 0,(I.of .u64 0,(I.of .u64 4611686018427387904,())))),(b,((I.of .u64 0,(I.of .u64 0,(I.of .u64 0,(Z_U,([],()))))),())))))))),()),())) (some (((I.of .i64 6,((I.of .u64 0,(I.of .u64 0,(I.of .u64 0,(Z_U,(I.of .u64 0,(Z_U,(Z_U,(I.of .u64 0,([],()))))))))),(a0O,(I.of .u64 0,(I.of .i64 0,(((I.add (I.of .u64 4503599627370496) (I.conv (k:=.i64) .u64 (I.rem a (I.of .i64 100000)))),(I.of .u64 0,(I.of .u64 0,(I.of .u64 0,())))),(b,((I.of .u64 0,(I.of .u64 0,(I.of .u64 0,(Z_U,([],()))))),())))))))),()),()))) (some (((I.of .i64 6,((I.of .u64 0,(I.of .u64 0,(I.of .u64 0,(Z_U,(I.of .u64 0,(Z_U,(Z_U,(I.of .u64 0,([],()))))))))),(a0O,(I.of .u64 0,(I.of .i64 0,(((I.add (I.of .u64 4503599627370496) (I.conv (k:=.i64) .u64 (I.rem a (I.of .i64 100000)))),(I.of .u64 0,(I.of .u64 0,(I.of .u64 0,())))),(b,((I.of .u64 0,(I.of .u64 0,(I.of .u64 0,(Z_U,([],()))))),())))))))),()),()))))))
def b1W (K:Nat) (x:(⟨[.pl (.int .i64),.ptr 0 []],a0F⟩:Tm).D):Option (⟨[.pl a0P],a0F⟩:Tm).D :=
 let a:(I .i64):=x.1.1
 let h0:a0W:=x.2.1
 let h1:a0M:=x.2.2.1
 let h2:a0U:=x.2.2.2.1
 let h3:(List a0B):=x.2.2.2.2.1
 let h4:(List a0E):=x.2.2.2.2.2.1
 let h5:(List a0G):=x.2.2.2.2.2.2.1
 let h6:(List (I .u64)):=x.2.2.2.2.2.2.2.1
 let h7:(List a0D):=x.2.2.2.2.2.2.2.2.1
 brn (I.nz (I.add (I.mn (I.sub h0.2.2.1.2.1 h0.2.2.2.2.1.2.2.1) (I.of .u64 1099511627776)) (I.of .u64 2))) (brn (I.eqb (I.rem a (I.of .i64 19)) (I.of .i64 4)) (some ((((I.add (I.of .u64 5) (I.conv (k:=.i64) .u64 (I.rem a (I.of .i64 3)))),((I.add h0.2.2.2.2.1.2.2.1 (I.rem (I.conv (k:=.i64) .u64 (I.quo a (I.of .i64 3))) (I.add (I.mn (I.sub h0.2.2.1.2.1 h0.2.2.2.2.1.2.2.1) (I.of .u64 1099511627776)) (I.of .u64 2)))),((I.of .u64 0,(I.of .u64 0,(I.of .u64 1,(I.of .u64 0,())))),()))),()),(h0,(h1,(h2,(h3,(h4,(h5,(h6,(h7,())))))))))) (brn (I.eqb (I.rem a (I.of .i64 23)) (I.of .i64 5)) (some ((((I.add (I.of .u64 5) (I.conv (k:=.i64) .u64 (I.rem a (I.of .i64 3)))),((I.conv (k:=.i64) .u64 (I.rem a (I.of .i64 100))),(((I.mul (I.conv (k:=.i64) .u64 (I.rem (I.quo a (I.of .i64 9)) (I.of .i64 5000))) (I.of .u64 20000000)),(I.of .u64 0,(I.of .u64 0,(I.of .u64 0,())))),()))),()),(h0,(h1,(h2,(h3,(h4,(h5,(h6,(h7,())))))))))) (brn (I.eqb (I.rem a (I.of .i64 29)) (I.of .i64 6)) (some ((((I.add (I.of .u64 5) (I.conv (k:=.i64) .u64 (I.rem a (I.of .i64 3)))),((I.add h0.2.2.2.2.1.2.2.1 (I.rem (I.conv (k:=.i64) .u64 (I.quo a (I.of .i64 3))) (I.add (I.mn (I.sub h0.2.2.1.2.1 h0.2.2.2.2.1.2.2.1) (I.of .u64 1099511627776)) (I.of .u64 2)))),((I.of .u64 0,((I.conv (k:=.i64) .u64 (I.rem a (I.of .i64 1000))),(I.of .u64 0,(I.of .u64 0,())))),()))),()),(h0,(h1,(h2,(h3,(h4,(h5,(h6,(h7,())))))))))) (some ((((I.add (I.of .u64 5) (I.conv (k:=.i64) .u64 (I.rem a (I.of .i64 3)))),((I.add h0.2.2.2.2.1.2.2.1 (I.rem (I.conv (k:=.i64) .u64 (I.quo a (I.of .i64 3))) (I.add (I.mn (I.sub h0.2.2.1.2.1 h0.2.2.2.2.1.2.2.1) (I.of .u64 1099511627776)) (I.of .u64 2)))),(((I.mul (I.conv (k:=.i64) .u64 (I.rem (I.quo a (I.of .i64 9)) (I.of .i64 5000))) (I.of .u64 20000000)),(I.of .u64 0,(I.of .u64 0,(I.of .u64 0,())))),()))),()),(h0,(h1,(h2,(h3,(h4,(h5,(h6,(h7,()))))))))))))) none
def b2S (K:Nat) (x:(⟨[.pl (.int .i64)],[]⟩:Tm).D):Option (⟨[.pl a1M],[]⟩:Tm).D :=
 let a:(I .i64):=x.1.1
 brn (inB (I.rem a (I.of .i64 12)) 12) (jn (fun (x0:(((I .i64) × Unit) × (a1U × (a1U × Unit))))=>brn (I.eqb (I.rem x0.1.1 (I.of .i64 31)) (I.of .i64 4)) (some (((x0.2.2.1.1,(x0.2.2.1.2.1,(x0.2.2.1.2.2.1,(x0.2.2.1.2.2.2.1,((I.rem x0.1.1 (I.of .i64 40)),x0.2.2.1.2.2.2.2.2))))),()),())) (some ((x0.2.2.1,()),()))) fun j0=>brn (I.eqb (I.rem a (I.of .i64 17)) (I.of .i64 3)) (j0 ((a,()),((I.of .i64 0,((I.of .u64 0,(I.of .u64 0,(I.of .u64 0,(Z_U,(I.of .u64 0,(Z_U,(Z_U,(I.of .u64 0,([],()))))))))),(a0O,(I.of .u64 0,(I.of .i64 0,(Z_U,(I.of .u64 0,((I.of .u64 0,(I.of .u64 0,(I.of .u64 0,(Z_U,([],()))))),())))))))),((I.of .i64 4,((I.of .u64 0,(I.of .u64 0,(I.of .u64 0,(Z_U,(I.of .u64 0,(Z_U,(Z_U,(I.of .u64 0,([],()))))))))),(a0O,(I.of .u64 0,((I.add (I.rem a (I.of .i64 12)) (I.of .i64 1)),(Z_U,(I.of .u64 0,((I.of .u64 0,(I.of .u64 0,(I.of .u64 0,(Z_U,([],()))))),())))))))),())))) (j0 ((a,()),((I.of .i64 0,((I.of .u64 0,(I.of .u64 0,(I.of .u64 0,(Z_U,(I.of .u64 0,(Z_U,(Z_U,(I.of .u64 0,([],()))))))))),(a0O,(I.of .u64 0,(I.of .i64 0,(Z_U,(I.of .u64 0,((I.of .u64 0,(I.of .u64 0,(I.of .u64 0,(Z_U,([],()))))),())))))))),((I.of .i64 4,((I.of .u64 0,(I.of .u64 0,(I.of .u64 0,(Z_U,(I.of .u64 0,(Z_U,(Z_U,(I.of .u64 0,([],()))))))))),(a0O,(I.of .u64 0,((I.add (I.rem a (I.of .i64 12)) (I.of .i64 1)),(((@Arr.sel (I .u64) (I.of .u64 0) 12 ((I.add (I.of .u64 1000000) (I.rem (I.conv (k:=.i64) .u64 (I.quo a (I.of .i64 12))) (I.of .u64 10000000))),((I.rem (I.conv (k:=.i64) .u64 (I.quo a (I.of .i64 12))) (I.of .u64 20)),((I.add (I.of .u64 1) (I.rem (I.conv (k:=.i64) .u64 (I.quo a (I.of .i64 12))) (I.of .u64 200))),((I.add (I.of .u64 10000000) (I.rem (I.conv (k:=.i64) .u64 (I.quo a (I.of .i64 12))) (I.of .u64 1000000000))),((I.add (I.of .u64 1000000) (I.rem (I.conv (k:=.i64) .u64 (I.quo a (I.of .i64 12))) (I.of .u64 100000000))),((I.rem (I.conv (k:=.i64) .u64 (I.quo a (I.of .i64 12))) (I.of .u64 200000000)),((I.rem (I.conv (k:=.i64) .u64 (I.quo a (I.of .i64 12))) (I.of .u64 10300)),((I.rem (I.conv (k:=.i64) .u64 (I.quo a (I.of .i64 12))) (I.of .u64 1000)),((I.add (I.of .u64 1000) (I.rem (I.conv (k:=.i64) .u64 (I.quo a (I.of .i64 12))) (I.of .u64 1000000000))),((I.add (I.of .u64 1) (I.rem (I.conv (k:=.i64) .u64 (I.quo a (I.of .i64 12))) (I.of .u64 100))),((I.rem (I.conv (k:=.i64) .u64 (I.quo a (I.of .i64 12))) (I.of .u64 250)),((I.add (I.of .u64 200) (I.rem (I.conv (k:=.i64) .u64 (I.quo a (I.of .i64 12))) (I.of .u64 100000))),())))))))))))) (I.nat (I.rem a (I.of .i64 12)))),(I.of .u64 0,(I.of .u64 0,(I.of .u64 0,())))),(I.of .u64 0,((I.of .u64 0,(I.of .u64 0,(I.of .u64 0,(Z_U,([],()))))),())))))))),()))))) none
def a7F (K:Nat) (r0:(⟨[.pl (.sl (.arr 32 (.int .u8))),.pl (.int .i64)],[]⟩:Tm).D→Option (⟨[.whole 0],[.row (.arr 32 (.int .u8))]⟩:Tm).D) (x:(⟨[.pl (.sl (.arr 32 (.int .u8))),.pl (.int .i64)],[]⟩:Tm).D):Option (⟨[.whole 0],[.row (.arr 32 (.int .u8))]⟩:Tm).D :=
 let a:(List a0G):=x.1.1
 let b:(I .i64):=x.1.2.1
 brn (@I.ltb .i64 (I.ofNat .i64 (@a0I a0G a)) (I.of .i64 2))
 (some ((),([],())))
 (optF (none) (a5B K (((I.ofNat .i64 (@a0I a0G a)),()),())) fun y0 =>
 brn (@I.ltb .i64 b y0.1.1)
  (brn (@inB' .i64 y0.1.1 (@a0I a0G a))
  (optF (none) (r0 (((@a3W a0G a 0 (@I.nat .i64 y0.1.1)),(b,())),())) fun y1 =>
  brn (@inB' .i64 y0.1.1 (@a0I a0G a))
   (optF (none) (a4Z K (((@a3W a0G a (@I.nat .i64 y0.1.1) ((@a0I a0G a) - (@I.nat .i64 y0.1.1))),()),())) fun y2 =>
   brn (a1E (@a0I a0G (@a2A a0G y1.2.1 (y2.1.1 :: []))))
   (some ((),((@a2A a0G y1.2.1 (y2.1.1 :: [])),())))
   (none))
   (none))
  (none))
  (brn (@inB' .i64 y0.1.1 (@a0I a0G a))
  (optF (none) (r0 (((@a3W a0G a (@I.nat .i64 y0.1.1) ((@a0I a0G a) - (@I.nat .i64 y0.1.1))),((@I.sub .i64 b y0.1.1),())),())) fun y1 =>
  brn (@inB' .i64 y0.1.1 (@a0I a0G a))
   (optF (none) (a4Z K (((@a3W a0G a 0 (@I.nat .i64 y0.1.1)),()),())) fun y2 =>
   brn (a1E (@a0I a0G (@a2A a0G y1.2.1 (y2.1.1 :: []))))
   (some ((),((@a2A a0G y1.2.1 (y2.1.1 :: [])),())))
   (none))
   (none))
  (none)))
def a3R (K:Nat):Nat→(⟨[.pl (.sl (.arr 32 (.int .u8))),.pl (.int .i64)],[]⟩:Tm).D→Option (⟨[.whole 0],[.row (.arr 32 (.int .u8))]⟩:Tm).D
 | 0,_=>none
 | k0 + 1,x=>a7F K (a3R K k0) x
def b3A (K:Nat) (x:(⟨[.pl (.sl (.arr 32 (.int .u8))),.pl (.int .i64)],[]⟩:Tm).D):Option (⟨[.whole 0],[.row (.arr 32 (.int .u8))]⟩:Tm).D:=a3R K K x
def b1K (K:Nat) (x:(⟨[.pl (.sl a0P),.pl (.int .i64),.pl (.int .i64)],[]⟩:Tm).D):Option (⟨[.whole 0,.pl .bool],[.row (.arr 32 (.int .u8))]⟩:Tm).D :=
 let a:(List a0B):=x.1.1
 let b:(I .i64):=x.1.2.1
 let c:(I .i64):=x.1.2.2.1
 jn (fun (x0:(((List a0B) × ((I .i64) × ((I .i64) × Unit))) × Unit))=>optF none (a8C K ((x0.1.1,(x0.1.2.2.1,())),())) fun y1=>optF none (b3A K ((y1.1.1,(x0.1.2.1,())),())) fun y2=>some ((true,()),(y2.2.1,()))) fun j0=>brn (I.ltb b (I.of .i64 0)) (some ((false,()),([],()))) (brn (I.leb c b) (some ((false,()),([],()))) (brn (I.ltb (I.ofNat .i64 (@a0I a0B a)) c) (some ((false,()),([],()))) (j0 ((a,(b,(c,()))),()))))
def b1U (K:Nat) (x:(⟨[],[]⟩:Tm).D):Option (⟨[.pl a1Q],[]⟩:Tm).D :=
 some (((I.of .u64 18446744073709551615,(I.of .u64 18446744073709551615,(I.of .u64 18446744073709551615,(I.of .u64 18446744073709551615,())))),()),())
def b1Q (K:Nat) (x:(⟨[.pl (.int .i64)],[]⟩:Tm).D):Option (⟨[.pl (.arr 32 (.int .u8))],[]⟩:Tm).D :=
 let a:(I .i64):=x.1.1
 iter none (fun x0=>brn (I.ltb x0.1.2.1 (I.of .i64 8)) (brn (I.nn (I.conv (k:=.i64) .u64 (I.mul (I.of .i64 8) x0.1.2.1))) (brn (inB x0.1.2.1 32) (.again ((x0.1.1,((I.add x0.1.2.1 (I.of .i64 1)),())),(x0.2.1,((@Arr.upd (I .u8) 32 x0.2.2.1 (I.nat x0.1.2.1) (I.conv (k:=.u64) .u8 (I.shr (I.conv (k:=.i64) .u64 x0.1.1) (I.conv (k:=.i64) .u64 (I.mul (I.of .i64 8) x0.1.2.1))))),())))) (.done none)) (.done none)) (.done (some ((x0.2.2.1,()),())))) K ((a,(I.of .i64 0,())),(a2J,(a2J,())))
def b2T (K:Nat) (x:(⟨[.pl (.int .i64),.ptr 0 []],a0F⟩:Tm).D):Option (⟨[.pl a7P],a0F⟩:Tm).D :=
 let a:(I .i64):=x.1.1
 let h0:a0W:=x.2.1
 let h1:a0M:=x.2.2.1
 let h2:a0U:=x.2.2.2.1
 let h3:(List a0B):=x.2.2.2.2.1
 let h4:(List a0E):=x.2.2.2.2.2.1
 let h5:(List a0G):=x.2.2.2.2.2.2.1
 let h6:(List (I .u64)):=x.2.2.2.2.2.2.2.1
 let h7:(List a0D):=x.2.2.2.2.2.2.2.2.1
 brn (I.eqb (I.ofNat .i64 (@a0I a0B h3)) (I.of .i64 0)) (some ((((I.conv (k:=.i64) .u64 (I.rem a (I.of .i64 3))),((I.conv (k:=.i64) .u64 (I.rem a (I.of .i64 2))),(I.of .u64 5,((I.of .u64 1,(I.of .u64 0,(I.of .u64 0,(I.of .u64 0,())))),([],()))))),()),(h0,(h1,(h2,(h3,(h4,(h5,(h6,(h7,())))))))))) (brn (I.nz (I.ofNat .i64 (@a0I a0B h3))) (brn (I.nz (I.sub (I.ofNat .i64 (@a0I a0B h3)) (I.rem a (I.ofNat .i64 (@a0I a0B h3))))) (optF none (b1K K ((h3,((I.rem a (I.ofNat .i64 (@a0I a0B h3))),((I.add (I.add (I.rem a (I.ofNat .i64 (@a0I a0B h3))) (I.of .i64 1)) (I.rem (I.quo a (I.of .i64 7)) (I.sub (I.ofNat .i64 (@a0I a0B h3)) (I.rem a (I.ofNat .i64 (@a0I a0B h3)))))),()))),())) fun y0=>brn (inB (I.rem a (I.ofNat .i64 (@a0I a0B h3))) (@a0I a0B h3)) (brn (inB (I.rem a (I.ofNat .i64 (@a0I a0B h3))) (@a0I a0B h3)) (brn (I.eqb (I.rem (I.quo a (I.of .i64 3)) (I.of .i64 12)) (I.of .i64 0)) (optF none (a0C K (((@rdL a0B a0O h3 (I.nat (I.rem a (I.ofNat .i64 (@a0I a0B h3))))).2.2.1,()),())) fun y1=>optF none (a0H K ((I.of .u64 1,()),())) fun y2=>optF none (a1H K ((y1.1.1,(y2.1.1,())),())) fun y3=>optF none (b1U K ((),())) fun y4=>optF none (a0C K ((y4.1.1,()),())) fun y5=>optF none (a4J K ((y3.1.1,(y5.1.1,())),())) fun y6=>optF none (a0R K ((y6.1.1,()),())) fun y7=>some ((((I.conv (k:=.i64) .u64 (I.rem a (I.ofNat .i64 (@a0I a0B h3)))),((I.conv (k:=.i64) .u64 (I.add (I.add (I.rem a (I.ofNat .i64 (@a0I a0B h3))) (I.of .i64 1)) (I.rem (I.quo a (I.of .i64 7)) (I.sub (I.ofNat .i64 (@a0I a0B h3)) (I.rem a (I.ofNat .i64 (@a0I a0B h3))))))),((@rdL a0B a0O h3 (I.nat (I.rem a (I.ofNat .i64 (@a0I a0B h3))))).2.1,(y7.1.1,(y0.2.1,()))))),()),(h0,(h1,(h2,(h3,(h4,(h5,(h6,(h7,())))))))))) (brn (I.eqb (I.rem (I.quo a (I.of .i64 3)) (I.of .i64 12)) (I.of .i64 1)) (some ((((I.conv (k:=.i64) .u64 (I.rem a (I.ofNat .i64 (@a0I a0B h3)))),((I.conv (k:=.i64) .u64 (I.add (I.add (I.rem a (I.ofNat .i64 (@a0I a0B h3))) (I.of .i64 1)) (I.rem (I.quo a (I.of .i64 7)) (I.sub (I.ofNat .i64 (@a0I a0B h3)) (I.rem a (I.ofNat .i64 (@a0I a0B h3))))))),((I.add (@rdL a0B a0O h3 (I.nat (I.rem a (I.ofNat .i64 (@a0I a0B h3))))).2.1 (I.of .u64 1)),((@rdL a0B a0O h3 (I.nat (I.rem a (I.ofNat .i64 (@a0I a0B h3))))).2.2.1,(y0.2.1,()))))),()),(h0,(h1,(h2,(h3,(h4,(h5,(h6,(h7,())))))))))) (brn (I.eqb (I.rem (I.quo a (I.of .i64 3)) (I.of .i64 12)) (I.of .i64 2)) (optF none (b1Q K ((a,()),())) fun y1=>brn (a1E (@a0I a0G (@a2A a0G y0.2.1 (y1.1.1::[])))) (some ((((I.conv (k:=.i64) .u64 (I.rem a (I.ofNat .i64 (@a0I a0B h3)))),((I.conv (k:=.i64) .u64 (I.add (I.add (I.rem a (I.ofNat .i64 (@a0I a0B h3))) (I.of .i64 1)) (I.rem (I.quo a (I.of .i64 7)) (I.sub (I.ofNat .i64 (@a0I a0B h3)) (I.rem a (I.ofNat .i64 (@a0I a0B h3))))))),((@rdL a0B a0O h3 (I.nat (I.rem a (I.ofNat .i64 (@a0I a0B h3))))).2.1,((@rdL a0B a0O h3 (I.nat (I.rem a (I.ofNat .i64 (@a0I a0B h3))))).2.2.1,((@a2A a0G y0.2.1 (y1.1.1::[])),()))))),()),(h0,(h1,(h2,(h3,(h4,(h5,(h6,(h7,())))))))))) none) (brn (I.eqb (I.rem (I.quo a (I.of .i64 3)) (I.of .i64 12)) (I.of .i64 3)) (brn (I.nz (I.add (I.ofNat .i64 (@a0I a0B h3)) (I.of .i64 3))) (some ((((I.conv (k:=.i64) .u64 (I.rem a (I.ofNat .i64 (@a0I a0B h3)))),((I.conv (k:=.i64) .u64 (I.rem a (I.add (I.ofNat .i64 (@a0I a0B h3)) (I.of .i64 3)))),((@rdL a0B a0O h3 (I.nat (I.rem a (I.ofNat .i64 (@a0I a0B h3))))).2.1,((@rdL a0B a0O h3 (I.nat (I.rem a (I.ofNat .i64 (@a0I a0B h3))))).2.2.1,(y0.2.1,()))))),()),(h0,(h1,(h2,(h3,(h4,(h5,(h6,(h7,())))))))))) none) (some ((((I.conv (k:=.i64) .u64 (I.rem a (I.ofNat .i64 (@a0I a0B h3)))),((I.conv (k:=.i64) .u64 (I.add (I.add (I.rem a (I.ofNat .i64 (@a0I a0B h3))) (I.of .i64 1)) (I.rem (I.quo a (I.of .i64 7)) (I.sub (I.ofNat .i64 (@a0I a0B h3)) (I.rem a (I.ofNat .i64 (@a0I a0B h3))))))),((@rdL a0B a0O h3 (I.nat (I.rem a (I.ofNat .i64 (@a0I a0B h3))))).2.1,((@rdL a0B a0O h3 (I.nat (I.rem a (I.ofNat .i64 (@a0I a0B h3))))).2.2.1,(y0.2.1,()))))),()),(h0,(h1,(h2,(h3,(h4,(h5,(h6,(h7,())))))))))))))) none) none) none) none)
def a7X (K:Nat) (x:(⟨[.pl (.int .i64),.pl (.int .u64),.ptr 0 []],a0F⟩:Tm).D):Option (⟨[.pl a1R],a0F⟩:Tm).D :=
 let a:(I .i64):=x.1.1
 let b:(I .u64):=x.1.2.1
 let h0:a0W:=x.2.1
 let h1:a0M:=x.2.2.1
 let h2:a0U:=x.2.2.2.1
 let h3:(List a0B):=x.2.2.2.2.1
 let h4:(List a0E):=x.2.2.2.2.2.1
 let h5:(List a0G):=x.2.2.2.2.2.2.1
 let h6:(List (I .u64)):=x.2.2.2.2.2.2.2.1
 let h7:(List a0D):=x.2.2.2.2.2.2.2.2.1
 optF none (a3C K (((h4,h1.2),(b,())),())) fun y0=>brn (inB (I.rem a (I.of .i64 6)) 6) (optF none (a0C K ((h0.2.2.1.2.2.2.1,()),())) fun y1=>optF none (a0H K (((I.conv (k:=.i64) .u64 (I.add (I.of .i64 1) (I.rem a (I.of .i64 3)))),()),())) fun y2=>optF none (a1V K ((y1.1.1,(y2.1.1,())),())) fun y3=>optF none (a0R K ((y3.1.1,()),())) fun y4=>brn (inB' (I.rem (I.quo a (I.of .i64 5)) (I.of .i64 5)) 4) (optF none (a4K K (((@a3W (I .i64) (a::((I.quo a (I.of .i64 3))::((I.quo a (I.of .i64 7))::((I.quo a (I.of .i64 11))::[])))) 0 (I.nat (I.rem (I.quo a (I.of .i64 5)) (I.of .i64 5)))),()),())) fun y5=>brn (I.eqb (I.rem a (I.of .i64 29)) (I.of .i64 1)) (some (((b,((I.add y0.1.1.2.2.1 (I.of .u64 1)),((@Arr.sel (I .u64) (I.of .u64 0) 6 (I.of .u64 1,(I.of .u64 2,(I.of .u64 3,(I.of .u64 4,(I.of .u64 9,(I.of .u64 18446744073709551615,())))))) (I.nat (I.rem a (I.of .i64 6)))),(((I.mul (I.conv (k:=.i64) .u64 (I.rem (I.quo a (I.of .i64 6)) (I.of .i64 1000))) (I.of .u64 1000003)),(I.of .u64 0,(I.of .u64 0,(I.of .u64 0,())))),((I.add (I.of .u64 40000) (I.mul (I.conv (k:=.i64) .u64 (I.rem (I.quo a (I.of .i64 6000)) (I.of .i64 64))) (I.of .u64 5000))),(y4.1.1,(((I.mul (I.conv (k:=.i64) .u64 (I.rem a (I.of .i64 7))) (I.of .u64 100000)),(I.of .u64 0,(I.of .u64 0,(I.of .u64 0,())))),((I.mul (I.conv (k:=.i64) .u64 (I.rem (I.quo a (I.of .i64 11)) (I.of .i64 50))) (I.of .u64 3000)),(y5.1.1,()))))))))),()),(h0,(h1,(h2,(h3,(h4,(h5,(h6,(h7,())))))))))) (brn (I.eqb (I.rem a (I.of .i64 31)) (I.of .i64 2)) (some (((b,(y0.1.1.2.2.1,((@Arr.sel (I .u64) (I.of .u64 0) 6 (I.of .u64 1,(I.of .u64 2,(I.of .u64 3,(I.of .u64 4,(I.of .u64 9,(I.of .u64 18446744073709551615,())))))) (I.nat (I.rem a (I.of .i64 6)))),((I.of .u64 0,(I.of .u64 0,(I.of .u64 1,(I.of .u64 0,())))),((I.add (I.of .u64 40000) (I.mul (I.conv (k:=.i64) .u64 (I.rem (I.quo a (I.of .i64 6000)) (I.of .i64 64))) (I.of .u64 5000))),(y4.1.1,(((I.mul (I.conv (k:=.i64) .u64 (I.rem a (I.of .i64 7))) (I.of .u64 100000)),(I.of .u64 0,(I.of .u64 0,(I.of .u64 0,())))),((I.mul (I.conv (k:=.i64) .u64 (I.rem (I.quo a (I.of .i64 11)) (I.of .i64 50))) (I.of .u64 3000)),(y5.1.1,()))))))))),()),(h0,(h1,(h2,(h3,(h4,(h5,(h6,(h7,())))))))))) (brn (I.eqb (I.rem a (I.of .i64 37)) (I.of .i64 3)) (some (((b,(y0.1.1.2.2.1,((@Arr.sel (I .u64) (I.of .u64 0) 6 (I.of .u64 1,(I.of .u64 2,(I.of .u64 3,(I.of .u64 4,(I.of .u64 9,(I.of .u64 18446744073709551615,())))))) (I.nat (I.rem a (I.of .i64 6)))),(((I.mul (I.conv (k:=.i64) .u64 (I.rem (I.quo a (I.of .i64 6)) (I.of .i64 1000))) (I.of .u64 1000003)),(I.of .u64 0,(I.of .u64 0,(I.of .u64 0,())))),(I.of .u64 35184372088832,(y4.1.1,(((I.mul (I.conv (k:=.i64) .u64 (I.rem a (I.of .i64 7))) (I.of .u64 100000)),(I.of .u64 0,(I.of .u64 0,(I.of .u64 0,())))),((I.mul (I.conv (k:=.i64) .u64 (I.rem (I.quo a (I.of .i64 11)) (I.of .i64 50))) (I.of .u64 3000)),(y5.1.1,()))))))))),()),(h0,(h1,(h2,(h3,(h4,(h5,(h6,(h7,())))))))))) (brn (I.eqb (I.rem a (I.of .i64 41)) (I.of .i64 4)) (some (((b,(y0.1.1.2.2.1,((@Arr.sel (I .u64) (I.of .u64 0) 6 (I.of .u64 1,(I.of .u64 2,(I.of .u64 3,(I.of .u64 4,(I.of .u64 9,(I.of .u64 18446744073709551615,())))))) (I.nat (I.rem a (I.of .i64 6)))),(((I.mul (I.conv (k:=.i64) .u64 (I.rem (I.quo a (I.of .i64 6)) (I.of .i64 1000))) (I.of .u64 1000003)),(I.of .u64 0,(I.of .u64 0,(I.of .u64 0,())))),((I.add (I.of .u64 40000) (I.mul (I.conv (k:=.i64) .u64 (I.rem (I.quo a (I.of .i64 6000)) (I.of .i64 64))) (I.of .u64 5000))),((I.of .u64 1,(I.of .u64 0,(I.of .u64 0,(I.of .u64 0,())))),(((I.mul (I.conv (k:=.i64) .u64 (I.rem a (I.of .i64 7))) (I.of .u64 100000)),(I.of .u64 0,(I.of .u64 0,(I.of .u64 0,())))),((I.mul (I.conv (k:=.i64) .u64 (I.rem (I.quo a (I.of .i64 11)) (I.of .i64 50))) (I.of .u64 3000)),(y5.1.1,()))))))))),()),(h0,(h1,(h2,(h3,(h4,(h5,(h6,(h7,())))))))))) (brn (I.eqb (I.rem a (I.of .i64 43)) (I.of .i64 5)) (some (((b,(y0.1.1.2.2.1,(I.of .u64 0,(((I.mul (I.conv (k:=.i64) .u64 (I.rem (I.quo a (I.of .i64 6)) (I.of .i64 1000))) (I.of .u64 1000003)),(I.of .u64 0,(I.of .u64 0,(I.of .u64 0,())))),((I.add (I.of .u64 40000) (I.mul (I.conv (k:=.i64) .u64 (I.rem (I.quo a (I.of .i64 6000)) (I.of .i64 64))) (I.of .u64 5000))),(y4.1.1,(((I.mul (I.conv (k:=.i64) .u64 (I.rem a (I.of .i64 7))) (I.of .u64 100000)),(I.of .u64 0,(I.of .u64 0,(I.of .u64 0,())))),((I.mul (I.conv (k:=.i64) .u64 (I.rem (I.quo a (I.of .i64 11)) (I.of .i64 50))) (I.of .u64 3000)),(y5.1.1,()))))))))),()),(h0,(h1,(h2,(h3,(h4,(h5,(h6,(h7,())))))))))) (brn (I.eqb (I.rem a (I.of .i64 47)) (I.of .i64 6)) (optF none (b1U K ((),())) fun y6=>optF none (b1U K ((),())) fun y7=>some (((b,(y0.1.1.2.2.1,((@Arr.sel (I .u64) (I.of .u64 0) 6 (I.of .u64 1,(I.of .u64 2,(I.of .u64 3,(I.of .u64 4,(I.of .u64 9,(I.of .u64 18446744073709551615,())))))) (I.nat (I.rem a (I.of .i64 6)))),(((I.mul (I.conv (k:=.i64) .u64 (I.rem (I.quo a (I.of .i64 6)) (I.of .i64 1000))) (I.of .u64 1000003)),(I.of .u64 0,(I.of .u64 0,(I.of .u64 0,())))),((I.add (I.of .u64 40000) (I.mul (I.conv (k:=.i64) .u64 (I.rem (I.quo a (I.of .i64 6000)) (I.of .i64 64))) (I.of .u64 5000))),(y7.1.1,(y6.1.1,((I.mul (I.conv (k:=.i64) .u64 (I.rem (I.quo a (I.of .i64 11)) (I.of .i64 50))) (I.of .u64 3000)),(y5.1.1,()))))))))),()),(h0,(h1,(h2,(h3,(h4,(h5,(h6,(h7,())))))))))) (brn (I.eqb (I.rem a (I.of .i64 53)) (I.of .i64 7)) (some (((b,(y0.1.1.2.2.1,((@Arr.sel (I .u64) (I.of .u64 0) 6 (I.of .u64 1,(I.of .u64 2,(I.of .u64 3,(I.of .u64 4,(I.of .u64 9,(I.of .u64 18446744073709551615,())))))) (I.nat (I.rem a (I.of .i64 6)))),(((I.mul (I.conv (k:=.i64) .u64 (I.rem (I.quo a (I.of .i64 6)) (I.of .i64 1000))) (I.of .u64 1000003)),(I.of .u64 0,(I.of .u64 0,(I.of .u64 0,())))),((I.conv (k:=.i64) .u64 (I.rem a (I.of .i64 300))),(y4.1.1,(((I.mul (I.conv (k:=.i64) .u64 (I.rem a (I.of .i64 7))) (I.of .u64 100000)),(I.of .u64 0,(I.of .u64 0,(I.of .u64 0,())))),((I.mul (I.conv (k:=.i64) .u64 (I.rem (I.quo a (I.of .i64 11)) (I.of .i64 50))) (I.of .u64 3000)),(y5.1.1,()))))))))),()),(h0,(h1,(h2,(h3,(h4,(h5,(h6,(h7,())))))))))) (some (((b,(y0.1.1.2.2.1,((@Arr.sel (I .u64) (I.of .u64 0) 6 (I.of .u64 1,(I.of .u64 2,(I.of .u64 3,(I.of .u64 4,(I.of .u64 9,(I.of .u64 18446744073709551615,())))))) (I.nat (I.rem a (I.of .i64 6)))),(((I.mul (I.conv (k:=.i64) .u64 (I.rem (I.quo a (I.of .i64 6)) (I.of .i64 1000))) (I.of .u64 1000003)),(I.of .u64 0,(I.of .u64 0,(I.of .u64 0,())))),((I.add (I.of .u64 40000) (I.mul (I.conv (k:=.i64) .u64 (I.rem (I.quo a (I.of .i64 6000)) (I.of .i64 64))) (I.of .u64 5000))),(y4.1.1,(((I.mul (I.conv (k:=.i64) .u64 (I.rem a (I.of .i64 7))) (I.of .u64 100000)),(I.of .u64 0,(I.of .u64 0,(I.of .u64 0,())))),((I.mul (I.conv (k:=.i64) .u64 (I.rem (I.quo a (I.of .i64 11)) (I.of .i64 50))) (I.of .u64 3000)),(y5.1.1,()))))))))),()),(h0,(h1,(h2,(h3,(h4,(h5,(h6,(h7,()))))))))))))))))) none) none
def a9S (K:Nat) (x:(⟨[.pl (.int .i64),.ptr 0 [],.pl .bool],a0F⟩:Tm).D):Option (⟨[.pl a1M],a0F⟩:Tm).D :=
 let a:(I .i64):=x.1.1
 let b:Bool:=x.1.2.1
 let h0:a0W:=x.2.1
 let h1:a0M:=x.2.2.1
 let h2:a0U:=x.2.2.2.1
 let h3:(List a0B):=x.2.2.2.2.1
 let h4:(List a0E):=x.2.2.2.2.2.1
 let h5:(List a0G):=x.2.2.2.2.2.2.1
 let h6:(List (I .u64)):=x.2.2.2.2.2.2.2.1
 let h7:(List a0D):=x.2.2.2.2.2.2.2.2.1
 optF none (a7Z K ((a,(I.of .i64 4611686018427387904,())),())) fun y0=>jn (fun (x1:((Bool × ((I .u64) × ((I .i64) × ((I .i64) × (Bool × Unit))))) × (a0W × (a0M × ((List a0E) × ((List a0B) × (a0U × ((List a0G) × ((List (I .u64)) × ((List a0D) × (a1U × Unit)))))))))))=>brn x1.1.2.2.2.2.1 (optF none (b0Z K ((x1.1.2.2.1,(x1.1.2.1,(x1.1.1,()))),())) fun y2=>some ((y2.1.1,()),(x1.2.1,(x1.2.2.1,(x1.2.2.2.2.2.1,(x1.2.2.2.2.1,(x1.2.2.2.1,(x1.2.2.2.2.2.2.1,(x1.2.2.2.2.2.2.2.1,(x1.2.2.2.2.2.2.2.2.1,())))))))))) (jn (fun (x2:(((I .u64) × ((I .i64) × ((I .i64) × (Bool × Unit)))) × (a0W × (a0M × ((List a0E) × ((List a0B) × (a0U × ((List a0G) × ((List (I .u64)) × ((List a0D) × (a1U × Unit)))))))))))=>brn x2.1.2.2.2.1 (optF none (b1W K ((x2.1.2.1,()),(x2.2.1,(x2.2.2.1,(x2.2.2.2.2.2.1,(x2.2.2.2.2.1,(x2.2.2.2.1,(x2.2.2.2.2.2.2.1,(x2.2.2.2.2.2.2.2.1,(x2.2.2.2.2.2.2.2.2.1,())))))))))) fun y3=>some (((I.of .i64 2,((I.of .u64 0,(I.of .u64 0,(I.of .u64 0,(Z_U,(I.of .u64 0,(Z_U,(Z_U,(I.of .u64 0,([],()))))))))),(y3.1.1,(I.of .u64 0,(I.of .i64 0,(Z_U,(I.of .u64 0,((I.of .u64 0,(I.of .u64 0,(I.of .u64 0,(Z_U,([],()))))),())))))))),()),y3.2)) (brn (I.eqb x2.1.2.2.1 (I.of .i64 10)) (brn (I.eqb (I.rem x2.1.2.1 (I.of .i64 5)) (I.of .i64 0)) (some (((I.of .i64 3,((I.of .u64 0,(I.of .u64 0,(I.of .u64 0,(Z_U,(I.of .u64 0,(Z_U,(Z_U,(I.of .u64 0,([],()))))))))),(a0O,((I.conv (k:=.i64) .u64 (I.rem x2.1.2.1 (I.of .i64 3000))),(I.of .i64 0,(Z_U,(I.of .u64 0,((I.of .u64 0,(I.of .u64 0,(I.of .u64 0,(Z_U,([],()))))),())))))))),()),(x2.2.1,(x2.2.2.1,(x2.2.2.2.2.2.1,(x2.2.2.2.2.1,(x2.2.2.2.1,(x2.2.2.2.2.2.2.1,(x2.2.2.2.2.2.2.2.1,(x2.2.2.2.2.2.2.2.2.1,())))))))))) (some (((I.of .i64 3,((I.of .u64 0,(I.of .u64 0,(I.of .u64 0,(Z_U,(I.of .u64 0,(Z_U,(Z_U,(I.of .u64 0,([],()))))))))),(a0O,((I.conv (k:=.i64) .u64 (I.add (I.of .i64 1) (I.rem x2.1.2.1 (I.of .i64 30)))),(I.of .i64 0,(Z_U,(I.of .u64 0,((I.of .u64 0,(I.of .u64 0,(I.of .u64 0,(Z_U,([],()))))),())))))))),()),(x2.2.1,(x2.2.2.1,(x2.2.2.2.2.2.1,(x2.2.2.2.2.1,(x2.2.2.2.1,(x2.2.2.2.2.2.2.1,(x2.2.2.2.2.2.2.2.1,(x2.2.2.2.2.2.2.2.2.1,()))))))))))) (brn (I.eqb x2.1.2.2.1 (I.of .i64 11)) (optF none (b2S K ((x2.1.2.1,()),())) fun y3=>some ((y3.1.1,()),(x2.2.1,(x2.2.2.1,(x2.2.2.2.2.2.1,(x2.2.2.2.2.1,(x2.2.2.2.1,(x2.2.2.2.2.2.2.1,(x2.2.2.2.2.2.2.2.1,(x2.2.2.2.2.2.2.2.2.1,())))))))))) (brn (I.eqb x2.1.2.2.1 (I.of .i64 12)) (brn (I.eqb (I.rem x2.1.2.1 (I.of .i64 13)) (I.of .i64 0)) (some (((I.of .i64 5,((I.of .u64 0,(I.of .u64 0,(I.of .u64 0,(Z_U,(I.of .u64 0,(Z_U,(Z_U,(I.of .u64 0,([],()))))))))),(a0O,(I.of .u64 0,(I.of .i64 0,(Z_U,((I.conv (k:=.i64) .u64 (I.rem x2.1.2.1 (I.of .i64 9))),((I.of .u64 0,(I.of .u64 0,(I.of .u64 0,(Z_U,([],()))))),())))))))),()),(x2.2.1,(x2.2.2.1,(x2.2.2.2.2.2.1,(x2.2.2.2.2.1,(x2.2.2.2.1,(x2.2.2.2.2.2.2.1,(x2.2.2.2.2.2.2.2.1,(x2.2.2.2.2.2.2.2.2.1,())))))))))) (some (((I.of .i64 5,((I.of .u64 0,(I.of .u64 0,(I.of .u64 0,(Z_U,(I.of .u64 0,(Z_U,(Z_U,(I.of .u64 0,([],()))))))))),(a0O,(I.of .u64 0,(I.of .i64 0,(Z_U,((I.conv (k:=.i64) .u64 (I.add (I.of .i64 5) (I.rem x2.1.2.1 (I.of .i64 3)))),((I.of .u64 0,(I.of .u64 0,(I.of .u64 0,(Z_U,([],()))))),())))))))),()),(x2.2.1,(x2.2.2.1,(x2.2.2.2.2.2.1,(x2.2.2.2.2.1,(x2.2.2.2.1,(x2.2.2.2.2.2.2.1,(x2.2.2.2.2.2.2.2.1,(x2.2.2.2.2.2.2.2.2.1,()))))))))))) (jn (fun (x3:(((I .u64) × ((I .i64) × (Bool × Unit))) × (a0W × (a0M × ((List a0E) × ((List a0B) × (a0U × ((List a0G) × ((List (I .u64)) × ((List a0D) × (a1U × Unit)))))))))))=>brn x3.1.2.2.1 (optF none (b2T K ((x3.1.2.1,()),(x3.2.1,(x3.2.2.1,(x3.2.2.2.2.2.1,(x3.2.2.2.2.1,(x3.2.2.2.1,(x3.2.2.2.2.2.2.1,(x3.2.2.2.2.2.2.2.1,(x3.2.2.2.2.2.2.2.2.1,())))))))))) fun y4=>some (((I.of .i64 7,((I.of .u64 0,(I.of .u64 0,(I.of .u64 0,(Z_U,(I.of .u64 0,(Z_U,(Z_U,(I.of .u64 0,([],()))))))))),(a0O,(I.of .u64 0,(I.of .i64 0,(Z_U,(I.of .u64 0,(y4.1.1,())))))))),()),y4.2)) (optF none (a7X K ((x3.1.2.1,(x3.1.1,())),(x3.2.1,(x3.2.2.1,(x3.2.2.2.2.2.1,(x3.2.2.2.2.1,(x3.2.2.2.1,(x3.2.2.2.2.2.2.1,(x3.2.2.2.2.2.2.2.1,(x3.2.2.2.2.2.2.2.2.1,())))))))))) fun y4=>some (((I.of .i64 1,(y4.1.1,(a0O,(I.of .u64 0,(I.of .i64 0,(Z_U,(I.of .u64 0,((I.of .u64 0,(I.of .u64 0,(I.of .u64 0,(Z_U,([],()))))),())))))))),()),y4.2))) fun j3=>brn (I.eqb x2.1.2.2.1 (I.of .i64 13)) (j3 ((x2.1.1,(x2.1.2.1,((I.eqb x2.1.2.2.1 (I.of .i64 13)),()))),(x2.2.1,(x2.2.2.1,(x2.2.2.2.1,(x2.2.2.2.2.1,(x2.2.2.2.2.2.1,(x2.2.2.2.2.2.2.1,(x2.2.2.2.2.2.2.2.1,(x2.2.2.2.2.2.2.2.2.1,(x2.2.2.2.2.2.2.2.2.2.1,()))))))))))) (j3 ((x2.1.1,(x2.1.2.1,((I.eqb x2.1.2.2.1 (I.of .i64 14)),()))),(x2.2.1,(x2.2.2.1,(x2.2.2.2.1,(x2.2.2.2.2.1,(x2.2.2.2.2.2.1,(x2.2.2.2.2.2.2.1,(x2.2.2.2.2.2.2.2.1,(x2.2.2.2.2.2.2.2.2.1,(x2.2.2.2.2.2.2.2.2.2.1,())))))))))))))))) fun j2=>brn (I.eqb x1.1.2.2.2.1 (I.of .i64 8)) (j2 ((x1.1.2.1,(x1.1.2.2.1,(x1.1.2.2.2.1,((I.eqb x1.1.2.2.2.1 (I.of .i64 8)),())))),(x1.2.1,(x1.2.2.1,(x1.2.2.2.1,(x1.2.2.2.2.1,(x1.2.2.2.2.2.1,(x1.2.2.2.2.2.2.1,(x1.2.2.2.2.2.2.2.1,(x1.2.2.2.2.2.2.2.2.1,(x1.2.2.2.2.2.2.2.2.2.1,()))))))))))) (j2 ((x1.1.2.1,(x1.1.2.2.1,(x1.1.2.2.2.1,((I.eqb x1.1.2.2.2.1 (I.of .i64 9)),())))),(x1.2.1,(x1.2.2.1,(x1.2.2.2.1,(x1.2.2.2.2.1,(x1.2.2.2.2.2.1,(x1.2.2.2.2.2.2.1,(x1.2.2.2.2.2.2.2.1,(x1.2.2.2.2.2.2.2.2.1,(x1.2.2.2.2.2.2.2.2.2.1,()))))))))))))) fun j1=>brn (I.eqb (I.rem y0.1.1 (I.of .i64 16)) (I.of .i64 0)) (j1 ((b,((I.conv (k:=.i64) .u64 (I.add (I.of .i64 1) (I.rem (I.quo y0.1.1 (I.of .i64 16)) (I.of .i64 4)))),((I.quo y0.1.1 (I.of .i64 64)),((I.rem y0.1.1 (I.of .i64 16)),((I.eqb (I.rem y0.1.1 (I.of .i64 16)) (I.of .i64 0)),()))))),(h0,(h1,(h4,(h3,(h2,(h5,(h6,(h7,((I.of .i64 0,((I.of .u64 0,(I.of .u64 0,(I.of .u64 0,(Z_U,(I.of .u64 0,(Z_U,(Z_U,(I.of .u64 0,([],()))))))))),(a0O,(I.of .u64 0,(I.of .i64 0,(Z_U,(I.of .u64 0,((I.of .u64 0,(I.of .u64 0,(I.of .u64 0,(Z_U,([],()))))),())))))))),()))))))))))) (j1 ((b,((I.conv (k:=.i64) .u64 (I.add (I.of .i64 1) (I.rem (I.quo y0.1.1 (I.of .i64 16)) (I.of .i64 4)))),((I.quo y0.1.1 (I.of .i64 64)),((I.rem y0.1.1 (I.of .i64 16)),((I.eqb (I.rem y0.1.1 (I.of .i64 16)) (I.of .i64 1)),()))))),(h0,(h1,(h4,(h3,(h2,(h5,(h6,(h7,((I.of .i64 0,((I.of .u64 0,(I.of .u64 0,(I.of .u64 0,(Z_U,(I.of .u64 0,(Z_U,(Z_U,(I.of .u64 0,([],()))))))))),(a0O,(I.of .u64 0,(I.of .i64 0,(Z_U,(I.of .u64 0,((I.of .u64 0,(I.of .u64 0,(I.of .u64 0,(Z_U,([],()))))),())))))))),())))))))))))
def a7S (K:Nat) (x:(⟨[.pl (.sl (.int .i64)),.pl .bool],[]⟩:Tm).D):Option (⟨[.ptr 0 [],.whole 8,.whole 9],[.box a1I (.pair (.pl (.int .u64)) (.pair (.pl a0Q) (.pair (.pl a1P) (.pair (.pl (.int .u64)) (.pair (.pl a0Z) (.pair (.ptr 1 []) (.pair (.whole 3) (.pair (.ptr 2 []) (.pl .nil))))))))),.box a0K (.pair (.whole 4) (.pl (.cons (.arr 4 a1Q) .nil))),.box a0S (.pair (.pl a1Q) (.pair (.whole 5) (.pair (.whole 6) (.pair (.whole 7) (.pl .nil))))),.row a0P,.row a0X,.row (.arr 32 (.int .u8)),.row (.int .u64),.row a0Y,.row a1M,.row a1W]⟩:Tm).D :=
 let a:(List (I .i64)):=x.1.1
 let b:Bool:=x.1.2.1
 optF none (b4C K ((),())) fun y0=>optF none (b1J K ((),())) fun y1=>iter none (fun (x2:(((List (I .i64)) × (Bool × ((I .i64) × Unit))) × (a0W × (a0M × ((List a0E) × ((List a0B) × (a0U × ((List a0G) × ((List (I .u64)) × ((List a0D) × ((List a1U) × ((List a1Z) × Unit))))))))))))=>brn (I.ltb x2.1.2.2.1 (I.ofNat .i64 (@a0I a1U x2.2.2.2.2.2.2.2.2.2.1))) (brn (inB x2.1.2.2.1 (@a0I a1U x2.2.2.2.2.2.2.2.2.2.1)) (optF (.done none) (a4D K (((@rdL a1U (I.of .i64 0,((I.of .u64 0,(I.of .u64 0,(I.of .u64 0,(Z_U,(I.of .u64 0,(Z_U,(Z_U,(I.of .u64 0,([],()))))))))),(a0O,(I.of .u64 0,(I.of .i64 0,(Z_U,(I.of .u64 0,((I.of .u64 0,(I.of .u64 0,(I.of .u64 0,(Z_U,([],()))))),())))))))) x2.2.2.2.2.2.2.2.2.2.1 (I.nat x2.1.2.2.1)),()),(x2.2.1,(x2.2.2.1,(x2.2.2.2.2.2.1,(x2.2.2.2.2.1,(x2.2.2.2.1,(x2.2.2.2.2.2.2.1,(x2.2.2.2.2.2.2.2.1,(x2.2.2.2.2.2.2.2.2.1,())))))))))) fun y3=>brn (a1E (@a0I a1Z (@a2A a1Z x2.2.2.2.2.2.2.2.2.2.2.1 (y3.1.1::[])))) (.again ((x2.1.1,(x2.1.2.1,((I.add x2.1.2.2.1 (I.of .i64 1)),()))),(y3.2.1,(y3.2.2.1,(y3.2.2.2.2.2.1,(y3.2.2.2.2.1,(y3.2.2.2.1,(y3.2.2.2.2.2.2.1,(y3.2.2.2.2.2.2.2.1,(y3.2.2.2.2.2.2.2.2.1,(x2.2.2.2.2.2.2.2.2.2.1,((@a2A a1Z x2.2.2.2.2.2.2.2.2.2.2.1 (y3.1.1::[])),())))))))))))) (.done none)) (.done none)) (.done (iter none (fun x3=>brn (I.ltb x3.1.2.2.1 (I.ofNat .i64 (@a0I (I .i64) x3.1.1))) (brn (inB x3.1.2.2.1 (@a0I (I .i64) x3.1.1)) (optF (.done none) (a9S K (((@rdL (I .i64) (I.of .i64 0) x3.1.1 (I.nat x3.1.2.2.1)),(x3.1.2.1,())),(x3.2.1,(x3.2.2.1,(x3.2.2.2.2.2.1,(x3.2.2.2.2.1,(x3.2.2.2.1,(x3.2.2.2.2.2.2.1,(x3.2.2.2.2.2.2.2.1,(x3.2.2.2.2.2.2.2.2.1,())))))))))) fun y4=>brn (a1E (@a0I a1U (@a2A a1U x3.2.2.2.2.2.2.2.2.2.1 (y4.1.1::[])))) (optF (.done none) (a4D K ((y4.1.1,()),y4.2)) fun y5=>brn (a1E (@a0I a1Z (@a2A a1Z x3.2.2.2.2.2.2.2.2.2.2.1 (y5.1.1::[])))) (.again ((x3.1.1,(x3.1.2.1,((I.add x3.1.2.2.1 (I.of .i64 1)),()))),(y5.2.1,(y5.2.2.1,(y5.2.2.2.2.2.1,(y5.2.2.2.2.1,(y5.2.2.2.1,(y5.2.2.2.2.2.2.1,(y5.2.2.2.2.2.2.2.1,(y5.2.2.2.2.2.2.2.2.1,((@a2A a1U x3.2.2.2.2.2.2.2.2.2.1 (y4.1.1::[])),((@a2A a1Z x3.2.2.2.2.2.2.2.2.2.2.1 (y5.1.1::[])),())))))))))))) (.done none)) (.done none)) (.done none)) (.done (some ((),(x3.2.1,(x3.2.2.1,(x3.2.2.2.2.2.1,(x3.2.2.2.2.1,(x3.2.2.2.1,(x3.2.2.2.2.2.2.1,(x3.2.2.2.2.2.2.2.1,(x3.2.2.2.2.2.2.2.2.1,(x3.2.2.2.2.2.2.2.2.2.1,(x3.2.2.2.2.2.2.2.2.2.2.1,())))))))))))))) K ((x2.1.1,(x2.1.2.1,(I.of .i64 0,()))),(x2.2.1,(x2.2.2.1,(x2.2.2.2.1,(x2.2.2.2.2.1,(x2.2.2.2.2.2.1,(x2.2.2.2.2.2.2.1,(x2.2.2.2.2.2.2.2.1,(x2.2.2.2.2.2.2.2.2.1,(x2.2.2.2.2.2.2.2.2.2.1,(x2.2.2.2.2.2.2.2.2.2.2.1,())))))))))))))) K ((a,(b,(I.of .i64 0,()))),(y0.2.1,(y0.2.2.1,(y0.2.2.2.2.2.1,(y0.2.2.2.2.1,(y0.2.2.2.1,(y0.2.2.2.2.2.2.1,(y0.2.2.2.2.2.2.2.1,(y0.2.2.2.2.2.2.2.2.1,(y1.2.1,([],())))))))))))
def b9H (K:Nat) (x:(⟨[.pl (.sl a1M),.pl (.sl a1W)],[]⟩:Tm).D):Option (⟨[.pl a3A,.pl (.int .i64)],[]⟩:Tm).D :=
 let a:(List a1U):=x.1.1
 let b:(List a1Z):=x.1.2.1
 brn (I.neb (I.ofNat .i64 (@a0I a1U a)) (I.ofNat .i64 (@a0I a1Z b))) (some ((a2Z,(I.of .i64 2,())),())) (iter none (fun x0=>brn (I.ltb x0.1.2.2.2.2.1 x0.1.2.2.2.1) (brn (inB x0.1.2.2.2.2.1 (@a0I a1Z x0.1.2.2.1)) (brn (I.eqb (@rdL a1Z (I.of .i64 0,(I.of .i64 0,(a2F,(Z_U,(Z_U,(I.of .u64 0,(Z_U,(Z_U,([],()))))))))) x0.1.2.2.1 (I.nat x0.1.2.2.2.2.1)).2.1 (I.of .i64 0)) (brn (inB x0.1.2.2.2.2.1 (@a0I a1U x0.1.1)) (brn (I.neb (@rdL a1Z (I.of .i64 0,(I.of .i64 0,(a2F,(Z_U,(Z_U,(I.of .u64 0,(Z_U,(Z_U,([],()))))))))) x0.1.2.2.1 (I.nat x0.1.2.2.2.2.1)).1 (@rdL a1U (I.of .i64 0,((I.of .u64 0,(I.of .u64 0,(I.of .u64 0,(Z_U,(I.of .u64 0,(Z_U,(Z_U,(I.of .u64 0,([],()))))))))),(a0O,(I.of .u64 0,(I.of .i64 0,(Z_U,(I.of .u64 0,((I.of .u64 0,(I.of .u64 0,(I.of .u64 0,(Z_U,([],()))))),())))))))) x0.1.1 (I.nat x0.1.2.2.2.2.1)).1) (.done (some ((a2Z,(I.of .i64 2,())),()))) (.again ((x0.1.1,(x0.1.2.1,(x0.1.2.2.1,(x0.1.2.2.2.1,((I.add x0.1.2.2.2.2.1 (I.of .i64 1)),()))))),(x0.2.1,())))) (.done none)) (.again ((x0.1.1,(x0.1.2.1,(x0.1.2.2.1,(x0.1.2.2.2.1,((I.add x0.1.2.2.2.2.1 (I.of .i64 1)),()))))),(x0.2.1,())))) (.done none)) (.done (iter none (fun x1=>brn (I.ltb x1.1.2.2.2.1 x1.1.2.2.1) (brn (inB x1.1.2.2.2.1 (@a0I a1Z x1.1.2.1)) (brn (I.eqb (@rdL a1Z (I.of .i64 0,(I.of .i64 0,(a2F,(Z_U,(Z_U,(I.of .u64 0,(Z_U,(Z_U,([],()))))))))) x1.1.2.1 (I.nat x1.1.2.2.2.1)).2.1 (I.of .i64 0)) (brn (inB x1.1.2.2.2.1 (@a0I a1U x1.1.1)) (iter (.done none) (fun (x2:(((List a0B) × ((I .i64) × ((I .i64) × ((List a1U) × ((List a1Z) × ((I .i64) × ((I .i64) × Unit))))))) × ((Bool × Unit) × (b4S × (a1U × (a1Z × (b4S × Unit)))))))=>brn (I.ltb x2.1.2.2.1 x2.1.2.1) (brn (inB x2.1.2.2.1 (@a0I a0B x2.1.1)) (optF (.done (.done none)) (a3Z ((x2.2.2.1.2.1,((@rdL a0B a0O x2.1.1 (I.nat x2.1.2.2.1)).2.2.1,())),())) fun y3=>brn x2.2.1.1 (.again ((x2.1.1,(x2.1.2.1,((I.add x2.1.2.2.1 (I.of .i64 1)),(x2.1.2.2.2.1,(x2.1.2.2.2.2.1,(x2.1.2.2.2.2.2.1,(x2.1.2.2.2.2.2.2.1,()))))))),((true,x2.2.1.2),((x2.2.2.1.1,(y3.1.1,x2.2.2.1.2.2)),(x2.2.2.2.1,(x2.2.2.2.2.1,(x2.2.2.2.2.2.1,()))))))) (.again ((x2.1.1,(x2.1.2.1,((I.add x2.1.2.2.1 (I.of .i64 1)),(x2.1.2.2.2.1,(x2.1.2.2.2.2.1,(x2.1.2.2.2.2.2.1,(x2.1.2.2.2.2.2.2.1,()))))))),(((I.neb y3.1.2.1 (I.of .i64 0)),x2.2.1.2),((x2.2.2.1.1,(y3.1.1,x2.2.2.1.2.2)),(x2.2.2.2.1,(x2.2.2.2.2.1,(x2.2.2.2.2.2.1,())))))))) (.done (.done none))) (.done (brn (I.eqb x2.2.2.2.1.1 (I.of .i64 1)) (optF (.done none) (a3Z ((x2.2.2.1.2.2.2.1,(x2.2.2.2.2.1.2.2.1.2.2.2.2.2.2.1,())),())) fun y3=>brn x2.2.1.1 (optF (.done none) (a3Z ((x2.2.2.1.2.2.2.2.1,(x2.2.2.2.2.1.2.2.1.2.2.2.2.2.2.2.1,())),())) fun y4=>optF (.done none) (a3Z ((x2.2.2.1.2.2.2.2.2.1,(x2.2.2.2.2.1.2.2.1.2.2.2.2.2.2.2.2.1,())),())) fun y5=>optF (.done none) (a3Z ((x2.2.2.1.2.2.2.2.2.2.1,(x2.2.2.2.2.1.2.2.1.2.2.2.2.2.2.2.2.2.1,())),())) fun y6=>.again ((x2.1.2.2.2.1,(x2.1.2.2.2.2.1,(x2.1.2.2.2.2.2.1,((I.add x2.1.2.2.2.2.2.2.1 (I.of .i64 1)),())))),(x2.2.2.2.2.2.1,((x2.2.2.1.1,(x2.2.2.1.2.1,(x2.2.2.1.2.2.1,(y3.1.1,(y4.1.1,(y5.1.1,(y6.1.1,x2.2.2.1.2.2.2.2.2.2.2))))))),((true,x2.2.1.2),()))))) (optF (.done none) (a3Z ((x2.2.2.1.2.2.2.2.1,(x2.2.2.2.2.1.2.2.1.2.2.2.2.2.2.2.1,())),())) fun y4=>brn (I.neb y3.1.2.1 (I.of .i64 0)) (optF (.done none) (a3Z ((x2.2.2.1.2.2.2.2.2.1,(x2.2.2.2.2.1.2.2.1.2.2.2.2.2.2.2.2.1,())),())) fun y5=>optF (.done none) (a3Z ((x2.2.2.1.2.2.2.2.2.2.1,(x2.2.2.2.2.1.2.2.1.2.2.2.2.2.2.2.2.2.1,())),())) fun y6=>.again ((x2.1.2.2.2.1,(x2.1.2.2.2.2.1,(x2.1.2.2.2.2.2.1,((I.add x2.1.2.2.2.2.2.2.1 (I.of .i64 1)),())))),(x2.2.2.2.2.2.1,((x2.2.2.1.1,(x2.2.2.1.2.1,(x2.2.2.1.2.2.1,(y3.1.1,(y4.1.1,(y5.1.1,(y6.1.1,x2.2.2.1.2.2.2.2.2.2.2))))))),((true,x2.2.1.2),()))))) (optF (.done none) (a3Z ((x2.2.2.1.2.2.2.2.2.1,(x2.2.2.2.2.1.2.2.1.2.2.2.2.2.2.2.2.1,())),())) fun y5=>brn (I.neb y4.1.2.1 (I.of .i64 0)) (optF (.done none) (a3Z ((x2.2.2.1.2.2.2.2.2.2.1,(x2.2.2.2.2.1.2.2.1.2.2.2.2.2.2.2.2.2.1,())),())) fun y6=>.again ((x2.1.2.2.2.1,(x2.1.2.2.2.2.1,(x2.1.2.2.2.2.2.1,((I.add x2.1.2.2.2.2.2.2.1 (I.of .i64 1)),())))),(x2.2.2.2.2.2.1,((x2.2.2.1.1,(x2.2.2.1.2.1,(x2.2.2.1.2.2.1,(y3.1.1,(y4.1.1,(y5.1.1,(y6.1.1,x2.2.2.1.2.2.2.2.2.2.2))))))),((true,x2.2.1.2),()))))) (optF (.done none) (a3Z ((x2.2.2.1.2.2.2.2.2.2.1,(x2.2.2.2.2.1.2.2.1.2.2.2.2.2.2.2.2.2.1,())),())) fun y6=>brn (I.neb y5.1.2.1 (I.of .i64 0)) (.again ((x2.1.2.2.2.1,(x2.1.2.2.2.2.1,(x2.1.2.2.2.2.2.1,((I.add x2.1.2.2.2.2.2.2.1 (I.of .i64 1)),())))),(x2.2.2.2.2.2.1,((x2.2.2.1.1,(x2.2.2.1.2.1,(x2.2.2.1.2.2.1,(y3.1.1,(y4.1.1,(y5.1.1,(y6.1.1,x2.2.2.1.2.2.2.2.2.2.2))))))),((true,x2.2.1.2),()))))) (.again ((x2.1.2.2.2.1,(x2.1.2.2.2.2.1,(x2.1.2.2.2.2.2.1,((I.add x2.1.2.2.2.2.2.2.1 (I.of .i64 1)),())))),(x2.2.2.2.2.2.1,((x2.2.2.1.1,(x2.2.2.1.2.1,(x2.2.2.1.2.2.1,(y3.1.1,(y4.1.1,(y5.1.1,(y6.1.1,x2.2.2.1.2.2.2.2.2.2.2))))))),(((I.neb y6.1.2.1 (I.of .i64 0)),x2.2.1.2),()))))))))) (brn (I.eqb x2.2.2.2.1.1 (I.of .i64 2)) (optF (.done none) (a3Z ((x2.2.2.1.2.2.2.2.2.2.2.1,(x2.2.2.2.2.1.2.2.2.2.2.2.2.1,())),())) fun y3=>brn x2.2.1.1 (.again ((x2.1.2.2.2.1,(x2.1.2.2.2.2.1,(x2.1.2.2.2.2.2.1,((I.add x2.1.2.2.2.2.2.2.1 (I.of .i64 1)),())))),(x2.2.2.2.2.2.1,((x2.2.2.1.1,(x2.2.2.1.2.1,(x2.2.2.1.2.2.1,(x2.2.2.1.2.2.2.1,(x2.2.2.1.2.2.2.2.1,(x2.2.2.1.2.2.2.2.2.1,(x2.2.2.1.2.2.2.2.2.2.1,(y3.1.1,x2.2.2.1.2.2.2.2.2.2.2.2)))))))),((true,x2.2.1.2),()))))) (.again ((x2.1.2.2.2.1,(x2.1.2.2.2.2.1,(x2.1.2.2.2.2.2.1,((I.add x2.1.2.2.2.2.2.2.1 (I.of .i64 1)),())))),(x2.2.2.2.2.2.1,((x2.2.2.1.1,(x2.2.2.1.2.1,(x2.2.2.1.2.2.1,(x2.2.2.1.2.2.2.1,(x2.2.2.1.2.2.2.2.1,(x2.2.2.1.2.2.2.2.2.1,(x2.2.2.1.2.2.2.2.2.2.1,(y3.1.1,x2.2.2.1.2.2.2.2.2.2.2.2)))))))),(((I.neb y3.1.2.1 (I.of .i64 0)),x2.2.1.2),())))))) (brn (I.eqb x2.2.2.2.1.1 (I.of .i64 6)) (optF (.done none) (a3Z ((x2.2.2.1.1,(x2.2.2.2.1.2.2.2.2.2.1,())),())) fun y3=>brn x2.2.1.1 (.again ((x2.1.2.2.2.1,(x2.1.2.2.2.2.1,(x2.1.2.2.2.2.2.1,((I.add x2.1.2.2.2.2.2.2.1 (I.of .i64 1)),())))),(x2.2.2.2.2.2.1,((y3.1.1,x2.2.2.1.2),((true,x2.2.1.2),()))))) (.again ((x2.1.2.2.2.1,(x2.1.2.2.2.2.1,(x2.1.2.2.2.2.2.1,((I.add x2.1.2.2.2.2.2.2.1 (I.of .i64 1)),())))),(x2.2.2.2.2.2.1,((y3.1.1,x2.2.2.1.2),(((I.neb y3.1.2.1 (I.of .i64 0)),x2.2.1.2),())))))) (brn (I.eqb x2.2.2.2.1.1 (I.of .i64 7)) (optF (.done none) (a3Z ((x2.2.2.1.2.2.1,(x2.2.2.2.1.2.2.2.2.2.2.2.1.2.2.2.1,())),())) fun y3=>brn x2.2.1.1 (.again ((x2.1.2.2.2.1,(x2.1.2.2.2.2.1,(x2.1.2.2.2.2.2.1,((I.add x2.1.2.2.2.2.2.2.1 (I.of .i64 1)),())))),(x2.2.2.2.2.2.1,((x2.2.2.1.1,(x2.2.2.1.2.1,(y3.1.1,x2.2.2.1.2.2.2))),((true,x2.2.1.2),()))))) (.again ((x2.1.2.2.2.1,(x2.1.2.2.2.2.1,(x2.1.2.2.2.2.2.1,((I.add x2.1.2.2.2.2.2.2.1 (I.of .i64 1)),())))),(x2.2.2.2.2.2.1,((x2.2.2.1.1,(x2.2.2.1.2.1,(y3.1.1,x2.2.2.1.2.2.2))),(((I.neb y3.1.2.1 (I.of .i64 0)),x2.2.1.2),())))))) (.again ((x2.1.2.2.2.1,(x2.1.2.2.2.2.1,(x2.1.2.2.2.2.2.1,((I.add x2.1.2.2.2.2.2.2.1 (I.of .i64 1)),())))),(x2.2.2.2.2.2.1,(x2.2.2.1,(x2.2.1,()))))))))))) K (((@rdL a1Z (I.of .i64 0,(I.of .i64 0,(a2F,(Z_U,(Z_U,(I.of .u64 0,(Z_U,(Z_U,([],()))))))))) x1.1.2.1 (I.nat x1.1.2.2.2.1)).2.2.2.2.2.2.2.2.1,((I.ofNat .i64 (@a0I a0B (@rdL a1Z (I.of .i64 0,(I.of .i64 0,(a2F,(Z_U,(Z_U,(I.of .u64 0,(Z_U,(Z_U,([],()))))))))) x1.1.2.1 (I.nat x1.1.2.2.2.1)).2.2.2.2.2.2.2.2.1)),(I.of .i64 0,(x1.1.1,(x1.1.2.1,(x1.1.2.2.1,(x1.1.2.2.2.1,()))))))),(x1.2.2.2.1,(x1.2.2.1,((@rdL a1U (I.of .i64 0,((I.of .u64 0,(I.of .u64 0,(I.of .u64 0,(Z_U,(I.of .u64 0,(Z_U,(Z_U,(I.of .u64 0,([],()))))))))),(a0O,(I.of .u64 0,(I.of .i64 0,(Z_U,(I.of .u64 0,((I.of .u64 0,(I.of .u64 0,(I.of .u64 0,(Z_U,([],()))))),())))))))) x1.1.1 (I.nat x1.1.2.2.2.1)),((@rdL a1Z (I.of .i64 0,(I.of .i64 0,(a2F,(Z_U,(Z_U,(I.of .u64 0,(Z_U,(Z_U,([],()))))))))) x1.1.2.1 (I.nat x1.1.2.2.2.1)),(x1.2.1,()))))))) (.done none)) (.again ((x1.1.1,(x1.1.2.1,(x1.1.2.2.1,((I.add x1.1.2.2.2.1 (I.of .i64 1)),())))),(x1.2.1,(x1.2.2.1,(x1.2.2.2.1,())))))) (.done none)) (.done (brn x1.2.2.2.1.1 (some ((a2Z,(I.of .i64 4,())),())) (some ((x1.2.2.1,(I.of .i64 0,())),()))))) K ((x0.1.1,(x0.1.2.1,((I.ofNat .i64 (@a0I a1Z x0.1.2.1)),(I.of .i64 0,())))),(x0.2.1,(a2Z,((false,()),()))))))) K ((a,(b,(b,((I.ofNat .i64 (@a0I a1Z b)),(I.of .i64 0,()))))),(a2Z,())))
def a5S (K:Nat) (x:(⟨[.bp a0K],[]⟩:Tm).D):Option (⟨[.whole 0],[.row a0X]⟩:Tm).D :=
 let a:a3D:=x.1.1
 iter none (fun (x0:((a3D × ((I .i64) × Unit)) × ((List a0E) × Unit)))=>brn (I.ltb x0.1.2.1 (I.ofNat .i64 (@a0I a0E x0.1.1.1))) (brn (inB x0.1.2.1 (@a0I a0E x0.1.1.1)) (jn (fun (x1:((a3D × ((I .i64) × Unit)) × ((List a0E) × (a0E × Unit))))=>jn (fun (x2:((a3D × ((I .i64) × ((I .i64) × Unit))) × ((List a0E) × (a0E × Unit))))=>brn (inB' x2.1.2.2.1 (@a0I a0E x2.2.1)) (brn (eqV x2.1.2.2.1 x2.1.2.2.1) (brn (inB' x2.1.2.2.1 (@a0I a0E x2.2.1)) (brn (a1E (@a0I a0E (@a2A a0E (x2.2.2.1::[]) (@a3W a0E x2.2.1 (I.nat x2.1.2.2.1) ((@a0I a0E x2.2.1) - (I.nat x2.1.2.2.1)))))) (brn (a1E (@a0I a0E (@a2A a0E (@a3W a0E x2.2.1 0 (I.nat x2.1.2.2.1)) (@a2A a0E (x2.2.2.1::[]) (@a3W a0E x2.2.1 (I.nat x2.1.2.2.1) ((@a0I a0E x2.2.1) - (I.nat x2.1.2.2.1))))))) (brn (c6A (@a0I a0E (@a2A a0E (x2.2.2.1::[]) (@a3W a0E x2.2.1 (I.nat x2.1.2.2.1) ((@a0I a0E x2.2.1) - (I.nat x2.1.2.2.1)))))) (.done none) (.again ((x2.1.1,((I.add x2.1.2.1 (I.of .i64 1)),())),((@a2A a0E (@a3W a0E x2.2.1 0 (I.nat x2.1.2.2.1)) (@a2A a0E (x2.2.2.1::[]) (@a3W a0E x2.2.1 (I.nat x2.1.2.2.1) ((@a0I a0E x2.2.1) - (I.nat x2.1.2.2.1))))),())))) (.done none)) (.done none)) (.done none)) (.done none)) (.done none)) fun j2=>iter (.done none) (fun x3=>brn (I.ltb (I.of .i64 0) x3.1.2.2.1) (brn (inB (I.sub x3.1.2.2.1 (I.of .i64 1)) (@a0I a0E x3.2.1)) (brn (I.ltb x3.2.2.1.1 (@rdL a0E a1G x3.2.1 (I.nat (I.sub x3.1.2.2.1 (I.of .i64 1)))).1) (.again ((x3.1.1,(x3.1.2.1,((I.sub x3.1.2.2.1 (I.of .i64 1)),()))),(x3.2.1,(x3.2.2.1,())))) (.done (j2 ((x3.1.1,(x3.1.2.1,(x3.1.2.2.1,()))),(x3.2.1,(x3.2.2.1,())))))) (.done (.done none))) (.done (j2 ((x3.1.1,(x3.1.2.1,(x3.1.2.2.1,()))),(x3.2.1,(x3.2.2.1,())))))) K ((x1.1.1,(x1.1.2.1,((I.ofNat .i64 (@a0I a0E x1.2.1)),()))),(x1.2.1,(x1.2.2.1,())))) fun j1=>optF (.done none) (a2E K (((@rdL a0E a1G x0.1.1.1 (I.nat x0.1.2.1)).2.1,()),())) fun y2=>brn y2.1.1 (brn (I.eqb (@rdL a0E a1G x0.1.1.1 (I.nat x0.1.2.1)).2.2.1 (I.of .u64 0)) (.again ((x0.1.1,((I.add x0.1.2.1 (I.of .i64 1)),())),(x0.2.1,()))) (j1 ((x0.1.1,(x0.1.2.1,())),(x0.2.1,((@rdL a0E a1G x0.1.1.1 (I.nat x0.1.2.1)),()))))) (j1 ((x0.1.1,(x0.1.2.1,())),(x0.2.1,((@rdL a0E a1G x0.1.1.1 (I.nat x0.1.2.1)),()))))) (.done none)) (.done (some ((),(x0.2.1,()))))) K ((a,(I.of .i64 0,())),([],()))
def a4X (K:Nat) (x:(⟨[.bp a0S],[]⟩:Tm).D):Option (⟨[.whole 0],[.row a0Y]⟩:Tm).D :=
 let a:a7A:=x.1.1
 iter none (fun (x0:((a7A × ((I .i64) × Unit)) × ((List a0D) × Unit)))=>brn (I.ltb x0.1.2.1 (I.ofNat .i64 (@a0I a0D x0.1.1.2.2.2.1))) (jn (fun (x1:((a7A × ((I .i64) × ((I .i64) × Unit))) × ((List a0D) × Unit)))=>brn (inB' x1.1.2.2.1 (@a0I a0D x1.2.1)) (brn (eqV x1.1.2.2.1 x1.1.2.2.1) (brn (inB x1.1.2.1 (@a0I a0D x1.1.1.2.2.2.1)) (brn (inB' x1.1.2.2.1 (@a0I a0D x1.2.1)) (brn (a1E (@a0I a0D (@a2A a0D ((@rdL a0D a1D x1.1.1.2.2.2.1 (I.nat x1.1.2.1))::[]) (@a3W a0D x1.2.1 (I.nat x1.1.2.2.1) ((@a0I a0D x1.2.1) - (I.nat x1.1.2.2.1)))))) (brn (a1E (@a0I a0D (@a2A a0D (@a3W a0D x1.2.1 0 (I.nat x1.1.2.2.1)) (@a2A a0D ((@rdL a0D a1D x1.1.1.2.2.2.1 (I.nat x1.1.2.1))::[]) (@a3W a0D x1.2.1 (I.nat x1.1.2.2.1) ((@a0I a0D x1.2.1) - (I.nat x1.1.2.2.1))))))) (brn (c6A (@a0I a0D (@a2A a0D ((@rdL a0D a1D x1.1.1.2.2.2.1 (I.nat x1.1.2.1))::[]) (@a3W a0D x1.2.1 (I.nat x1.1.2.2.1) ((@a0I a0D x1.2.1) - (I.nat x1.1.2.2.1)))))) (.done none) (.again ((x1.1.1,((I.add x1.1.2.1 (I.of .i64 1)),())),((@a2A a0D (@a3W a0D x1.2.1 0 (I.nat x1.1.2.2.1)) (@a2A a0D ((@rdL a0D a1D x1.1.1.2.2.2.1 (I.nat x1.1.2.1))::[]) (@a3W a0D x1.2.1 (I.nat x1.1.2.2.1) ((@a0I a0D x1.2.1) - (I.nat x1.1.2.2.1))))),())))) (.done none)) (.done none)) (.done none)) (.done none)) (.done none)) (.done none)) fun j1=>iter (.done none) (fun x2=>brn (I.ltb (I.of .i64 0) x2.1.2.2.1) (brn (inB (I.sub x2.1.2.2.1 (I.of .i64 1)) (@a0I a0D x2.2.1)) (brn (inB x2.1.2.1 (@a0I a0D x2.1.1.2.2.2.1)) (brn (I.ltb (@rdL a0D a1D x2.1.1.2.2.2.1 (I.nat x2.1.2.1)).1 (@rdL a0D a1D x2.2.1 (I.nat (I.sub x2.1.2.2.1 (I.of .i64 1)))).1) (.again ((x2.1.1,(x2.1.2.1,((I.sub x2.1.2.2.1 (I.of .i64 1)),()))),(x2.2.1,()))) (.done (j1 ((x2.1.1,(x2.1.2.1,(x2.1.2.2.1,()))),(x2.2.1,()))))) (.done (.done none))) (.done (.done none))) (.done (j1 ((x2.1.1,(x2.1.2.1,(x2.1.2.2.1,()))),(x2.2.1,()))))) K ((x0.1.1,(x0.1.2.1,((I.ofNat .i64 (@a0I a0D x0.2.1)),()))),(x0.2.1,()))) (.done (some ((),(x0.2.1,()))))) K ((a,(I.of .i64 0,())),([],()))
def a2M (K:Nat) (x:(⟨[.ptr 0 []],a0F⟩:Tm).D):Option (⟨[.pair (.pl (.int .u64)) (.pair (.pl a0Q) (.pair (.pl a1P) (.pair (.pl (.int .u64)) (.pair (.pair (.pl a1Q) (.pair (.pl (.int .u64)) (.pair (.pl (.int .u64)) (.pair (.pl (.int .u64)) (.pair (.pl a1S) (.pair (.whole 8) (.pl .nil))))))) (.pair (.whole 9) (.pair (.pl (.arr 4 a1Q)) (.pair (.whole 10) (.pair (.whole 11) (.pair (.pl a1Q) (.pair (.whole 12) (.pl .nil)))))))))))],[.box a1I (.pair (.pl (.int .u64)) (.pair (.pl a0Q) (.pair (.pl a1P) (.pair (.pl (.int .u64)) (.pair (.pl a0Z) (.pair (.ptr 1 []) (.pair (.whole 3) (.pair (.ptr 2 []) (.pl .nil))))))))),.box a0K (.pair (.whole 4) (.pl (.cons (.arr 4 a1Q) .nil))),.box a0S (.pair (.pl a1Q) (.pair (.whole 5) (.pair (.whole 6) (.pair (.whole 7) (.pl .nil))))),.row a0P,.row a0X,.row (.arr 32 (.int .u8)),.row (.int .u64),.row a0Y,.row a1A,.row a0X,.row a0P,.row .bool,.row a0Y]⟩:Tm).D :=
 let h0:a0W:=x.2.1
 let h1:a0M:=x.2.2.1
 let h2:a0U:=x.2.2.2.1
 let h3:(List a0B):=x.2.2.2.2.1
 let h4:(List a0E):=x.2.2.2.2.2.1
 let h5:(List a0G):=x.2.2.2.2.2.2.1
 let h6:(List (I .u64)):=x.2.2.2.2.2.2.2.1
 let h7:(List a0D):=x.2.2.2.2.2.2.2.2.1
 optF none (a5S K (((h4,h1.2),()),())) fun y0=>brn (a1E (@a0I a0B (@a2A a0B [] h3))) (optF none (a4X K (((h2.1,(h5,(h6,(h7,h2.2.2.2.2)))),()),())) fun y1=>brn (a1E (@a0I a0A (@a2A a0A [] h0.2.2.2.2.1.2.2.2.2.2.1))) (iter none (fun (x2:(((I .i64) × Unit) × (a0W × (a0M × ((List a0E) × ((List a0B) × (a0U × ((List a0G) × ((List (I .u64)) × ((List a0D) × (((I .u64) × (a2X × (a7N × ((I .u64) × ((U × ((I .u64) × ((I .u64) × ((I .u64) × (b4U × (Unit × Unit)))))) × (Unit × (c0Q × (Unit × (Unit × (U × (Unit × Unit))))))))))) × ((List a0A) × ((List a0E) × ((List a0B) × ((List Bool) × ((List a0D) × (((I .u64) × (a2X × (a7N × ((I .u64) × ((U × ((I .u64) × ((I .u64) × ((I .u64) × (b4U × (Unit × Unit)))))) × (Unit × (c0Q × (Unit × (Unit × (U × (Unit × Unit))))))))))) × ((List a0A) × ((List a0E) × ((List a0B) × ((List Bool) × ((List a0D) × Unit))))))))))))))))))))))=>brn (I.ltb x2.1.1 (I.ofNat .i64 (@a0I a0B x2.2.2.2.2.1))) (optF (.done none) (a4M K (((x2.2.2.2.2.2.1.1,(x2.2.2.2.2.2.2.1,(x2.2.2.2.2.2.2.2.1,(x2.2.2.2.2.2.2.2.2.1,x2.2.2.2.2.2.1.2.2.2.2)))),((I.conv (k:=.i64) .u64 x2.1.1),())),())) fun y3=>brn (a1E (@a0I Bool (@a2A Bool x2.2.2.2.2.2.2.2.2.2.2.2.2.2.2.2.2.2.2.2.1 (y3.1.1::[])))) (.again (((I.add x2.1.1 (I.of .i64 1)),()),((x2.2.1.1,(x2.2.1.2.1,(x2.2.1.2.2.1,(x2.2.1.2.2.2.1,(x2.2.1.2.2.2.2.1,((),((),((),x2.2.1.2.2.2.2.2.2.2.2)))))))),(((),x2.2.2.1.2),(x2.2.2.2.1,(x2.2.2.2.2.1,((x2.2.2.2.2.2.1.1,((),((),((),x2.2.2.2.2.2.1.2.2.2.2)))),(x2.2.2.2.2.2.2.1,(x2.2.2.2.2.2.2.2.1,(x2.2.2.2.2.2.2.2.2.1,((x2.2.2.2.2.2.2.2.2.2.1.1,(x2.2.2.2.2.2.2.2.2.2.1.2.1,(x2.2.2.2.2.2.2.2.2.2.1.2.2.1,(x2.2.2.2.2.2.2.2.2.2.1.2.2.2.1,((x2.2.2.2.2.2.2.2.2.2.1.2.2.2.2.1.1,(x2.2.2.2.2.2.2.2.2.2.1.2.2.2.2.1.2.1,(x2.2.2.2.2.2.2.2.2.2.1.2.2.2.2.1.2.2.1,(x2.2.2.2.2.2.2.2.2.2.1.2.2.2.2.1.2.2.2.1,(x2.2.2.2.2.2.2.2.2.2.1.2.2.2.2.1.2.2.2.2.1,((),x2.2.2.2.2.2.2.2.2.2.1.2.2.2.2.1.2.2.2.2.2.2)))))),((),(x2.2.2.2.2.2.2.2.2.2.1.2.2.2.2.2.2.1,((),((),(x2.2.2.2.2.2.2.2.2.2.1.2.2.2.2.2.2.2.2.2.1,((),x2.2.2.2.2.2.2.2.2.2.1.2.2.2.2.2.2.2.2.2.2.2))))))))))),(x2.2.2.2.2.2.2.2.2.2.2.1,(x2.2.2.2.2.2.2.2.2.2.2.2.1,(x2.2.2.2.2.2.2.2.2.2.2.2.2.1,(x2.2.2.2.2.2.2.2.2.2.2.2.2.2.1,(x2.2.2.2.2.2.2.2.2.2.2.2.2.2.2.1,((x2.2.2.2.2.2.2.2.2.2.2.2.2.2.2.2.1.1,(x2.2.2.2.2.2.2.2.2.2.2.2.2.2.2.2.1.2.1,(x2.2.2.2.2.2.2.2.2.2.2.2.2.2.2.2.1.2.2.1,(x2.2.2.2.2.2.2.2.2.2.2.2.2.2.2.2.1.2.2.2.1,((x2.2.2.2.2.2.2.2.2.2.2.2.2.2.2.2.1.2.2.2.2.1.1,(x2.2.2.2.2.2.2.2.2.2.2.2.2.2.2.2.1.2.2.2.2.1.2.1,(x2.2.2.2.2.2.2.2.2.2.2.2.2.2.2.2.1.2.2.2.2.1.2.2.1,(x2.2.2.2.2.2.2.2.2.2.2.2.2.2.2.2.1.2.2.2.2.1.2.2.2.1,(x2.2.2.2.2.2.2.2.2.2.2.2.2.2.2.2.1.2.2.2.2.1.2.2.2.2.1,((),x2.2.2.2.2.2.2.2.2.2.2.2.2.2.2.2.1.2.2.2.2.1.2.2.2.2.2.2)))))),((),(x2.2.2.2.2.2.2.2.2.2.2.2.2.2.2.2.1.2.2.2.2.2.2.1,((),((),(x2.2.2.2.2.2.2.2.2.2.2.2.2.2.2.2.1.2.2.2.2.2.2.2.2.2.1,((),x2.2.2.2.2.2.2.2.2.2.2.2.2.2.2.2.1.2.2.2.2.2.2.2.2.2.2.2))))))))))),(x2.2.2.2.2.2.2.2.2.2.2.2.2.2.2.2.2.1,(x2.2.2.2.2.2.2.2.2.2.2.2.2.2.2.2.2.2.1,(x2.2.2.2.2.2.2.2.2.2.2.2.2.2.2.2.2.2.2.1,((@a2A Bool x2.2.2.2.2.2.2.2.2.2.2.2.2.2.2.2.2.2.2.2.1 (y3.1.1::[])),(x2.2.2.2.2.2.2.2.2.2.2.2.2.2.2.2.2.2.2.2.2.1,())))))))))))))))))))))) (.done none)) (.done (some (((x2.2.2.2.2.2.2.2.2.2.2.2.2.2.2.2.1.1,(x2.2.2.2.2.2.2.2.2.2.2.2.2.2.2.2.1.2.1,(x2.2.2.2.2.2.2.2.2.2.2.2.2.2.2.2.1.2.2.1,(x2.2.2.2.2.2.2.2.2.2.2.2.2.2.2.2.1.2.2.2.1,((x2.2.2.2.2.2.2.2.2.2.2.2.2.2.2.2.1.2.2.2.2.1.1,(x2.2.2.2.2.2.2.2.2.2.2.2.2.2.2.2.1.2.2.2.2.1.2.1,(x2.2.2.2.2.2.2.2.2.2.2.2.2.2.2.2.1.2.2.2.2.1.2.2.1,(x2.2.2.2.2.2.2.2.2.2.2.2.2.2.2.2.1.2.2.2.2.1.2.2.2.1,(x2.2.2.2.2.2.2.2.2.2.2.2.2.2.2.2.1.2.2.2.2.1.2.2.2.2.1,((),x2.2.2.2.2.2.2.2.2.2.2.2.2.2.2.2.1.2.2.2.2.1.2.2.2.2.2.2)))))),((),(x2.2.2.2.2.2.2.2.2.2.2.2.2.2.2.2.1.2.2.2.2.2.2.1,((),((),(x2.2.2.2.2.2.2.2.2.2.2.2.2.2.2.2.1.2.2.2.2.2.2.2.2.2.1,((),x2.2.2.2.2.2.2.2.2.2.2.2.2.2.2.2.1.2.2.2.2.2.2.2.2.2.2.2))))))))))),()),((x2.2.1.1,(x2.2.1.2.1,(x2.2.1.2.2.1,(x2.2.1.2.2.2.1,(x2.2.1.2.2.2.2.1,((),((),((),x2.2.1.2.2.2.2.2.2.2.2)))))))),(((),x2.2.2.1.2),((x2.2.2.2.2.2.1.1,((),((),((),x2.2.2.2.2.2.1.2.2.2.2)))),(x2.2.2.2.2.1,(x2.2.2.2.1,(x2.2.2.2.2.2.2.1,(x2.2.2.2.2.2.2.2.1,(x2.2.2.2.2.2.2.2.2.1,(x2.2.2.2.2.2.2.2.2.2.2.2.2.2.2.2.2.1,(x2.2.2.2.2.2.2.2.2.2.2.2.2.2.2.2.2.2.1,(x2.2.2.2.2.2.2.2.2.2.2.2.2.2.2.2.2.2.2.1,(x2.2.2.2.2.2.2.2.2.2.2.2.2.2.2.2.2.2.2.2.1,(x2.2.2.2.2.2.2.2.2.2.2.2.2.2.2.2.2.2.2.2.2.1,()))))))))))))))))) K ((I.of .i64 0,()),((h0.1,(h0.2.1,(h0.2.2.1,(h0.2.2.2.1,(h0.2.2.2.2.1,((),((),((),h0.2.2.2.2.2.2.2.2)))))))),(((),h1.2),(h4,(h3,((h2.1,((),((),((),h2.2.2.2.2)))),(h5,(h6,(h7,((I.of .u64 0,(a5D,(a4A,(I.of .u64 0,((Z_U,(I.of .u64 0,(I.of .u64 0,(I.of .u64 0,(a2Q,((),())))))),((),(c3E,((),((),(Z_U,((),()))))))))))),([],([],([],([],([],((h0.1,(h0.2.1,(h0.2.2.1,(h0.2.2.2.1,((h0.2.2.2.2.1.1,(h0.2.2.2.2.1.2.1,(h0.2.2.2.2.1.2.2.1,(h0.2.2.2.2.1.2.2.2.1,(h0.2.2.2.2.1.2.2.2.2.1,((),h0.2.2.2.2.1.2.2.2.2.2.2)))))),((),(h1.2.1,((),((),(h2.1,((),()))))))))))),((@a2A a0A [] h0.2.2.2.2.1.2.2.2.2.2.1),(y0.2.1,((@a2A a0B [] h3),([],(y1.2.1,())))))))))))))))))))))) none) none
def a6V (K:Nat) (x:(⟨[.pl (.arr 5 (.int .u64)),.pl a1Q],[]⟩:Tm).D):Option (⟨[.pl (.arr 5 (.int .u64))],[]⟩:Tm).D :=
 let a:((I .u64) × U):=x.1.1
 let b:U:=x.1.2.1
 iter none (fun x0=>brn (I.ltb x0.1.2.1 (I.of .i64 4)) (brn (inB x0.1.2.1 5) (brn (inB x0.1.2.1 4) (optF (.done none) (c7O (((@Arr.sel (I .u64) (I.of .u64 0) 5 x0.2.1 (I.nat x0.1.2.1)),((@Arr.sel (I .u64) (I.of .u64 0) 4 x0.2.2.1 (I.nat x0.1.2.1)),(x0.1.1,()))),())) fun y1=>brn (inB x0.1.2.1 5) (.again ((y1.1.2.1,((I.add x0.1.2.1 (I.of .i64 1)),())),((@Arr.upd (I .u64) 5 x0.2.1 (I.nat x0.1.2.1) y1.1.1),(x0.2.2.1,(x0.2.2.2.1,()))))) (.done none)) (.done none)) (.done none)) (.done (some (((x0.2.1.1,(x0.2.1.2.1,(x0.2.1.2.2.1,(x0.2.1.2.2.2.1,((I.add x0.2.1.2.2.2.2.1 x0.1.1),()))))),()),())))) K ((I.of .u64 0,(I.of .i64 0,())),(a,(b,((I.of .u64 0,Z_U),()))))
def a9L (K:Nat) (x:(⟨[.pl (.sl a1Q)],[]⟩:Tm).D):Option (⟨[.pl (.arr 5 (.int .u64))],[]⟩:Tm).D :=
 let a:(List U):=x.1.1
 iter none (fun x0=>brn (I.ltb x0.1.2.2.1 x0.1.2.1) (brn (inB x0.1.2.2.1 (@a0I U x0.1.1)) (optF (.done none) (a6V K ((x0.2.2.1,((@rdL U Z_U x0.1.1 (I.nat x0.1.2.2.1)),())),())) fun y1=>.again ((x0.1.1,(x0.1.2.1,((I.add x0.1.2.2.1 (I.of .i64 1)),()))),(x0.2.1,(y1.1.1,())))) (.done none)) (.done (some ((x0.2.2.1,()),())))) K ((a,((I.ofNat .i64 (@a0I U a)),(I.of .i64 0,()))),((I.of .u64 0,Z_U),((I.of .u64 0,Z_U),())))
def c0M (K:Nat) (x:(⟨[.pl a8G],[]⟩:Tm).D):Option (⟨[.pl (.arr 5 (.int .u64))],[]⟩:Tm).D :=
 let a:b9I:=x.1.1
 optF none (a9L K (((@a3W U (@Arr.list U 4 a.2.2.2.2.2.2.1) 0 4),()),())) fun y0=>iter none (fun x1=>brn (I.ltb x1.1.2.2.1 x1.1.2.1) (brn (inB x1.1.2.2.1 (@a0I a0E x1.1.1)) (optF (.done none) (a6V K ((x1.2.2.1,((@rdL a0E a1G x1.1.1 (I.nat x1.1.2.2.1)).2.1,())),())) fun y2=>.again ((x1.1.1,(x1.1.2.1,((I.add x1.1.2.2.1 (I.of .i64 1)),()))),(x1.2.1,(y2.1.1,())))) (.done none)) (.done (some ((x1.2.2.1,()),())))) K ((a.2.2.2.2.2.1,((I.ofNat .i64 (@a0I a0E a.2.2.2.2.2.1)),(I.of .i64 0,()))),((I.of .u64 0,Z_U),(y0.1.1,())))
def b4K (K:Nat) (x:(⟨[.pl a8G],[]⟩:Tm).D):Option (⟨[.pl (.arr 5 (.int .u64))],[]⟩:Tm).D :=
 let a:b9I:=x.1.1
 iter none (fun x0=>brn (I.ltb x0.1.2.2.1 x0.1.2.1) (brn (inB x0.1.2.2.1 (@a0I a0B x0.1.1)) (optF (.done none) (a6V K ((x0.2.2.1,((@rdL a0B a0O x0.1.1 (I.nat x0.1.2.2.1)).2.2.1,())),())) fun y1=>.again ((x0.1.1,(x0.1.2.1,((I.add x0.1.2.2.1 (I.of .i64 1)),()))),(x0.2.1,(y1.1.1,())))) (.done none)) (.done (some ((x0.2.2.1,()),())))) K ((a.2.2.2.2.2.2.2.1,((I.ofNat .i64 (@a0I a0B a.2.2.2.2.2.2.2.1)),(I.of .i64 0,()))),((I.of .u64 0,Z_U),((I.of .u64 0,Z_U),())))
def b0U (K:Nat) (x:(⟨[.pl (.sl a1A)],[]⟩:Tm).D):Option (⟨[.pl .bool],[]⟩:Tm).D :=
 let a:(List a0A):=x.1.1
 iter none (fun x0=>brn (I.ltb x0.1.2.2.1 x0.1.2.1) (brn (inB x0.1.2.2.1 (@a0I a0A x0.1.1)) (optF (.done none) (a9L K ((((@rdL a0A a0N x0.1.1 (I.nat x0.1.2.2.1)).2.1::((@rdL a0A a0N x0.1.1 (I.nat x0.1.2.2.1)).2.2.2.2.1::[])),()),())) fun y1=>optF (.done none) (a9L K ((((@rdL a0A a0N x0.1.1 (I.nat x0.1.2.2.1)).2.2.1::((@rdL a0A a0N x0.1.1 (I.nat x0.1.2.2.1)).2.2.2.1::[])),()),())) fun y2=>brn (a4S (Ty.eqb (.arr 5 (.int .u64)) y1.1.1 y2.1.1)) (.done (some ((false,()),()))) (.again ((x0.1.1,(x0.1.2.1,((I.add x0.1.2.2.1 (I.of .i64 1)),()))),()))) (.done none)) (.done (some ((true,()),())))) K ((a,((I.ofNat .i64 (@a0I a0A a)),(I.of .i64 0,()))),())
def b9S (K:Nat) (x:(⟨[.pl (.sl a1A)],[]⟩:Tm).D):Option (⟨[.pl (.arr 5 (.int .u64))],[]⟩:Tm).D :=
 let a:(List a0A):=x.1.1
 iter none (fun x0=>brn (I.ltb x0.1.2.2.1 x0.1.2.1) (brn (inB x0.1.2.2.1 (@a0I a0A x0.1.1)) (optF (.done none) (a6V K ((x0.2.2.1,((@rdL a0A a0N x0.1.1 (I.nat x0.1.2.2.1)).2.2.2.2.1,())),())) fun y1=>.again ((x0.1.1,(x0.1.2.1,((I.add x0.1.2.2.1 (I.of .i64 1)),()))),(x0.2.1,(y1.1.1,())))) (.done none)) (.done (some ((x0.2.2.1,()),())))) K ((a,((I.ofNat .i64 (@a0I a0A a)),(I.of .i64 0,()))),((I.of .u64 0,Z_U),((I.of .u64 0,Z_U),())))
def b4J (K:Nat) (x:(⟨[.pl a8G,.pl a3A],[]⟩:Tm).D):Option (⟨[.pl (.int .i64)],[]⟩:Tm).D :=
 let a:b9I:=x.1.1
 let b:b4S:=x.1.2.1
 optF none (c0M K ((a,()),())) fun y0=>optF none (a6V K ((y0.1.1,(b.2.1,())),())) fun y1=>optF none (a9L K (((b.1::[]),()),())) fun y2=>brn (a4S (Ty.eqb (.arr 5 (.int .u64)) y1.1.1 y2.1.1)) (some ((I.of .i64 1,()),())) (jn (fun (x3:((Bool × Unit) × (b9I × (b4S × Unit))))=>brn x3.1.1 (some ((I.of .i64 2,()),())) (optF none (a9L K (((x3.2.1.2.2.2.2.2.2.2.2.2.1::(x3.2.2.1.2.2.1::[])),()),())) fun y4=>optF none (a9L K (((x3.2.2.1.1::[]),()),())) fun y5=>brn (a4S (Ty.eqb (.arr 5 (.int .u64)) y4.1.1 y5.1.1)) (some ((I.of .i64 3,()),())) (optF none (b4K K ((x3.2.1,()),())) fun y6=>optF none (a9L K (((x3.2.2.1.2.1::[]),()),())) fun y7=>brn (a4S (Ty.eqb (.arr 5 (.int .u64)) y6.1.1 y7.1.1)) (some ((I.of .i64 4,()),())) (optF none (b0U K ((x3.2.1.2.2.2.2.1.2.2.2.2.2.1,()),())) fun y8=>brn (a4S y8.1.1) (some ((I.of .i64 5,()),())) (optF none (b9S K ((x3.2.1.2.2.2.2.1.2.2.2.2.2.1,()),())) fun y9=>optF none (a9L K (((x3.2.2.1.2.2.2.2.2.2.2.1::[]),()),())) fun y10=>brn (a4S (Ty.eqb (.arr 5 (.int .u64)) y9.1.1 y10.1.1)) (some ((I.of .i64 6,()),())) (some ((I.of .i64 0,()),()))))))) fun j3=>brn (a4S (Ty.eqb a1Q a.2.2.2.2.2.2.1.1 b.2.2.2.2.2.1)) (j3 ((true,()),(a,(b,())))) (brn (a4S (Ty.eqb a1Q a.2.2.2.2.2.2.1.2.1 b.2.2.2.2.1)) (j3 ((true,()),(a,(b,())))) (brn (a4S (Ty.eqb a1Q a.2.2.2.2.2.2.1.2.2.2.1 b.2.2.2.2.2.2.1)) (j3 ((true,()),(a,(b,())))) (optF none (a9L K (((a.2.2.2.2.2.2.1.2.2.1::(b.2.2.2.2.2.2.2.1::[])),()),())) fun y4=>optF none (a9L K (((b.2.2.2.1::[]),()),())) fun y5=>j3 (((a4S (Ty.eqb (.arr 5 (.int .u64)) y4.1.1 y5.1.1)),()),(a,(b,())))))))
def b1P (K:Nat) (x:(⟨[],[]⟩:Tm).D):Option (⟨[.pl .bool],[]⟩:Tm).D :=
 optF none (a7S K (([],(true,())),())) fun y0=>optF none (b9H K (([],([],())),())) fun y1=>optF none (b4C K ((),())) fun y2=>brn (I.eqb y1.1.2.1 (I.of .i64 0)) (brn (Ty.eqb a3A y1.1.1 a2Z) (optF none (a2M K ((),(y2.2.1,(y2.2.2.1,(y2.2.2.2.1,(y2.2.2.2.2.1,(y2.2.2.2.2.2.1,(y2.2.2.2.2.2.2.1,(y2.2.2.2.2.2.2.2.1,(y2.2.2.2.2.2.2.2.2.1,())))))))))) fun y3=>optF none (b4J K (((y3.1.1.1,(y3.1.1.2.1,(y3.1.1.2.2.1,(y3.1.1.2.2.2.1,((y3.1.1.2.2.2.2.1.1,(y3.1.1.2.2.2.2.1.2.1,(y3.1.1.2.2.2.2.1.2.2.1,(y3.1.1.2.2.2.2.1.2.2.2.1,(y3.1.1.2.2.2.2.1.2.2.2.2.1,(y3.2.2.2.2.2.2.2.2.2.1,y3.1.1.2.2.2.2.1.2.2.2.2.2.2)))))),(y3.2.2.2.2.2.2.2.2.2.2.1,(y3.1.1.2.2.2.2.2.2.1,(y3.2.2.2.2.2.2.2.2.2.2.2.1,(y3.2.2.2.2.2.2.2.2.2.2.2.2.1,(y3.1.1.2.2.2.2.2.2.2.2.2.1,(y3.2.2.2.2.2.2.2.2.2.2.2.2.2.1,y3.1.1.2.2.2.2.2.2.2.2.2.2.2))))))))))),(y1.1.1,())),())) fun y4=>brn (I.eqb y4.1.1 (I.of .i64 0)) (optF none (a2M K ((),(y3.2.1,(y3.2.2.1,(y3.2.2.2.1,(y3.2.2.2.2.1,(y3.2.2.2.2.2.1,(y3.2.2.2.2.2.2.1,(y3.2.2.2.2.2.2.2.1,(y3.2.2.2.2.2.2.2.2.1,())))))))))) fun y5=>optF none (b4J K (((y5.1.1.1,(y5.1.1.2.1,(y5.1.1.2.2.1,(y5.1.1.2.2.2.1,((y5.1.1.2.2.2.2.1.1,(y5.1.1.2.2.2.2.1.2.1,(y5.1.1.2.2.2.2.1.2.2.1,(y5.1.1.2.2.2.2.1.2.2.2.1,(y5.1.1.2.2.2.2.1.2.2.2.2.1,(y5.2.2.2.2.2.2.2.2.2.1,y5.1.1.2.2.2.2.1.2.2.2.2.2.2)))))),(y5.2.2.2.2.2.2.2.2.2.2.1,(y5.1.1.2.2.2.2.2.2.1,(y5.2.2.2.2.2.2.2.2.2.2.2.1,(y5.2.2.2.2.2.2.2.2.2.2.2.2.1,(y5.1.1.2.2.2.2.2.2.2.2.2.1,(y5.2.2.2.2.2.2.2.2.2.2.2.2.2.1,y5.1.1.2.2.2.2.2.2.2.2.2.2.2))))))))))),(((I.of .u64 1,(I.of .u64 0,(I.of .u64 0,(I.of .u64 0,())))),(Z_U,(Z_U,(Z_U,c3E)))),())),())) fun y6=>brn (I.eqb y6.1.1 (I.of .i64 1)) (optF none (a2M K ((),(y0.2.1,(y0.2.2.1,(y0.2.2.2.1,(y0.2.2.2.2.1,(y0.2.2.2.2.2.1,(y0.2.2.2.2.2.2.1,(y0.2.2.2.2.2.2.2.1,(y0.2.2.2.2.2.2.2.2.1,())))))))))) fun y7=>optF none (b4J K (((y7.1.1.1,(y7.1.1.2.1,(y7.1.1.2.2.1,(y7.1.1.2.2.2.1,((y7.1.1.2.2.2.2.1.1,(y7.1.1.2.2.2.2.1.2.1,(y7.1.1.2.2.2.2.1.2.2.1,(y7.1.1.2.2.2.2.1.2.2.2.1,(y7.1.1.2.2.2.2.1.2.2.2.2.1,(y7.2.2.2.2.2.2.2.2.2.1,y7.1.1.2.2.2.2.1.2.2.2.2.2.2)))))),(y7.2.2.2.2.2.2.2.2.2.2.1,(y7.1.1.2.2.2.2.2.2.1,(y7.2.2.2.2.2.2.2.2.2.2.2.1,(y7.2.2.2.2.2.2.2.2.2.2.2.2.1,(y7.1.1.2.2.2.2.2.2.2.2.2.1,(y7.2.2.2.2.2.2.2.2.2.2.2.2.2.1,y7.1.1.2.2.2.2.2.2.2.2.2.2.2))))))))))),(y1.1.1,())),())) fun y8=>some (((I.eqb y8.1.1 (I.of .i64 1)),()),())) (some ((false,()),()))) (some ((false,()),()))) (some ((false,()),()))) (some ((false,()),()))
def a5P (K:Nat) (x:(⟨[.pl (.sl (.int .i64))],[]⟩:Tm).D):Option (⟨[.pl .bool],[]⟩:Tm).D :=
 let a:(List (I .i64)):=x.1.1
 brn (I.ltb (I.of .i64 40) (I.ofNat .i64 (@a0I (I .i64) a))) (optF none (b1P K ((),())) fun y0=>some ((y0.1.1,()),())) (optF none (a7S K ((a,(true,())),())) fun y0=>optF none (b9H K ((y0.2.2.2.2.2.2.2.2.2.1,(y0.2.2.2.2.2.2.2.2.2.2.1,())),())) fun y1=>brn (I.eqb y1.1.2.1 (I.of .i64 0)) (optF none (a2M K ((),(y0.2.1,(y0.2.2.1,(y0.2.2.2.1,(y0.2.2.2.2.1,(y0.2.2.2.2.2.1,(y0.2.2.2.2.2.2.1,(y0.2.2.2.2.2.2.2.1,(y0.2.2.2.2.2.2.2.2.1,())))))))))) fun y2=>optF none (b4J K (((y2.1.1.1,(y2.1.1.2.1,(y2.1.1.2.2.1,(y2.1.1.2.2.2.1,((y2.1.1.2.2.2.2.1.1,(y2.1.1.2.2.2.2.1.2.1,(y2.1.1.2.2.2.2.1.2.2.1,(y2.1.1.2.2.2.2.1.2.2.2.1,(y2.1.1.2.2.2.2.1.2.2.2.2.1,(y2.2.2.2.2.2.2.2.2.2.1,y2.1.1.2.2.2.2.1.2.2.2.2.2.2)))))),(y2.2.2.2.2.2.2.2.2.2.2.1,(y2.1.1.2.2.2.2.2.2.1,(y2.2.2.2.2.2.2.2.2.2.2.2.1,(y2.2.2.2.2.2.2.2.2.2.2.2.2.1,(y2.1.1.2.2.2.2.2.2.2.2.2.1,(y2.2.2.2.2.2.2.2.2.2.2.2.2.2.1,y2.1.1.2.2.2.2.2.2.2.2.2.2.2))))))))))),(y1.1.1,())),())) fun y3=>brn (I.eqb y3.1.1 (I.of .i64 0)) (optF none (b1P K ((),())) fun y4=>some ((y4.1.1,()),())) (some ((false,()),()))) (some ((false,()),())))
end
end Sym

/- The contracts of the given functions. -/
namespace Sym
open Go Go.Proofs
set_option maxRecDepth 100000
noncomputable abbrev tp:Program:=Tryz.prog
def tys:List (Nat × Ty):=[(2,(.int .i64)),(3,(.int .i64)),(4,.bool),(5,(.int .u8)),(6,(.int .u8)),(7,a9C),(8,a9C),(9,.str),(10,.str),(11,.str),(22,(.sl a1M)),(23,(.sl a1W)),(24,(.sl (.int .i64))),(25,(.int .u64)),(27,a1Q),(29,(.int .i64)),(31,a3Q),(32,(.sl a0P)),(34,a1W),(35,.opq),(40,a3A),(45,a0Q),(47,a1P),(49,a1S),(50,(.sl a1A)),(52,a0Z),(53,(.sl a0X)),(54,(.arr 4 a1Q)),(55,(.sl .bool)),(56,(.sl a0Y)),(58,a8G),(60,(.int .u64)),(62,a0P),(64,a1A),(68,(.sl (.int .u8))),(70,a1R),(72,a0P),(73,(.sl (.arr 32 (.int .u8)))),(75,a7P),(77,a1M),(78,(.arr 5 (.int .u64))),(86,(.int .u64)),(88,(.cons .bool .nil)),(90,.opq),(91,.opq),(92,(.sl (.int .i64))),(93,(.arr 8 (.sl (.int .i64)))),(95,c4Y),(98,.opq),(99,.opq),(101,a1I),(104,a0K),(105,(.sl (.int .u64))),(107,a0S),(110,(.arr 5 (.int .u64))),(121,(.sl a1Q)),(123,.opq),(140,.opq),(143,a0X),(146,a0Y),(165,a2B),(178,(.arr 12 (.int .u64))),(184,(.arr 32 (.int .u8))),(187,(.arr 6 (.int .u64))),(219,(.arr 12 a1Q)),(237,.opq),(243,a1B),(261,(.arr 12 .bool)),(267,(.int .u32)),(268,(.arr 8 (.int .u32))),(272,(.arr 64 (.int .u32)))]
def eqs:List (Nat × Ty):=[(2,(.int .i64)),(3,(.int .i64)),(4,.bool),(5,(.int .u8)),(6,(.int .u8)),(7,a9C),(8,a9C),(25,(.int .u64)),(27,a1Q),(29,(.int .i64)),(31,a3Q),(35,.opq),(40,a3A),(45,a0Q),(47,a1P),(49,a1S),(54,(.arr 4 a1Q)),(60,(.int .u64)),(62,a0P),(64,a1A),(72,a0P),(78,(.arr 5 (.int .u64))),(86,(.int .u64)),(88,(.cons .bool .nil)),(90,.opq),(91,.opq),(98,.opq),(99,.opq),(110,(.arr 5 (.int .u64))),(123,.opq),(140,.opq),(143,a0X),(146,a0Y),(178,(.arr 12 (.int .u64))),(184,(.arr 32 (.int .u8))),(187,(.arr 6 (.int .u64))),(219,(.arr 12 a1Q)),(237,.opq),(261,(.arr 12 .bool)),(267,(.int .u32)),(268,(.arr 8 (.int .u32))),(272,(.arr 64 (.int .u32)))]
theorem g5S:tys.all (fun x=>tiB tp x.1 x.2) = true:=by kernel_rfl
theorem g5M:eqs.all (fun x=>g8A tp x.1 x.2) = true:=by kernel_rfl
theorem follows:tp.follows .mixedOrders = true:=by kernel_rfl
theorem f9L:f3Q tp:=f7I (by kernel_rfl)
def owns:List Nat:=[34,58,101,104,107]
def meths:List (Nat × String × FuncId × Option Nat):=[]
theorem f0J:meths.all (fun x=>f1N tp x.1 x.2.1 x.2.2.1 x.2.2.2) = true:=by kernel_rfl
theorem a4E {C:Con} {n k:Nat} {hs:List (Nat × How)} {A:g2B} (h:HowsOk tp hs) (e:∀ x,f0D (f1B tp tys eqs hs owns meths) A n C.In C.Out k K0 x = C.F x) (hko:c6J C.In.heap C.Out.heap = true:=by rfl):a1K tp n C:=f2S (E:=f1B tp tys eqs hs owns meths) (g7G g5S g5M h follows f0J) f9L (fun x _ h=>⟨A,k,K0,(e x).trans h⟩) hko
theorem f2C {C:Con} {n k:Nat} {hs:List (Nat × How)} {A:g2B} (h:HowsOk tp hs) (e:∀ x,d1K (f1B tp tys eqs hs owns meths) A n C.In C.Out k K0 x = C.F x):c0P tp n C:=e1W (E:=f1B tp tys eqs hs owns meths) (g7G g5S g5M h follows f0J) f9L fun x _ h=>⟨A,k,K0,(e x).trans h⟩
noncomputable section
def b7A:Con:=⟨⟨[],[]⟩,⟨[.pl a0Q],[]⟩,b7R K0⟩
theorem h2M:a1K tp 41 b7A:=a4E (n:=41) (k:=60) (hs:=[]) (A:=fun _ _=>none) trivial (by intro x; kernel_rfl)
def a1L:Con:=⟨⟨[.pl (.sl (.int .i64))],[]⟩,⟨[.pl a1Q],[]⟩,a0R K0⟩
theorem e3P:a1K tp 24 a1L:=a4E (n:=24) (k:=60) (hs:=[]) (A:=b1V [([1000000,24],6,.join ⟨(.pl (.sl (.int .i64))::dd 1 (.ptr 0 []::.ptr 1 []::.pl (.int .i64)::dd 5 (.pl (.int .i64)::.pl .bool::dd 22 []))),[.box a1Q (.pl a1Q),.box a1Q (.pl a1Q)]⟩),([24],0,.tmpl ⟨(.pl (.sl (.int .i64))::dd 1 (.ptr 0 []::.ptr 1 []::.pl (.int .i64)::dd 29 [])),[.box a1Q (.pl a1Q),.box a1Q (.pl a1Q)]⟩)]) trivial (by intro x; kernel_rfl)
def a4O:Con:=⟨⟨[.pl (.sl (.int .i64)),.pl (.sl (.int .i64))],[]⟩,⟨[.pl (.int .i64)],[]⟩,a2U K0⟩
theorem f4K:a1K tp 36 a4O:=a4E (n:=36) (k:=60) (hs:=[]) (A:=b1V [([36],0,.tmpl ⟨(.pl (.sl (.int .i64))::.pl (.sl (.int .i64))::dd 3 (.pl (.int .i64)::dd 35 [])),[]⟩)]) trivial (by intro x; kernel_rfl)
def a8V:Con:=⟨⟨[.pl (.sl (.int .i64)),.pl (.sl (.int .i64))],[]⟩,⟨[.pl (.sl (.int .i64))],[]⟩,a4J K0⟩
theorem g5N:a1K tp 83 a8V:=a4E (n:=83) (k:=60) (hs:=[(36,.con a4O)]) (A:=fun _ _=>none) ⟨f4K,trivial⟩ (by intro x; kernel_rfl)
def b2Q:Con:=⟨⟨[.pl (.sl (.int .i64))],[]⟩,⟨[.pl (.sl (.int .i64))],[]⟩,a6D K0⟩
theorem g8R:a1K tp 58 b2Q:=a4E (n:=58) (k:=60) (hs:=[]) (A:=b1V [([58],0,.tmpl ⟨(.pl (.sl (.int .i64))::dd 2 (.pl (.int .i64)::dd 17 [])),[]⟩)]) trivial (by intro x; kernel_rfl)
def a0T:Con:=⟨⟨[.pl a1Q],[]⟩,⟨[.pl (.sl (.int .i64))],[]⟩,a0C K0⟩
theorem d0E:a1K tp 35 a0T:=a4E (n:=35) (k:=60) (hs:=[(58,.con b2Q)]) (A:=b1V [([35],0,.tmpl ⟨(dd 1 (.ptr 0 []::dd 1 (.whole 1::.pl (.int .i64)::dd 21 []))),[.box a1Q (.pl a1Q),.row (.int .i64)]⟩)]) ⟨g8R,trivial⟩ (by intro x; kernel_rfl)
def a1O:Con:=⟨⟨[.pl (.int .u64)],[]⟩,⟨[.pl (.sl (.int .i64))],[]⟩,a0H K0⟩
theorem e7D:a1K tp 84 a1O:=a4E (n:=84) (k:=60) (hs:=[(35,.con a0T)]) (A:=fun _ _=>none) ⟨d0E,trivial⟩ (by intro x; kernel_rfl)
def a3K:Con:=⟨⟨[.pl (.sl (.int .i64)),.pl (.sl (.int .i64))],[]⟩,⟨[.pl (.sl (.int .i64))],[]⟩,a1V K0⟩
theorem f1J:a1K tp 88 a3K:=a4E (n:=88) (k:=60) (hs:=[(58,.con b2Q)]) (A:=b1V [([88],0,.tmpl ⟨(.pl (.sl (.int .i64))::.pl (.sl (.int .i64))::dd 3 (.whole 0::.pl (.int .i64)::dd 56 [])),[.row (.int .i64)]⟩),([88],2,.tmpl ⟨(.pl (.sl (.int .i64))::.pl (.sl (.int .i64))::dd 3 (.whole 0::.pl (.int .i64)::.pl (.int .i64)::.pl (.int .i64)::dd 54 [])),[.row (.int .i64)]⟩)]) ⟨g8R,trivial⟩ (by intro x; kernel_rfl)
def a6B:Con:=⟨⟨[.pl (.sl (.int .i64)),.pl (.sl (.int .i64))],[]⟩,⟨[.pl (.sl (.int .i64))],[]⟩,a2N K0⟩
theorem e2N:c0P tp 97 a6B:=f2C (n:=97) (k:=80) (hs:=[(58,.inl)]) (A:=b1V [([1000000,97],10,.join ⟨(.pl (.sl (.int .i64)) :: .pl (.sl (.int .i64)) :: dd 3 (.whole 0 :: dd 1 (.pl (.int .i64) :: .pl (.int .i64) :: dd 35 []))),[.row (.int .i64)]⟩),([58,14,1,97],0,.tmpl ⟨(.whole 0 :: dd 2 (.pl (.int .i64) :: dd 61 [])),[.row (.int .i64)]⟩),([97],0,.tmpl ⟨(.pl (.sl (.int .i64)) :: .pl (.sl (.int .i64)) :: dd 3 (.whole 0 :: .pl (.int .i64) :: .pl (.int .i64) :: dd 36 [])),[.row (.int .i64)]⟩)]) trivial (by intro x; kernel_rfl)
def c0X:Con:=⟨⟨[.pl (.sl (.int .i64)),.pl (.int .i64)],[]⟩,⟨[.pl (.sl (.int .i64)),.pl (.sl (.int .i64))],[]⟩,a9Z K0⟩
theorem h0Y:a1K tp 131 c0X:=a4E (n:=131) (k:=60) (hs:=[(58,.con b2Q)]) (A:=b1V [([131],0,.tmpl ⟨(.pl (.sl (.int .i64))::.pl (.int .i64)::dd 4 (.whole 0::.pl (.int .i64)::.pl (.int .i64)::dd 32 [])),[.row (.int .i64)]⟩)]) ⟨g8R,trivial⟩ (by intro x; kernel_rfl)
def a5G:Con:=⟨⟨[.pl (.sl (.int .i64)),.pl (.sl (.int .i64))],[]⟩,⟨[.pl (.sl (.int .i64)),.pl (.sl (.int .i64))],[]⟩,a3L K0⟩
theorem f9R:a1K tp 98 a5G:=a4E (n:=98) (k:=90) (hs:=[(36,.con a4O),(58,.inl),(97,.fresh a6B),(131,.con c0X)]) (A:=b1V [([58,18,1,98],0,.tmpl ⟨(.whole 0::dd 2 (.pl (.int .i64)::dd 17 (.pl (.sl (.int .i64))::.pl (.sl (.int .i64))::dd 4 (.whole 1::.whole 0::.pl (.int .i64)::.pl (.int .i64)::dd 104 [])))),[.row (.int .i64),.row (.int .i64)]⟩),([58,19,1,98],0,.tmpl ⟨(.whole 0::dd 2 (.pl (.int .i64)::dd 17 (.pl (.sl (.int .i64))::.pl (.sl (.int .i64))::dd 4 (.whole 1::.whole 0::.pl (.int .i64)::.pl (.int .i64)::dd 104 [])))),[.row (.int .i64),.row (.int .i64)]⟩),([58,27,1,98],0,.tmpl ⟨(.whole 0::dd 2 (.pl (.int .i64)::dd 24 (.whole 1::dd 106 []))),[.row (.int .i64),.row (.int .i64)]⟩),([58,27,3,98],0,.tmpl ⟨(.whole 0::dd 2 (.pl (.int .i64)::dd 128 (.pl (.sl (.int .i64))::dd 2 []))),[.row (.int .i64)]⟩),([98],0,.tmpl ⟨(.pl (.sl (.int .i64))::.pl (.sl (.int .i64))::dd 4 (.whole 0::.whole 1::.pl (.int .i64)::dd 105 [])),[.row (.int .i64),.row (.int .i64)]⟩),([98],2,.tmpl ⟨(.pl (.sl (.int .i64))::.pl (.sl (.int .i64))::dd 4 (.whole 0::.whole 1::.pl (.int .i64)::.pl (.int .i64)::dd 104 [])),[.row (.int .i64),.row (.int .i64)]⟩),([98],4,.tmpl ⟨(.pl (.sl (.int .i64))::.pl (.sl (.int .i64))::dd 4 (.whole 0::.whole 1::.pl (.int .i64)::.pl (.int .i64)::.pl (.int .i64)::.pl (.int .i64)::dd 102 [])),[.row (.int .i64),.row (.int .i64)]⟩),([98],6,.tmpl ⟨(.pl (.sl (.int .i64))::.pl (.sl (.int .i64))::dd 4 (.whole 0::.whole 1::.pl (.int .i64)::.pl (.int .i64)::dd 2 (.pl (.sl (.int .i64))::.pl (.int .i64)::dd 100 []))),[.row (.int .i64),.row (.int .i64)]⟩)]) ⟨f4K,e2N,h0Y,trivial⟩ (by intro x; kernel_rfl)
def c3P:Con:=⟨⟨[.pl (.int .u64),.pl (.int .u64),.pl (.int .u64)],[]⟩,⟨[.pl .bool],[]⟩,a3M K0⟩
theorem g8I:a1K tp 157 c3P:=a4E (n:=157) (k:=60) (hs:=[]) (A:=fun _ _=>none) trivial (by intro x; kernel_rfl)
def b0L:Con:=⟨⟨[.pl a1Q],[]⟩,⟨[.pl (.int .u64),.pl .bool],[]⟩,a7L K0⟩
theorem g3F:a1K tp 102 b0L:=a4E (n:=102) (k:=60) (hs:=[]) (A:=fun _ _=>none) trivial (by intro x; kernel_rfl)
def b7E:Con:=⟨⟨[.pl a1Q,.pl (.int .u64)],[]⟩,⟨[.pl .bool],[]⟩,a6A K0⟩
theorem g9E:a1K tp 158 b7E:=a4E (n:=158) (k:=60) (hs:=[(102,.con b0L)]) (A:=fun _ _=>none) ⟨g3F,trivial⟩ (by intro x; kernel_rfl)
def b3F:Con:=⟨⟨[.pl a0Q],[]⟩,⟨[.pl (.int .i64)],[]⟩,a6S K0⟩
theorem g8U:a1K tp 144 b3F:=a4E (n:=144) (k:=90) (hs:=[(157,.con c3P),(158,.con b7E)]) (A:=fun p _=>match p with | 1000000::_=>none | _=>some (.unroll 14)) ⟨g8I,g9E,trivial⟩ (by intro x; kernel_rfl)
def a5I:Con:=⟨⟨[.pl a0Q],[]⟩,⟨[.pl .bool],[]⟩,a3O K0⟩
theorem e7U:a1K tp 116 a5I:=a4E (n:=116) (k:=60) (hs:=[(144,.con b3F)]) (A:=fun _ _=>none) ⟨g8U,trivial⟩ (by intro x; kernel_rfl)
def b5L:Con:=⟨⟨[.pl (.int .u64),.pl (.int .u64),.pl (.int .u64)],[]⟩,⟨[.pl (.int .u64)],[]⟩,b0A K0⟩
theorem g4R:a1K tp 115 b5L:=a4E (n:=115) (k:=60) (hs:=[(24,.con a1L),(36,.con a4O),(84,.con a1O),(88,.con a3K),(97,.fresh a6B)]) (A:=fun _ _=>none) ⟨e3P,f4K,e7D,f1J,e2N,trivial⟩ (by intro x; kernel_rfl)
def b7X:Con:=⟨⟨[.pl (.int .u64),.pl (.int .u64),.pl (.int .u64)],[]⟩,⟨[.pl (.int .u64)],[]⟩,b0M K0⟩
theorem g8X:a1K tp 127 b7X:=a4E (n:=127) (k:=60) (hs:=[(115,.con b5L)]) (A:=fun _ _=>none) ⟨g4R,trivial⟩ (by intro x; kernel_rfl)
def b5O:Con:=⟨⟨[.pl (.int .u64),.pl a0Q],[]⟩,⟨[.pl (.int .u64),.pl (.int .i64)],[]⟩,a9B K0⟩
theorem h2C:a1K tp 90 b5O:=a4E (n:=90) (k:=60) (hs:=[(24,.con a1L),(83,.con a8V),(84,.con a1O),(88,.con a3K),(98,.con a5G),(116,.con a5I),(127,.con b7X)]) (A:=fun _ _=>none) ⟨e3P,g5N,e7D,f1J,f9R,e7U,g8X,trivial⟩ (by intro x; kernel_rfl)
def a1X:Con:=⟨⟨[.pl (.sl (.int .i64)),.pl (.sl (.int .i64))],[]⟩,⟨[.pl (.sl (.int .i64))],[]⟩,a1H K0⟩
theorem d8W:a1K tp 34 a1X:=a4E (n:=34) (k:=60) (hs:=[]) (A:=b1V [([1000000,34],7,.join ⟨(.pl (.sl (.int .i64))::.pl (.sl (.int .i64))::dd 3 (.whole 0::.pl (.int .i64)::.pl (.int .i64)::dd 44 [])),[.row (.int .i64)]⟩),([1000000,34],9,.join ⟨(.pl (.sl (.int .i64))::.pl (.sl (.int .i64))::dd 3 (.whole 0::.pl (.int .i64)::.pl (.int .i64)::dd 44 [])),[.row (.int .i64)]⟩),([34],0,.tmpl ⟨(.pl (.sl (.int .i64))::.pl (.sl (.int .i64))::dd 3 (.whole 0::.pl (.int .i64)::.pl (.int .i64)::dd 44 [])),[.row (.int .i64)]⟩)]) trivial (by intro x; kernel_rfl)
def c3G:Con:=⟨⟨[.pl (.int .u64),.pl (.int .i64)],[]⟩,⟨[.pl (.int .u64),.pl (.int .i64)],[]⟩,b5D K0⟩
theorem g9F:a1K tp 128 c3G:=a4E (n:=128) (k:=60) (hs:=[(24,.con a1L),(34,.con a1X),(84,.con a1O),(88,.con a3K),(98,.con a5G)]) (A:=b1V [([1000000,128],4,.join ⟨(.pl (.int .u64)::.pl (.int .i64)::dd 43 []),[]⟩),([128],0,.tmpl ⟨(.pl (.int .u64)::dd 5 (.pl (.sl (.int .i64))::.pl (.int .i64)::dd 37 [])),[]⟩)]) ⟨e3P,d8W,e7D,f1J,f9R,trivial⟩ (by intro x; kernel_rfl)
def a5N:Con:=⟨⟨[.pl (.sl (.int .i64))],[]⟩,⟨[.pl .bool],[]⟩,a2D K0⟩
theorem g2A:a1K tp 60 a5N:=a4E (n:=60) (k:=60) (hs:=[]) (A:=fun _ _=>none) trivial (by intro x; kernel_rfl)
def a3J:Con:=⟨⟨[.pl (.sl (.int .i64))],[]⟩,⟨[.pl a1Q,.pl (.int .i64)],[]⟩,a2L K0⟩
theorem f9F:a1K tp 40 a3J:=a4E (n:=40) (k:=60) (hs:=[(24,.con a1L),(60,.con a5N)]) (A:=fun _ _=>none) ⟨e3P,g2A,trivial⟩ (by intro x; kernel_rfl)
def c0C:Con:=⟨⟨[.pl a1Q,.pl (.int .u64)],[]⟩,⟨[.pl a1Q,.pl (.int .i64)],[]⟩,b2V K0⟩
theorem h0Q:a1K tp 129 c0C:=a4E (n:=129) (k:=60) (hs:=[(35,.con a0T),(40,.con a3J),(84,.con a1O),(88,.con a3K),(98,.con a5G)]) (A:=fun _ _=>none) ⟨d0E,f9F,e7D,f1J,f9R,trivial⟩ (by intro x; kernel_rfl)
def b7C:Con:=⟨⟨[.pl a1Q,.pl (.int .u64),.pl (.int .i64)],[]⟩,⟨[.pl a1Q,.pl (.int .i64)],[]⟩,a9U K0⟩
theorem h3Q:a1K tp 91 b7C:=a4E (n:=91) (k:=60) (hs:=[(128,.con c3G),(129,.con c0C)]) (A:=fun _ _=>none) ⟨g9F,h0Q,trivial⟩ (by intro x; kernel_rfl)
def b5W:Con:=⟨⟨[.pl (.int .u64),.pl a0Q],[]⟩,⟨[.pl a1Q,.pl (.int .i64)],[]⟩,b1H K0⟩
theorem h1R:a1K tp 61 b5W:=a4E (n:=61) (k:=60) (hs:=[(90,.con b5O),(91,.con b7C)]) (A:=fun _ _=>none) ⟨h2C,h3Q,trivial⟩ (by intro x; kernel_rfl)
def b6X:Con:=⟨⟨[.pl a0Q],[]⟩,⟨[.pl a1P,.pl (.int .i64)],[]⟩,b8B K0⟩
theorem h3N:a1K tp 42 b6X:=a4E (n:=42) (k:=60) (hs:=[(61,.con b5W)]) (A:=fun _ _=>none) ⟨h1R,trivial⟩ (by intro x; kernel_rfl)
def b6U:Con:=⟨⟨[],[]⟩,⟨[.pl a0Z],[]⟩,b7W K0⟩
theorem h4A:a1K tp 43 b6U:=a4E (n:=43) (k:=60) (hs:=[]) (A:=fun _ _=>none) trivial (by intro x; kernel_rfl)
def c1O:Con:=⟨⟨[],[]⟩,⟨[.ptr 0 []],a0L⟩,c3O K0⟩
theorem h3E:a1K tp 44 c1O:=a4E (n:=44) (k:=140) (hs:=[]) (A:=fun _ _=>none) trivial (by intro x; kernel_rfl)
def c1P:Con:=⟨⟨[],[]⟩,⟨[.ptr 0 []],a2R⟩,c3M K0⟩
theorem h2Q:a1K tp 45 c1P:=a4E (n:=45) (k:=140) (hs:=[]) (A:=fun _ _=>none) trivial (by intro x; kernel_rfl)
def b6G:Con:=⟨⟨[],[]⟩,⟨[.ptr 0 []],a0F⟩,b4C K0⟩
theorem h1T:a1K tp 18 b6G:=a4E (n:=18) (k:=140) (hs:=[(41,.con b7A),(42,.con b6X),(43,.con b6U),(44,.con c1O),(45,.con c1P)]) (A:=fun _ _=>none) ⟨h2M,h3N,h4A,h3E,h2Q,trivial⟩ (by intro x; kernel_rfl)
def b5K:Con:=⟨⟨[],[]⟩,⟨[.whole 0],[.row a1M]⟩,b1J K0⟩
theorem h3B:a1K tp 19 b5K:=a4E (n:=19) (k:=140) (hs:=[]) (A:=b1V [([19],0,.tmpl ⟨(dd 1 (.whole 0::.pl (.int .u64)::dd 24 [])),[.row a1M]⟩),([19],2,.tmpl ⟨(dd 1 (.whole 0::dd 1 (.pl (.int .u64)::dd 23 []))),[.row a1M]⟩)]) trivial (by intro x; kernel_rfl)
def b5N:Con:=⟨⟨[.pl (.int .i64)],[]⟩,⟨[.pl .bool],[]⟩,a8I K0⟩
theorem h2H:a1K tp 46 b5N:=a4E (n:=46) (k:=60) (hs:=[]) (A:=fun _ _=>none) trivial (by intro x; kernel_rfl)
def a2V:Con:=⟨⟨[.pl a1Q],[]⟩,⟨[.pl .bool],[]⟩,a2E K0⟩
theorem f4I:a1K tp 56 a2V:=a4E (n:=56) (k:=60) (hs:=[]) (A:=fun _ _=>none) trivial (by intro x; kernel_rfl)
def b0I:Con:=⟨⟨[.bp a0K,.pl (.int .u64)],[]⟩,⟨[.pl (.int .i64)],[]⟩,a6I K0⟩
theorem g4P:a1K tp 126 b0I:=a4E (n:=126) (k:=140) (hs:=[]) (A:=b1V [([126],0,.tmpl ⟨(.bp a0K::.pl (.int .u64)::dd 3 (.pl (.int .i64)::dd 20 [])),[]⟩)]) trivial (by intro x; kernel_rfl)
def a4F:Con:=⟨⟨[.bp a0K,.pl (.int .u64)],[]⟩,⟨[.pl a0X],[]⟩,a3C K0⟩
theorem g6Y:a1K tp 87 a4F:=a4E (n:=87) (k:=140) (hs:=[(126,.con b0I)]) (A:=fun _ _=>none) ⟨g4P,trivial⟩ (by intro x; kernel_rfl)
def b6B:Con:=⟨⟨[.pl a1R,.pl a1Q],[]⟩,⟨[.pl (.sl (.int .i64))],[]⟩,a8W K0⟩
theorem h1L:a1K tp 96 b6B:=a4E (n:=96) (k:=60) (hs:=[(35,.con a0T),(83,.con a8V),(97,.fresh a6B)]) (A:=fun _ _=>none) ⟨d0E,g5N,e2N,trivial⟩ (by intro x; kernel_rfl)
def b5P:Con:=⟨⟨[.pl a1R,.pl a1Q],[]⟩,⟨[.pl a1Q,.pl (.int .i64)],[]⟩,a9D K0⟩
theorem h2S:a1K tp 92 b5P:=a4E (n:=92) (k:=60) (hs:=[(34,.con a1X),(35,.con a0T),(36,.con a4O),(40,.con a3J),(96,.con b6B)]) (A:=fun _ _=>none) ⟨d8W,d0E,f4K,f9F,h1L,trivial⟩ (by intro x; kernel_rfl)
def b3H:Con:=⟨⟨[.pl a1P,.pl a0Q],[]⟩,⟨[.pl (.int .u64)],[]⟩,a6Z K0⟩
theorem h3V:a1K tp 93 b3H:=a4E (n:=93) (k:=60) (hs:=[]) (A:=fun _ _=>none) trivial (by intro x; kernel_rfl)
def b8G:Con:=⟨⟨[.pl a1R,.pl a1Q,.pl a1Q],[]⟩,⟨[.pl .bool],[]⟩,b0Q K0⟩
theorem h3Z:a1K tp 94 b8G:=a4E (n:=94) (k:=60) (hs:=[(34,.con a1X),(35,.con a0T),(36,.con a4O),(84,.con a1O),(88,.con a3K)]) (A:=fun _ _=>none) ⟨d8W,d0E,f4K,e7D,f1J,trivial⟩ (by intro x; kernel_rfl)
def b2H:Con:=⟨⟨[.ptr 0 [],.pl a1R],a0F⟩,⟨[.pl a1Q,.pl (.int .i64)],a0F⟩,a6E K0⟩
theorem h3I:a1K tp 62 b2H:=a4E (n:=62) (k:=140) (hs:=[(87,.con a4F),(92,.con b5P),(93,.con b3H),(94,.con b8G)]) (A:=b1V [([1000000,62],7,.join ⟨(.ptr 0 []::dd 2 (.ptr 8 []::.ptr 9 []::dd 1 (.ptr 10 []::dd 75 (.ptr 0 []::.ptr 1 []::.ptr 4 []::[])))),[.box a1I ((.pair (.pl (.int .u64)) ((.pair (.pl a0Q) ((.pair (.pl a1P) ((.pair (.pl (.int .u64)) ((.pair (.pl a0Z) ((.pair (.ptr 1 []) ((.pair (.whole 3) ((.pair (.ptr 4 []) (.pl .nil))))))))))))))))),.box a0K ((.pair (.whole 2) (.pl (.cons (.arr 4 a1Q) .nil)))),.row a0X,.row a0P,.box a0S ((.pair (.pl a1Q) ((.pair (.whole 5) ((.pair (.whole 6) ((.pair (.whole 7) (.pl .nil))))))))),.row (.arr 32 (.int .u8)),.row (.int .u64),.row a0Y,.box a1R (.pl a1R),.box a1Q (.pl a1Q),.box a1Q (.pl a1Q)]⟩)]) ⟨g6Y,h2S,h3V,h3Z,trivial⟩ (by intro x; kernel_rfl)
def b4M:Con:=⟨⟨[.pl (.sl (.int .u8)),.pl (.int .i64),.pl (.int .i64)],[]⟩,⟨[.pl (.int .i64)],[]⟩,a7T K0⟩
theorem h0U:a1K tp 165 b4M:=a4E (n:=165) (k:=60) (hs:=[]) (A:=b1V [([165],0,.tmpl ⟨(.pl (.sl (.int .u8))::.pl (.int .i64)::.pl (.int .i64)::dd 4 (.pl (.int .i64)::dd 30 [])),[]⟩)]) trivial (by intro x; kernel_rfl)
def c2L:Con:=⟨⟨[.pl (.sl (.int .u8)),.pl (.int .i64)],[]⟩,⟨[.pl (.int .i64),.pl (.int .i64)],[]⟩,b4F K0⟩
theorem h1A:a1K tp 161 c2L:=a4E (n:=161) (k:=60) (hs:=[(165,.con b4M)]) (A:=b1V [([1000000,161],6,.join ⟨(.pl (.sl (.int .u8))::.pl (.int .i64)::dd 4 (.pl (.int .i64)::.pl (.int .i64)::.pl (.int .i64)::dd 4 (.pl (.int .i64)::.pl (.int .i64)::.pl .bool::dd 14 []))),[]⟩),([161],0,.tmpl ⟨(.pl (.sl (.int .u8))::.pl (.int .i64)::dd 4 (.pl (.int .i64)::.pl (.int .i64)::.pl (.int .i64)::dd 21 [])),[]⟩)]) ⟨h0U,trivial⟩ (by intro x; kernel_rfl)
def b6Z:Con:=⟨⟨[.pl (.sl (.int .u8))],[]⟩,⟨[.pl (.sl (.int .u8))],[]⟩,a9T K0⟩
theorem g9W:a1K tp 149 b6Z:=a4E (n:=149) (k:=90) (hs:=[(161,.con c2L),(162,.inl)]) (A:=b1V [([149],0,.tmpl ⟨(.pl (.sl (.int .u8))::dd 2 (.whole 0::.pl (.int .i64)::.pl (.int .i64)::dd 45 [])),[.row (.int .u8)]⟩),([162,11,4,149],0,.tmpl ⟨(.whole 0::.pl (.sl (.int .u8))::dd 75 []),[.row (.int .u8)]⟩),([162,7,5,149],0,.tmpl ⟨(.whole 0::.pl (.sl (.int .u8))::dd 24 (.pl (.sl (.int .u8))::dd 4 (.pl (.int .i64)::.pl (.int .i64)::.pl (.int .i64)::dd 43 []))),[.row (.int .u8)]⟩)]) ⟨h1A,trivial⟩ (by intro x; kernel_rfl)
def b9J:Con:=⟨⟨[.pl (.sl (.int .u8)),.pl (.int .u64),.pl (.int .u64)],[]⟩,⟨[.pl (.int .u64),.pl (.int .i64)],[]⟩,b1R K0⟩
theorem g9H:a1K tp 130 b9J:=a4E (n:=130) (k:=60) (hs:=[(149,.con b6Z)]) (A:=b1V [([1000000,130],9,.join ⟨(dd 2 (.pl (.int .u64)::dd 5 (.pl (.int .u64)::dd 20 []))),[]⟩)]) ⟨g9W,trivial⟩ (by intro x; kernel_rfl)
def c2I:Con:=⟨⟨[.pl a1R,.pl a1Q,.pl a1Q,.pl a0Q],[]⟩,⟨[.pl (.int .u64),.pl (.int .u64),.pl (.int .i64)],[]⟩,b4E K0⟩
theorem h2U:a1K tp 95 c2I:=a4E (n:=95) (k:=60) (hs:=[(24,.con a1L),(35,.con a0T),(36,.con a4O),(56,.con a2V),(60,.con a5N),(84,.con a1O),(88,.con a3K),(98,.con a5G),(116,.con a5I),(130,.con b9J)]) (A:=fun _ _=>none) ⟨e3P,d0E,f4K,f4I,g2A,e7D,f1J,f9R,e7U,g9H,trivial⟩ (by intro x; kernel_rfl)
def b6T:Con:=⟨⟨[.pl a1R,.pl a1Q,.pl a1Q,.pl a0Q],[]⟩,⟨[.pl a3Q,.pl (.int .i64)],[]⟩,a9V K0⟩
theorem h3F:a1K tp 63 b6T:=a4E (n:=63) (k:=60) (hs:=[(24,.con a1L),(34,.con a1X),(35,.con a0T),(60,.con a5N),(83,.con a8V),(84,.con a1O),(88,.con a3K),(95,.con c2I),(96,.con b6B),(97,.fresh a6B),(98,.con a5G)]) (A:=b1V [([1000000,63],20,.join ⟨(dd 8 (.ptr 0 []::dd 4 (.ptr 1 []::dd 1 (.pl (.sl (.int .i64))::.pl (.sl (.int .i64))::dd 1 (.pl (.sl (.int .i64))::dd 1 (.pl (.sl (.int .i64))::dd 1 (.pl (.sl (.int .i64))::dd 111 []))))))),[.box a3Q (.pl a3Q),.box a3Q (.pl a3Q)]⟩),([1000000,63],9,.join ⟨(dd 4 (.ptr 0 []::.ptr 1 []::dd 1 (.ptr 2 []::.ptr 3 []::dd 2 (.pl (.int .u64)::dd 1 (.ptr 4 []::dd 120 []))))),[.box a1R (.pl a1R),.box a1Q (.pl a1Q),.box a0Q (.pl a0Q),.box a3Q (.pl a3Q),.box a3Q (.pl a3Q)]⟩)]) ⟨e3P,d8W,d0E,g2A,g5N,e7D,f1J,h2U,h1L,e2N,f9R,trivial⟩ (by intro x; kernel_rfl)
def b3M:Con:=⟨⟨[.pl a1A],[]⟩,⟨[.pl .bool],[]⟩,a7K K0⟩
theorem h1E:a1K tp 150 b3M:=a4E (n:=150) (k:=60) (hs:=[(34,.con a1X),(35,.con a0T),(36,.con a4O),(56,.con a2V)]) (A:=fun _ _=>none) ⟨d8W,d0E,f4K,f4I,trivial⟩ (by intro x; kernel_rfl)
def a5H:Con:=⟨⟨[.pl (.sl a1A)],[]⟩,⟨[.pl .bool],[]⟩,a4B K0⟩
theorem e9B:a1K tp 132 a5H:=a4E (n:=132) (k:=60) (hs:=[(150,.con b3M)]) (A:=b1V [([132],0,.tmpl ⟨(.pl (.sl a1A)::dd 2 (.pl (.int .i64)::dd 33 [])),[]⟩)]) ⟨h1E,trivial⟩ (by intro x; kernel_rfl)
def a9K:Con:=⟨⟨[.pl a1S],[]⟩,⟨[.pl .bool],[]⟩,a4R K0⟩
theorem f6K:a1K tp 133 a9K:=a4E (n:=133) (k:=60) (hs:=[(56,.con a2V)]) (A:=fun _ _=>none) ⟨f4I,trivial⟩ (by intro x; kernel_rfl)
def b0Y:Con:=⟨⟨[.pl a0Z],[]⟩,⟨[.pl .bool],[]⟩,a7J K0⟩
theorem h0X:a1K tp 99 b0Y:=a4E (n:=99) (k:=60) (hs:=[(132,.con a5H),(133,.con a9K)]) (A:=b1V [([1000000,99],4,.join ⟨(dd 1 (.ptr 0 []::dd 28 [])),[.box a0Z (.pl a0Z)]⟩),([99],0,.tmpl ⟨(dd 1 (.ptr 0 []::dd 1 (.pl (.int .i64)::dd 26 []))),[.box a0Z (.pl a0Z)]⟩)]) ⟨e9B,f6K,trivial⟩ (by intro x; kernel_rfl)
def b5R:Con:=⟨⟨[.pl a0Z,.pl (.int .u64)],[]⟩,⟨[.pl a0Z,.pl (.int .i64)],[]⟩,a9A K0⟩
theorem h2D:a1K tp 64 b5R:=a4E (n:=64) (k:=60) (hs:=[(99,.con b0Y)]) (A:=fun _ _=>none) ⟨h0X,trivial⟩ (by intro x; kernel_rfl)
def a7M:Con:=⟨⟨[.ptr 0 [],.pl a0X],a0L⟩,⟨[],a0L⟩,a4Q K0⟩
theorem g1C:a1K tp 101 a7M:=a4E (n:=101) (k:=140) (hs:=[(126,.con b0I)]) (A:=fun _ _=>none) ⟨g4P,trivial⟩ (by intro x; kernel_rfl)
def a6Q:Con:=⟨⟨[.pl a1Q,.pl a1Q],[]⟩,⟨[.pl a1Q,.pl (.int .i64)],[]⟩,a4Y K0⟩
theorem e9P:a1K tp 111 a6Q:=a4E (n:=111) (k:=60) (hs:=[(24,.con a1L),(35,.con a0T),(36,.con a4O),(97,.fresh a6B)]) (A:=fun _ _=>none) ⟨e3P,d0E,f4K,e2N,trivial⟩ (by intro x; kernel_rfl)
def a6F:Con:=⟨⟨[.ptr 0 [],.pl (.int .u64),.pl a1Q],a0L⟩,⟨[.pl .bool],a0L⟩,a3Y K0⟩
theorem g2D:a1K tp 100 a6F:=a4E (n:=100) (k:=140) (hs:=[(87,.con a4F),(101,.con a7M),(111,.con a6Q)]) (A:=fun _ _=>none) ⟨g6Y,g1C,e9P,trivial⟩ (by intro x; kernel_rfl)
def b1G:Con:=⟨⟨[.ptr 0 [],.pl (.int .u64),.pl (.int .i64),.pl a1Q],a0L⟩,⟨[.pl (.int .i64)],a0L⟩,a2O K0⟩
theorem h2L:a1K tp 65 b1G:=a4E (n:=65) (k:=140) (hs:=[(24,.con a1L),(34,.con a1X),(35,.con a0T),(100,.con a6F)]) (A:=b1V [([1000000,65],4,.join ⟨(.ptr 0 []::.pl (.int .u64)::.pl (.int .i64)::dd 4 (.ptr 2 []::dd 34 (.ptr 0 []::[]))),[.box a0K ((.pair (.whole 1) (.pl (.cons (.arr 4 a1Q) .nil)))),.row a0X,.box a1Q (.pl a1Q)]⟩)]) ⟨e3P,d8W,d0E,g2D,trivial⟩ (by intro x; kernel_rfl)
def a8B:Con:=⟨⟨[.ptr 0 [],.pl (.int .u64)],a0L⟩,⟨[.pl (.int .i64)],a0L⟩,a3X K0⟩
theorem h3J:a1K tp 66 a8B:=a4E (n:=66) (k:=140) (hs:=[(87,.con a4F),(101,.con a7M)]) (A:=fun _ _=>none) ⟨g6Y,g1C,trivial⟩ (by intro x; kernel_rfl)
def c2F:Con:=⟨⟨[.pl (.int .u64),.pl (.int .u64)],[]⟩,⟨[.pl (.int .u64)],[]⟩,a8U K0⟩
theorem h2O:a1K tp 67 c2F:=a4E (n:=67) (k:=60) (hs:=[(24,.con a1L),(34,.con a1X),(84,.con a1O),(102,.con b0L)]) (A:=fun _ _=>none) ⟨e3P,d8W,e7D,g3F,trivial⟩ (by intro x; kernel_rfl)
def a8A:Con:=⟨⟨[.ptr 0 [],.pl (.int .u64),.pl a1Q],a0L⟩,⟨[],a0L⟩,a4U K0⟩
theorem g5Q:a1K tp 103 a8A:=a4E (n:=103) (k:=140) (hs:=[(24,.con a1L),(34,.con a1X),(35,.con a0T),(87,.con a4F),(101,.con a7M)]) (A:=fun _ _=>none) ⟨e3P,d8W,d0E,g6Y,g1C,trivial⟩ (by intro x; kernel_rfl)
def b1A:Con:=⟨⟨[.ptr 0 [],.pl (.int .u64),.pl (.int .u64),.pl a1Q],a0L⟩,⟨[.pl (.int .i64)],a0L⟩,a5Q K0⟩
theorem h3U:a1K tp 68 b1A:=a4E (n:=68) (k:=140) (hs:=[(100,.con a6F),(103,.con a8A)]) (A:=b1V [([1000000,68],4,.join ⟨(.ptr 0 []::.pl (.int .u64)::.pl (.int .u64)::dd 4 (.ptr 2 []::dd 16 (.ptr 0 []::[]))),[.box a0K ((.pair (.whole 1) (.pl (.cons (.arr 4 a1Q) .nil)))),.row a0X,.box a1Q (.pl a1Q)]⟩)]) ⟨g2D,g5Q,trivial⟩ (by intro x; kernel_rfl)
def b1C:Con:=⟨⟨[.ptr 0 [],.pl (.int .u64),.pl a1Q],a0L⟩,⟨[.pl (.int .i64)],a0L⟩,a5R K0⟩
theorem h3X:a1K tp 69 b1C:=a4E (n:=69) (k:=140) (hs:=[(100,.con a6F)]) (A:=fun _ _=>none) ⟨g2D,trivial⟩ (by intro x; kernel_rfl)
def c0F:Con:=⟨⟨[],[]⟩,⟨[.pl (.arr 64 (.int .u32))],[]⟩,c1W K0⟩
theorem g8W:a1K tp 166 c0F:=a4E (n:=166) (k:=60) (hs:=[]) (A:=fun _ _=>none) trivial (by intro x; kernel_rfl)
def c0N:Con:=⟨⟨[.pl (.int .u32),.pl (.int .u64)],[]⟩,⟨[.pl (.int .u32)],[]⟩,a2S K0⟩
theorem g8H:a1K tp 167 c0N:=a4E (n:=167) (k:=60) (hs:=[]) (A:=fun _ _=>none) trivial (by intro x; kernel_rfl)
def c0D:Con:=⟨⟨[.pl (.arr 8 (.int .u32)),.pl (.sl (.int .u8))],[]⟩,⟨[.pl (.arr 8 (.int .u32))],[]⟩,b2R K0⟩
theorem g8V:a1K tp 163 c0D:=a4E (n:=163) (k:=60) (hs:=[(166,.con c0F),(167,.con c0N)]) (A:=b1V [([163],0,.tmpl ⟨(dd 1 (.pl (.sl (.int .u8))::.ptr 0 []::dd 1 (.ptr 1 []::.ptr 2 []::.ptr 3 []::.pl (.int .i64)::dd 183 []))),[.box (.arr 8 (.int .u32)) (.pl (.arr 8 (.int .u32))),.box (.arr 8 (.int .u32)) (.pl (.arr 8 (.int .u32))),.box (.arr 64 (.int .u32)) (.pl (.arr 64 (.int .u32))),.box (.arr 64 (.int .u32)) (.pl (.arr 64 (.int .u32)))]⟩),([163],2,.tmpl ⟨(dd 2 (.ptr 0 []::dd 1 (.ptr 1 []::.ptr 2 []::.ptr 3 []::dd 3 (.ptr 4 []::.pl (.int .i64)::dd 179 [])))),[.box (.arr 8 (.int .u32)) (.pl (.arr 8 (.int .u32))),.box (.arr 8 (.int .u32)) (.pl (.arr 8 (.int .u32))),.box (.arr 64 (.int .u32)) (.pl (.arr 64 (.int .u32))),.box (.arr 64 (.int .u32)) (.pl (.arr 64 (.int .u32))),.box (.arr 8 (.int .u32)) (.pl (.arr 8 (.int .u32)))]⟩),([163],4,.tmpl ⟨(dd 2 (.ptr 0 []::dd 1 (.ptr 1 []::dd 5 (.ptr 2 []::dd 5 (.pl (.int .i64)::dd 174 []))))),[.box (.arr 8 (.int .u32)) (.pl (.arr 8 (.int .u32))),.box (.arr 8 (.int .u32)) (.pl (.arr 8 (.int .u32))),.box (.arr 8 (.int .u32)) (.pl (.arr 8 (.int .u32)))]⟩)]) ⟨g8W,g8H,trivial⟩ (by intro x; kernel_rfl)
def b3Z:Con:=⟨⟨[.pl (.sl (.int .u8))],[]⟩,⟨[.pl (.arr 32 (.int .u8))],[]⟩,a9Y K0⟩
theorem g4A:a1K tp 151 b3Z:=a4E (n:=151) (k:=60) (hs:=[(163,.con c0D)]) (A:=b1V [([151],0,.tmpl ⟨(.pl (.sl (.int .u8))::dd 1 (.ptr 0 []::.whole 1::dd 67 [])),[.box (.arr 32 (.int .u8)) (.pl (.arr 32 (.int .u8))),.row (.int .u8)]⟩),([151],2,.tmpl ⟨(dd 2 (.ptr 0 []::.whole 1::.pl (.int .u64)::.pl (.int .i64)::dd 65 [])),[.box (.arr 32 (.int .u8)) (.pl (.arr 32 (.int .u8))),.row (.int .u8)]⟩),([151],4,.tmpl ⟨(dd 2 (.ptr 0 []::.whole 1::dd 2 (.ptr 2 []::.pl (.int .i64)::dd 63 []))),[.box (.arr 32 (.int .u8)) (.pl (.arr 32 (.int .u8))),.row (.int .u8),.box (.arr 8 (.int .u32)) (.pl (.arr 8 (.int .u32)))]⟩),([151],6,.tmpl ⟨(dd 2 (.ptr 0 []::dd 3 (.ptr 1 []::dd 1 (.ptr 2 []::.pl (.int .i64)::dd 61 [])))),[.box (.arr 32 (.int .u8)) (.pl (.arr 32 (.int .u8))),.box (.arr 8 (.int .u32)) (.pl (.arr 8 (.int .u32))),.box (.arr 32 (.int .u8)) (.pl (.arr 32 (.int .u8)))]⟩)]) ⟨g8V,trivial⟩ (by intro x; kernel_rfl)
def c1S:Con:=⟨⟨[.pl (.sl (.int .u8))],[]⟩,⟨[.pl (.arr 32 (.int .u8))],[]⟩,b4B K0⟩
theorem h0T:a1K tp 146 c1S:=a4E (n:=146) (k:=60) (hs:=[(151,.con b3Z)]) (A:=fun _ _=>none) ⟨g4A,trivial⟩ (by intro x; kernel_rfl)
def b8Z:Con:=⟨⟨[.pl a1Q],[]⟩,⟨[.pl (.sl (.int .u8))],[]⟩,b1X K0⟩
theorem g9D:a1K tp 164 b8Z:=a4E (n:=164) (k:=60) (hs:=[]) (A:=b1V [([164],0,.tmpl ⟨(dd 1 (.ptr 0 []::dd 1 (.whole 1::.pl (.int .i64)::dd 27 []))),[.box a1Q (.pl a1Q),.row (.int .u8)]⟩)]) trivial (by intro x; kernel_rfl)
def a8R:Con:=⟨⟨[.pl (.sl (.int .u8)),.pl a1Q],[]⟩,⟨[.pl (.sl (.int .u8))],[]⟩,a5C K0⟩
theorem g6D:a1K tp 159 a8R:=a4E (n:=159) (k:=60) (hs:=[(164,.con b8Z)]) (A:=fun _ _=>none) ⟨g9D,trivial⟩ (by intro x; kernel_rfl)
def b3N:Con:=⟨⟨[.pl (.sl (.int .u8)),.pl (.int .u64)],[]⟩,⟨[.pl (.sl (.int .u8))],[]⟩,a5K K0⟩
theorem g9A:a1K tp 160 b3N:=a4E (n:=160) (k:=60) (hs:=[(159,.con a8R)]) (A:=fun _ _=>none) ⟨g6D,trivial⟩ (by intro x; kernel_rfl)
def b8F:Con:=⟨⟨[.pl a0P],[]⟩,⟨[.pl (.sl (.int .u8))],[]⟩,b0V K0⟩
theorem g9C:a1K tp 147 b8F:=a4E (n:=147) (k:=60) (hs:=[(159,.con a8R),(160,.con b3N)]) (A:=fun _ _=>none) ⟨g6D,g9A,trivial⟩ (by intro x; kernel_rfl)
def b5J:Con:=⟨⟨[.pl a0P],[]⟩,⟨[.pl (.arr 32 (.int .u8))],[]⟩,a6O K0⟩
theorem g6F:a1K tp 122 b5J:=a4E (n:=122) (k:=60) (hs:=[(146,.con c1S),(147,.con b8F)]) (A:=fun _ _=>none) ⟨h0T,g9C,trivial⟩ (by intro x; kernel_rfl)
def b3K:Con:=⟨⟨[.pl (.sl a0P),.pl (.int .i64)],[]⟩,⟨[.pl (.sl (.arr 32 (.int .u8)))],[]⟩,a8C K0⟩
theorem g5X:a1K tp 125 b3K:=a4E (n:=125) (k:=60) (hs:=[(122,.con b5J)]) (A:=b1V [([125],0,.tmpl ⟨(.pl (.sl a0P)::.pl (.int .i64)::dd 3 (.whole 0::.pl (.int .i64)::dd 14 [])),[.row (.arr 32 (.int .u8))]⟩)]) ⟨g6F,trivial⟩ (by intro x; kernel_rfl)
def a7W:Con:=⟨⟨[.pl (.int .i64)],[]⟩,⟨[.pl (.int .i64)],[]⟩,a5B K0⟩
theorem g0D:a1K tp 148 a7W:=a4E (n:=148) (k:=60) (hs:=[]) (A:=b1V [([148],0,.tmpl ⟨(.pl (.int .i64)::dd 2 (.pl (.int .i64)::dd 8 [])),[]⟩)]) trivial (by intro x; kernel_rfl)
def b5Y:Con:=⟨⟨[.pl (.arr 32 (.int .u8)),.pl (.arr 32 (.int .u8))],[]⟩,⟨[.pl (.arr 32 (.int .u8))],[]⟩,a8X K0⟩
theorem g5E:a1K tp 152 b5Y:=a4E (n:=152) (k:=60) (hs:=[(151,.con b3Z)]) (A:=fun _ _=>none) ⟨g4A,trivial⟩ (by intro x; kernel_rfl)
def b4G:Con:=⟨⟨[.pl (.sl (.arr 32 (.int .u8)))],[]⟩,⟨[.pl (.arr 32 (.int .u8))],[]⟩,a4Z K0⟩
def b9T (k0:Nat):Con:=⟨⟨[.pl (.sl (.arr 32 (.int .u8)))],[]⟩,⟨[.pl (.arr 32 (.int .u8))],[]⟩,a3H K0 k0⟩
theorem f9T:∀ k0,a1K tp 134 (b9T k0)
 | 0=>fun x y h=>by cases h
 | k0 + 1=>a4E (n:=134) (k:=60) (hs:=[(134,.con (b9T k0)),(148,.con a7W),(151,.con b3Z),(152,.con b5Y)]) (A:=fun _ _=>none) ⟨(f9T k0),g0D,g4A,g5E,trivial⟩ (by intro x; kernel_rfl)
theorem g5A:a1K tp 134 b4G:=f9T K0
def c0T:Con:=⟨⟨[.pl (.sl a0P),.pl (.int .i64)],[]⟩,⟨[.pl (.arr 32 (.int .u8)),.pl .bool],[]⟩,b0F K0⟩
theorem h0H:a1K tp 104 c0T:=a4E (n:=104) (k:=60) (hs:=[(125,.con b3K),(134,.con b4G)]) (A:=b1V [([1000000,104],4,.join ⟨(.pl (.sl a0P)::.pl (.int .i64)::dd 2 (.ptr 0 []::dd 14 [])),[.box (.arr 32 (.int .u8)) (.pl (.arr 32 (.int .u8)))]⟩)]) ⟨g5X,g5A,trivial⟩ (by intro x; kernel_rfl)
def a8S:Con:=⟨⟨[.ptr 0 [],.pl (.int .u64),.pl a1Q],a0F⟩,⟨[.pl a0P],a0F⟩,a5E K0⟩
theorem h1Y:a1K tp 70 a8S:=a4E (n:=70) (k:=140) (hs:=[(104,.con c0T)]) (A:=fun _ _=>none) ⟨h0H,trivial⟩ (by intro x; kernel_rfl)
def b4O:Con:=⟨⟨[.ptr 0 [],.pl a1R],a0F⟩,⟨[.pl a1W],a0F⟩,a7V K0⟩
theorem h3R:a1K tp 47 b4O:=a4E (n:=47) (k:=140) (hs:=[(56,.con a2V),(62,.con b2H),(63,.con b6T),(64,.con b5R),(65,.con b1G),(66,.con a8B),(67,.con c2F),(68,.con b1A),(69,.con b1C),(70,.con a8S)]) (A:=b1V [([1000000,47],22,.join ⟨(.ptr 0 []::dd 2 (.ptr 8 []::.ptr 9 []::dd 4 (.ptr 11 []::dd 171 (.ptr 0 []::.ptr 1 []::.ptr 4 []::[])))),[.box a1I ((.pair (.pl (.int .u64)) ((.pair (.pl a0Q) ((.pair (.pl a1P) ((.pair (.pl (.int .u64)) ((.pair (.pl a0Z) ((.pair (.ptr 1 []) ((.pair (.whole 3) ((.pair (.ptr 4 []) (.pl .nil))))))))))))))))),.box a0K ((.pair (.whole 2) (.pl (.cons (.arr 4 a1Q) .nil)))),.row a0X,.row a0P,.box a0S ((.pair (.pl a1Q) ((.pair (.whole 5) ((.pair (.whole 6) ((.pair (.whole 7) (.pl .nil))))))))),.row (.arr 32 (.int .u8)),.row (.int .u64),.row a0Y,.box a1R (.pl a1R),.box a1W ((.pair (.pl (.int .i64)) ((.pair (.pl (.int .i64)) ((.pair (.pl a3Q) ((.pair (.pl a1Q) ((.pair (.pl a1Q) ((.pair (.pl (.int .u64)) ((.pair (.pl a1Q) ((.pair (.pl a1Q) ((.pair (.whole 10) (.pl .nil))))))))))))))))))),.row a0P,.box a1W ((.pair (.pl (.int .i64)) ((.pair (.pl (.int .i64)) ((.pair (.pl a3Q) ((.pair (.pl a1Q) ((.pair (.pl a1Q) ((.pair (.pl (.int .u64)) ((.pair (.pl a1Q) ((.pair (.pl a1Q) ((.pair (.whole 12) (.pl .nil))))))))))))))))))),.row a0P]⟩)]) ⟨f4I,h3I,h3F,h2D,h2L,h3J,h2O,h3U,h3X,h1Y,trivial⟩ (by intro x; kernel_rfl)
def b6J:Con:=⟨⟨[.pl (.sl a0Y)],[]⟩,⟨[.pl a1Q,.pl (.int .i64)],[]⟩,b1F K0⟩
theorem h1O:a1K tp 73 b6J:=a4E (n:=73) (k:=60) (hs:=[(34,.con a1X),(35,.con a0T),(40,.con a3J)]) (A:=b1V [([73],0,.tmpl ⟨(.pl (.sl a0Y)::dd 1 (.ptr 0 []::dd 1 (.pl (.sl (.int .i64))::.pl (.int .i64)::dd 18 []))),[.box a1Q (.pl a1Q)]⟩)]) ⟨d8W,d0E,f9F,trivial⟩ (by intro x; kernel_rfl)
def a9I:Con:=⟨⟨[.pl (.sl a1A),.pl (.int .u64)],[]⟩,⟨[.pl (.int .i64)],[]⟩,a6P K0⟩
theorem f8A:a1K tp 135 a9I:=a4E (n:=135) (k:=60) (hs:=[]) (A:=b1V [([135],0,.tmpl ⟨(.pl (.sl a1A)::.pl (.int .u64)::dd 3 (.pl (.int .i64)::dd 14 [])),[]⟩)]) trivial (by intro x; kernel_rfl)
def b8Y:Con:=⟨⟨[.pl a1Q],[]⟩,⟨[.pl (.int .i64)],[]⟩,b2B K0⟩
theorem g9N:a1K tp 136 b8Y:=a4E (n:=136) (k:=60) (hs:=[]) (A:=b1V [([136],0,.tmpl ⟨(dd 1 (.ptr 0 []::dd 1 (.pl (.int .i64)::.pl (.int .i64)::dd 17 []))),[.box a1Q (.pl a1Q)]⟩)]) trivial (by intro x; kernel_rfl)
def b9A:Con:=⟨⟨[.pl a0Z,.pl a0Q,.pl a0P,.pl (.int .u64)],[]⟩,⟨[.pl (.int .i64)],[]⟩,b1Z K0⟩
theorem h1F:a1K tp 105 b9A:=a4E (n:=105) (k:=60) (hs:=[(99,.con b0Y),(116,.con a5I),(135,.con a9I),(136,.con b8Y)]) (A:=b1V [([1000000,105],10,.join ⟨(dd 6 (.ptr 0 []::dd 29 [])),[.box a0P (.pl a0P)]⟩)]) ⟨h0X,e7U,f8A,g9N,trivial⟩ (by intro x; kernel_rfl)
def b5T:Con:=⟨⟨[.pl (.int .u64),.pl (.int .u64),.pl (.int .u64),.pl (.int .u64)],[]⟩,⟨[.pl (.int .u64),.pl (.int .i64)],[]⟩,a9J K0⟩
theorem h0N:a1K tp 106 b5T:=a4E (n:=106) (k:=60) (hs:=[(24,.con a1L),(84,.con a1O),(88,.con a3K),(98,.con a5G)]) (A:=b1V [([1000000,106],4,.join ⟨(.pl (.int .u64)::.pl (.int .u64)::.pl (.int .u64)::.pl (.int .u64)::dd 38 []),[]⟩)]) ⟨e3P,e7D,f1J,f9R,trivial⟩ (by intro x; kernel_rfl)
def b9C:Con:=⟨⟨[.pl a1Q,.pl a1Q],[]⟩,⟨[.pl a1Q,.pl (.int .i64)],[]⟩,b1M K0⟩
theorem h0J:a1K tp 107 b9C:=a4E (n:=107) (k:=60) (hs:=[(35,.con a0T),(40,.con a3J),(88,.con a3K)]) (A:=fun _ _=>none) ⟨d0E,f9F,f1J,trivial⟩ (by intro x; kernel_rfl)
def b7U:Con:=⟨⟨[.pl (.sl a1A),.pl (.int .u64),.pl a1Q,.pl a1Q,.pl (.int .u64)],[]⟩,⟨[.pl (.sl a1A),.pl (.int .i64)],[]⟩,b0X K0⟩
theorem h1D:a1K tp 108 b7U:=a4E (n:=108) (k:=60) (hs:=[(24,.con a1L),(34,.con a1X),(35,.con a0T),(56,.con a2V),(60,.con a5N),(132,.con a5H),(135,.con a9I)]) (A:=b1V [([1000000,108],4,.join ⟨(.pl (.sl a1A)::.pl (.int .u64)::dd 2 (.pl (.int .u64)::dd 2 (.ptr 0 []::.ptr 1 []::dd 97 []))),[.box a1Q (.pl a1Q),.box a1Q (.pl a1Q)]⟩)]) ⟨e3P,d8W,d0E,f4I,g2A,e9B,f8A,trivial⟩ (by intro x; kernel_rfl)
def b7T:Con:=⟨⟨[.pl (.sl a1A)],[]⟩,⟨[.pl (.sl a1A)],[]⟩,b0T K0⟩
theorem h0Z:a1K tp 137 b7T:=a4E (n:=137) (k:=60) (hs:=[]) (A:=b1V [([1000000,137],10,.join ⟨(.pl (.sl a1A)::dd 2 (.whole 0::.pl (.int .i64)::.pl (.int .i64)::dd 76 [])),[.row a1A]⟩),([137],0,.tmpl ⟨(.pl (.sl a1A)::dd 2 (.whole 0::.pl (.int .i64)::dd 77 [])),[.row a1A]⟩),([137],2,.tmpl ⟨(.pl (.sl a1A)::dd 2 (.whole 0::.pl (.int .i64)::.pl (.int .i64)::dd 76 [])),[.row a1A]⟩)]) trivial (by intro x; kernel_rfl)
def c0S:Con:=⟨⟨[.pl (.sl a1A),.pl a1Q],[]⟩,⟨[.pl (.sl a0Y),.pl (.int .i64)],[]⟩,b2U K0⟩
theorem g8S:a1K tp 109 c0S:=a4E (n:=109) (k:=60) (hs:=[(24,.con a1L),(35,.con a0T),(83,.con a8V),(97,.fresh a6B),(132,.con a5H),(137,.con b7T)]) (A:=b1V [([1000000,109],10,.join ⟨(dd 6 (.whole 0::.pl (.sl a1A)::.pl (.sl (.int .i64))::.pl (.int .i64)::dd 13 (.pl (.sl (.int .i64))::.pl (.int .i64)::.pl .bool::dd 26 []))),[.row a0Y]⟩),([109],0,.tmpl ⟨(dd 6 (.whole 0::.pl (.sl a1A)::.pl (.sl (.int .i64))::.pl (.int .i64)::dd 42 [])),[.row a0Y]⟩)]) ⟨e3P,d0E,g5N,e2N,e9B,h0Z,trivial⟩ (by intro x; kernel_rfl)
def b0P:Con:=⟨⟨[.pl a1Q,.pl a1Q],[]⟩,⟨[.pl a1Q,.pl (.int .i64)],[]⟩,a7G K0⟩
theorem g1F:a1K tp 119 b0P:=a4E (n:=119) (k:=60) (hs:=[(34,.con a1X),(35,.con a0T),(40,.con a3J)]) (A:=fun _ _=>none) ⟨d8W,d0E,f9F,trivial⟩ (by intro x; kernel_rfl)
def b8C:Con:=⟨⟨[.pl (.sl a1A),.pl (.int .u64),.pl a1Q],[]⟩,⟨[.pl (.sl a1A),.pl (.int .i64)],[]⟩,b0W K0⟩
theorem h0V:a1K tp 138 b8C:=a4E (n:=138) (k:=60) (hs:=[(56,.con a2V),(111,.con a6Q),(119,.con b0P),(132,.con a5H),(135,.con a9I)]) (A:=fun _ _=>none) ⟨f4I,e9P,g1F,e9B,f8A,trivial⟩ (by intro x; kernel_rfl)
def b8X:Con:=⟨⟨[.pl (.sl a1A),.pl (.sl a0Y)],[]⟩,⟨[.pl (.sl a1A),.pl (.int .i64)],[]⟩,b2A K0⟩
theorem g9I:a1K tp 110 b8X:=a4E (n:=110) (k:=60) (hs:=[(138,.con b8C)]) (A:=b1V [([110],0,.tmpl ⟨(dd 1 (.pl (.sl a0Y)::dd 4 (.pl (.sl a1A)::.pl (.int .i64)::dd 31 []))),[]⟩)]) ⟨h0V,trivial⟩ (by intro x; kernel_rfl)
def b5U:Con:=⟨⟨[.pl (.sl a1A)],[]⟩,⟨[.pl a1Q,.pl (.int .i64)],[]⟩,a9E K0⟩
theorem g9P:a1K tp 112 b5U:=a4E (n:=112) (k:=60) (hs:=[(34,.con a1X),(35,.con a0T),(40,.con a3J),(132,.con a5H)]) (A:=b1V [([112],0,.tmpl ⟨(.pl (.sl a1A)::dd 1 (.ptr 0 []::dd 1 (.pl (.sl (.int .i64))::.pl (.int .i64)::dd 22 []))),[.box a1Q (.pl a1Q)]⟩)]) ⟨d8W,d0E,f9F,e9B,trivial⟩ (by intro x; kernel_rfl)
def b3I:Con:=⟨⟨[.pl a1B],[]⟩,⟨[.pl a1S,.pl (.int .i64)],[]⟩,a8D K0⟩
theorem g6P:a1K tp 139 b3I:=a4E (n:=139) (k:=60) (hs:=[(40,.con a3J)]) (A:=fun _ _=>none) ⟨f9F,trivial⟩ (by intro x; kernel_rfl)
def a5J:Con:=⟨⟨[.pl .bool,.pl (.sl (.int .i64))],[]⟩,⟨[.pl a1B],[]⟩,a2K K0⟩
theorem e3B:a1K tp 141 a5J:=a4E (n:=141) (k:=60) (hs:=[]) (A:=fun _ _=>none) trivial (by intro x; kernel_rfl)
def b4D:Con:=⟨⟨[.pl a1B,.pl a1B],[]⟩,⟨[.pl a1B],[]⟩,a7D K0⟩
theorem g2S:a1K tp 140 b4D:=a4E (n:=140) (k:=60) (hs:=[(34,.con a1X),(36,.con a4O),(97,.fresh a6B),(141,.con a5J)]) (A:=fun _ _=>none) ⟨d8W,f4K,e2N,e3B,trivial⟩ (by intro x; kernel_rfl)
def c1L:Con:=⟨⟨[.pl a1Q,.pl a1Q],[]⟩,⟨[.pl a1S],[]⟩,b3X K0⟩
theorem g9Q:a1K tp 113 c1L:=a4E (n:=113) (k:=60) (hs:=[(35,.con a0T),(139,.con b3I),(140,.con b4D),(141,.con a5J)]) (A:=fun _ _=>none) ⟨d0E,g6P,g2S,e3B,trivial⟩ (by intro x; kernel_rfl)
def b6S:Con:=⟨⟨[.pl a1B,.pl (.sl (.int .i64))],[]⟩,⟨[.pl a1B],[]⟩,a4V K0⟩
theorem h0G:a1K tp 153 b6S:=a4E (n:=153) (k:=60) (hs:=[(34,.con a1X),(84,.con a1O),(98,.con a5G),(141,.con a5J)]) (A:=b1V [([1000000,153],4,.join ⟨(dd 2 (.ptr 0 []::dd 1 (.ptr 1 []::.pl (.sl (.int .i64))::dd 14 (.pl .bool::dd 7 [])))),[.box a1B (.pl a1B),.box a1B (.pl a1B)]⟩)]) ⟨d8W,e7D,f9R,e3B,trivial⟩ (by intro x; kernel_rfl)
def b9D:Con:=⟨⟨[.pl a1B],[]⟩,⟨[.pl a1B],[]⟩,a5W K0⟩
theorem g9S:a1K tp 154 b9D:=a4E (n:=154) (k:=60) (hs:=[(141,.con a5J)]) (A:=fun _ _=>none) ⟨e3B,trivial⟩ (by intro x; kernel_rfl)
def b0K:Con:=⟨⟨[.pl a1S],[]⟩,⟨[.pl a1B],[]⟩,a3I K0⟩
theorem g4S:a1K tp 155 b0K:=a4E (n:=155) (k:=60) (hs:=[(35,.con a0T),(141,.con a5J)]) (A:=fun _ _=>none) ⟨d0E,e3B,trivial⟩ (by intro x; kernel_rfl)
def c3Q:Con:=⟨⟨[.pl a1B,.pl a1B],[]⟩,⟨[.pl a1B],[]⟩,b2E K0⟩
theorem g8K:a1K tp 156 c3Q:=a4E (n:=156) (k:=60) (hs:=[(88,.con a3K),(141,.con a5J)]) (A:=fun _ _=>none) ⟨f1J,e3B,trivial⟩ (by intro x; kernel_rfl)
def b9W:Con:=⟨⟨[.pl a1S,.pl a1S,.pl (.int .u64),.pl a0Q],[]⟩,⟨[.pl a1S,.pl (.int .i64)],[]⟩,b1T K0⟩
theorem g8Z:a1K tp 142 b9W:=a4E (n:=142) (k:=60) (hs:=[(34,.con a1X),(60,.con a5N),(84,.con a1O),(98,.con a5G),(116,.con a5I),(133,.con a9K),(139,.con b3I),(140,.con b4D),(153,.con b6S),(154,.con b9D),(155,.con b0K),(156,.con c3Q)]) (A:=b1V [([1000000,142],13,.join ⟨(dd 2 (.pl (.int .u64)::dd 4 (.ptr 0 []::.ptr 1 []::dd 5 (.ptr 2 []::dd 81 [])))),[.box a0Q (.pl a0Q),.box a1S (.pl a1S),.box a1B (.pl a1B)]⟩),([1000000,142],6,.join ⟨(dd 2 (.pl (.int .u64)::dd 1 (.ptr 0 []::.ptr 1 []::dd 1 (.ptr 2 []::.ptr 3 []::dd 87 [])))),[.box a1S (.pl a1S),.box a1S (.pl a1S),.box a0Q (.pl a0Q),.box a1S (.pl a1S)]⟩)]) ⟨d8W,g2A,e7D,f9R,e7U,f6K,g6P,g2S,h0G,g9S,g4S,g8K,trivial⟩ (by intro x; kernel_rfl)
def b5E:Con:=⟨⟨[.pl a1Q,.pl a1S],[]⟩,⟨[.pl a1Q,.pl (.int .i64)],[]⟩,a8J K0⟩
theorem g8M:a1K tp 143 b5E:=a4E (n:=143) (k:=60) (hs:=[(35,.con a0T),(40,.con a3J),(133,.con a9K),(140,.con b4D),(141,.con a5J),(155,.con b0K)]) (A:=fun _ _=>none) ⟨d0E,f9F,f6K,g2S,e3B,g4S,trivial⟩ (by intro x; kernel_rfl)
def c0G:Con:=⟨⟨[.pl a1Q,.pl a1S,.pl a1S,.pl (.int .u64),.pl a0Q],[]⟩,⟨[.pl a1Q,.pl (.int .i64)],[]⟩,b2X K0⟩
theorem g8N:a1K tp 114 c0G:=a4E (n:=114) (k:=60) (hs:=[(116,.con a5I),(133,.con a9K),(142,.con b9W),(143,.con b5E)]) (A:=b1V [([1000000,114],6,.join ⟨(dd 3 (.pl (.int .u64)::dd 1 (.ptr 0 []::.ptr 1 []::.ptr 2 []::dd 1 (.ptr 3 []::.ptr 4 []::dd 36 [])))),[.box a1Q (.pl a1Q),.box a1S (.pl a1S),.box a1S (.pl a1S),.box a0Q (.pl a0Q),.box a1Q (.pl a1Q)]⟩)]) ⟨e7U,f6K,g8Z,g8M,trivial⟩ (by intro x; kernel_rfl)
def b7V:Con:=⟨⟨[.pl a0Z,.pl a0Q,.pl a1Q,.pl a0P,.pl (.int .u64)],[]⟩,⟨[.pl a0Z,.pl a2B,.pl (.int .i64)],[]⟩,b0N K0⟩
theorem h2A:a1K tp 71 b7V:=a4E (n:=71) (k:=60) (hs:=[(73,.con b6J),(105,.con b9A),(106,.con b5T),(107,.con b9C),(108,.con b7U),(109,.con c0S),(110,.con b8X),(111,.con a6Q),(112,.con b5U),(113,.con c1L),(114,.con c0G)]) (A:=b1V [([1000000,71],11,.join ⟨(dd 5 (.ptr 0 []::.ptr 1 []::.ptr 2 []::.ptr 3 []::dd 1 (.ptr 4 []::.ptr 5 []::dd 2 (.ptr 6 []::.ptr 7 []::dd 153 [])))),[.box a0Z (.pl a0Z),.box a0Q (.pl a0Q),.box a1Q (.pl a1Q),.box a0P (.pl a0P),.box a0Z (.pl a0Z),.box a2B (.pl a2B),.box a2B (.pl a2B),.box a1Q (.pl a1Q)]⟩),([1000000,71],30,.join ⟨(dd 5 (.ptr 0 []::dd 2 (.ptr 1 []::dd 1 (.ptr 2 []::.ptr 3 []::dd 2 (.ptr 4 []::dd 2 (.pl (.sl a1A)::dd 151 [])))))),[.box a0Z (.pl a0Z),.box a0P (.pl a0P),.box a0Z (.pl a0Z),.box a2B (.pl a2B),.box a2B (.pl a2B)]⟩)]) ⟨h1O,h1F,h0N,h0J,h1D,g8S,g9I,e9P,g9P,g9Q,g8N,trivial⟩ (by intro x; kernel_rfl)
def b3C:Con:=⟨⟨[.bp a0K,.pl (.int .i64)],[]⟩,⟨[.pl a1Q],[]⟩,a6U K0⟩
theorem h3D:a1K tp 72 b3C:=a4E (n:=72) (k:=140) (hs:=[]) (A:=fun _ _=>none) trivial (by intro x; kernel_rfl)
def a8N:Con:=⟨⟨[.ptr 0 [],.pl (.int .i64),.pl a1Q],a0L⟩,⟨[.pl (.int .i64)],a0L⟩,a4C K0⟩
theorem h2Z:a1K tp 74 a8N:=a4E (n:=74) (k:=140) (hs:=[(111,.con a6Q)]) (A:=b1V [([1000000,74],4,.join ⟨(.ptr 0 []::.pl (.int .i64)::dd 3 (.ptr 2 []::dd 30 (.ptr 0 []::[]))),[.box a0K ((.pair (.whole 1) (.pl (.cons (.arr 4 a1Q) .nil)))),.row a0X,.box a1Q (.pl a1Q)]⟩)]) ⟨e9P,trivial⟩ (by intro x; kernel_rfl)
def b1S:Con:=⟨⟨[.ptr 0 [],.pl a0P],a0F⟩,⟨[.pl a1W],a0F⟩,a5V K0⟩
theorem h3A:a1K tp 48 b1S:=a4E (n:=48) (k:=140) (hs:=[(70,.con a8S),(71,.con b7V),(72,.con b3C),(73,.con b6J),(74,.con a8N)]) (A:=b1V [([48],0,.tmpl ⟨(.ptr 0 []::dd 3 (.ptr 8 []::dd 1 (.ptr 10 []::dd 1 (.ptr 11 []::.pl (.int .i64)::dd 82 (.ptr 0 []::.ptr 1 []::.ptr 4 []::[]))))),[.box a1I ((.pair (.pl (.int .u64)) ((.pair (.pl a0Q) ((.pair (.pl a1P) ((.pair (.pl (.int .u64)) ((.pair (.pl a0Z) ((.pair (.ptr 1 []) ((.pair (.whole 3) ((.pair (.ptr 4 []) (.pl .nil))))))))))))))))),.box a0K ((.pair (.whole 2) (.pl (.cons (.arr 4 a1Q) .nil)))),.row a0X,.row a0P,.box a0S ((.pair (.pl a1Q) ((.pair (.whole 5) ((.pair (.whole 6) ((.pair (.whole 7) (.pl .nil))))))))),.row (.arr 32 (.int .u8)),.row (.int .u64),.row a0Y,.box a1W ((.pair (.pl (.int .i64)) ((.pair (.pl (.int .i64)) ((.pair (.pl a3Q) ((.pair (.pl a1Q) ((.pair (.pl a1Q) ((.pair (.pl (.int .u64)) ((.pair (.pl a1Q) ((.pair (.pl a1Q) ((.pair (.whole 9) (.pl .nil))))))))))))))))))),.row a0P,.box a2B (.pl a2B),.box a1W ((.pair (.pl (.int .i64)) ((.pair (.pl (.int .i64)) ((.pair (.pl a3Q) ((.pair (.pl a1Q) ((.pair (.pl a1Q) ((.pair (.pl (.int .u64)) ((.pair (.pl a1Q) ((.pair (.pl a1Q) ((.pair (.whole 12) (.pl .nil))))))))))))))))))),.row a0P]⟩)]) ⟨h1Y,h2A,h3D,h1O,h2Z,trivial⟩ (by intro x; kernel_rfl)
def b9M:Con:=⟨⟨[.pl (.int .u64),.pl (.int .u64),.pl (.int .u64)],[]⟩,⟨[.pl (.int .u64)],[]⟩,b2C K0⟩
theorem h3K:a1K tp 75 b9M:=a4E (n:=75) (k:=60) (hs:=[(115,.con b5L)]) (A:=fun _ _=>none) ⟨g4R,trivial⟩ (by intro x; kernel_rfl)
def c0I:Con:=⟨⟨[.pl a1P,.pl (.int .u64),.pl (.int .u64),.pl a0Q],[]⟩,⟨[.pl a1P,.pl (.int .i64)],[]⟩,b2Y K0⟩
theorem h2G:a1K tp 76 c0I:=a4E (n:=76) (k:=60) (hs:=[(61,.con b5W)]) (A:=b1V [([1000000,76],4,.join ⟨(dd 1 (.pl (.int .u64)::.pl (.int .u64)::dd 1 (.ptr 0 []::dd 2 (.ptr 1 []::.ptr 2 []::dd 43 [])))),[.box a1P (.pl a1P),.box a0Q (.pl a0Q),.box a1P (.pl a1P)]⟩)]) ⟨h1R,trivial⟩ (by intro x; kernel_rfl)
def c2H:Con:=⟨⟨[.pl a0Q],[]⟩,⟨[.pl (.arr 12 a1Q)],[]⟩,c3N K0⟩
theorem g9R:a1K tp 117 c2H:=a4E (n:=117) (k:=60) (hs:=[]) (A:=fun _ _=>none) trivial (by intro x; kernel_rfl)
def c2K:Con:=⟨⟨[.pl a0Q,.pl (.int .i64),.pl a1Q],[]⟩,⟨[.pl a0Q,.pl (.int .i64)],[]⟩,a7R K0⟩
theorem h2V:a1K tp 77 c2K:=a4E (n:=77) (k:=60) (hs:=[(102,.con b0L),(116,.con a5I),(117,.con c2H)]) (A:=b1V [([1000000,77],4,.join ⟨(dd 1 (.pl (.int .i64)::dd 1 (.ptr 0 []::dd 1 (.ptr 1 []::.ptr 2 []::dd 76 [])))),[.box a0Q (.pl a0Q),.box a1Q (.pl a1Q),.box a0Q (.pl a0Q)]⟩),([77],0,.tmpl ⟨(dd 6 (.ptr 0 []::dd 1 (.ptr 1 []::.pl (.int .i64)::dd 73 []))),[.box a0Q (.pl a0Q),.box (.arr 12 a1Q) (.pl (.arr 12 a1Q))]⟩)]) ⟨g3F,e7U,g9R,trivial⟩ (by intro x; kernel_rfl)
def c2D:Con:=⟨⟨[.pl (.sl a1A),.pl (.int .u64)],[]⟩,⟨[.pl (.sl a1A),.pl (.int .i64)],[]⟩,b4A K0⟩
theorem g9Y:a1K tp 118 c2D:=a4E (n:=118) (k:=60) (hs:=[(132,.con a5H),(135,.con a9I)]) (A:=b1V [([1000000,118],14,.join ⟨(.pl (.sl a1A)::.pl (.int .u64)::dd 4 (.whole 0::.pl .bool::.pl (.int .i64)::dd 30 (.pl .bool::dd 20 []))),[.row a1A]⟩),([1000000,118],4,.join ⟨(.pl (.sl a1A)::.pl (.int .u64)::dd 58 []),[]⟩),([118],0,.tmpl ⟨(.pl (.sl a1A)::.pl (.int .u64)::dd 4 (.whole 0::.pl .bool::.pl (.int .i64)::dd 51 [])),[.row a1A]⟩)]) ⟨e9B,f8A,trivial⟩ (by intro x; kernel_rfl)
def b5M:Con:=⟨⟨[.pl a0Z,.pl (.int .u64)],[]⟩,⟨[.pl a0Z,.pl (.int .i64)],[]⟩,a8H K0⟩
theorem h3T:a1K tp 78 b5M:=a4E (n:=78) (k:=60) (hs:=[(99,.con b0Y),(118,.con c2D)]) (A:=fun _ _=>none) ⟨h0X,g9Y,trivial⟩ (by intro x; kernel_rfl)
def b1N:Con:=⟨⟨[.ptr 0 [],.pl a1Q],a2R⟩,⟨[.pl (.int .i64)],a2R⟩,a5Y K0⟩
theorem h2T:a1K tp 79 b1N:=a4E (n:=79) (k:=140) (hs:=[(56,.con a2V),(119,.con b0P)]) (A:=fun _ _=>none) ⟨f4I,g1F,trivial⟩ (by intro x; kernel_rfl)
def c2M:Con:=⟨⟨[.pl (.sl (.int .i64)),.pl (.sl (.int .i64))],[]⟩,⟨[.whole 0],[.row (.int .i64)]⟩,a8T K0⟩
theorem f6Z:a1K tp 34 c2M:=a4E (n:=34) (k:=80) (hs:=[]) (A:=b1V [([1000000,34],7,.join ⟨(.pl (.sl (.int .i64))::.pl (.sl (.int .i64))::dd 3 (.whole 0::.pl (.int .i64)::.pl (.int .i64)::dd 44 [])),[.row (.int .i64)]⟩),([1000000,34],9,.join ⟨(.pl (.sl (.int .i64))::.pl (.sl (.int .i64))::dd 3 (.whole 0::.pl (.int .i64)::.pl (.int .i64)::dd 44 [])),[.row (.int .i64)]⟩),([34],0,.tmpl ⟨(.pl (.sl (.int .i64))::.pl (.sl (.int .i64))::dd 3 (.whole 0::.pl (.int .i64)::.pl (.int .i64)::dd 44 [])),[.row (.int .i64)]⟩)]) trivial (by intro x; kernel_rfl)
def b2N:Con:=⟨⟨[.bp a0K],[]⟩,⟨[.pl (.sl (.int .i64))],[]⟩,a6H K0⟩
theorem g6Q:c0P tp 120 b2N:=f2C (n:=120) (k:=140) (hs:=[(34,.con c2M),(35,.con a0T)]) (A:=b1V [([120],0,.tmpl ⟨(.bp a0K :: dd 2 (.whole 0 :: .pl (.int .i64) :: dd 35 [])),[.row (.int .i64)]⟩),([120],2,.tmpl ⟨(.bp a0K :: dd 2 (.whole 0 :: dd 1 (.pl (.int .i64) :: dd 34 []))),[.row (.int .i64)]⟩)]) ⟨f6Z,d0E,trivial⟩ (by intro x; kernel_rfl)
def b3V:Con:=⟨⟨[.ptr 0 [],.pl (.int .u64),.pl a1Q],a0L⟩,⟨[.pl (.int .i64)],a0L⟩,a7I K0⟩
theorem h3G:a1K tp 80 b3V:=a4E (n:=80) (k:=160) (hs:=[(34,.con a1X),(35,.con a0T),(60,.con a5N),(103,.con a8A),(120,.fresh b2N)]) (A:=fun _ _=>none) ⟨d8W,d0E,g2A,g5Q,g6Q,trivial⟩ (by intro x; kernel_rfl)
def a7U:Con:=⟨⟨[.bp a0S,.pl (.int .u64)],[]⟩,⟨[.pl .bool],[]⟩,a4M K0⟩
theorem h1H:a1K tp 27 a7U:=a4E (n:=27) (k:=140) (hs:=[]) (A:=b1V [([27],0,.tmpl ⟨(.bp a0S::.pl (.int .u64)::dd 3 (.pl (.int .i64)::dd 18 [])),[]⟩)]) trivial (by intro x; kernel_rfl)
def c4Q:Con:=⟨⟨[.pl (.int .i64),.pl (.int .i64),.pl (.arr 32 (.int .u8)),.pl (.sl (.arr 32 (.int .u8)))],[]⟩,⟨[.pl (.arr 32 (.int .u8)),.pl .bool],[]⟩,b6M K0⟩
def c4V (k0:Nat):Con:=⟨⟨[.pl (.int .i64),.pl (.int .i64),.pl (.arr 32 (.int .u8)),.pl (.sl (.arr 32 (.int .u8)))],[]⟩,⟨[.pl (.arr 32 (.int .u8)),.pl .bool],[]⟩,a4W K0 k0⟩
theorem f8W:∀ k0,a1K tp 145 (c4V k0)
 | 0=>fun x y h=>by cases h
 | k0 + 1=>a4E (n:=145) (k:=60) (hs:=[(145,.con (c4V k0)),(148,.con a7W),(152,.con b5Y)]) (A:=fun _ _=>none) ⟨(f8W k0),g0D,g5E,trivial⟩ (by intro x; kernel_rfl)
theorem g9L:a1K tp 145 c4Q:=f8W K0
def b9L:Con:=⟨⟨[.pl (.arr 32 (.int .u8)),.pl (.int .i64),.pl (.int .i64),.pl (.arr 32 (.int .u8)),.pl (.sl (.arr 32 (.int .u8)))],[]⟩,⟨[.pl .bool],[]⟩,a7H K0⟩
theorem g9X:a1K tp 121 b9L:=a4E (n:=121) (k:=60) (hs:=[(145,.con c4Q)]) (A:=b1V [([1000000,121],4,.join ⟨(dd 1 (.pl (.int .i64)::.pl (.int .i64)::dd 1 (.pl (.sl (.arr 32 (.int .u8)))::.ptr 0 []::dd 2 (.ptr 1 []::dd 30 [])))),[.box (.arr 32 (.int .u8)) (.pl (.arr 32 (.int .u8))),.box (.arr 32 (.int .u8)) (.pl (.arr 32 (.int .u8)))]⟩)]) ⟨g9L,trivial⟩ (by intro x; kernel_rfl)
def b0H:Con:=⟨⟨[.bp a0S,.pl (.int .u64)],[]⟩,⟨[.pl a1Q],[]⟩,a5F K0⟩
theorem h1G:a1K tp 123 b0H:=a4E (n:=123) (k:=140) (hs:=[]) (A:=b1V [([123],0,.tmpl ⟨(.bp a0S::.pl (.int .u64)::dd 2 (.ptr 0 []::.pl (.int .i64)::dd 28 [])),[.box a1Q (.pl a1Q)]⟩)]) trivial (by intro x; kernel_rfl)
def b3B:Con:=⟨⟨[.ptr 0 [],.pl a7P],a2R⟩,⟨[.pl (.int .i64)],a2R⟩,a6T K0⟩
theorem h2P:a1K tp 81 b3B:=a4E (n:=81) (k:=140) (hs:=[(27,.con a7U),(56,.con a2V),(111,.con a6Q),(119,.con b0P),(121,.con b9L),(122,.con b5J),(123,.con b0H)]) (A:=b1V [([1000000,81],4,.join ⟨(.ptr 0 []::dd 2 (.ptr 4 []::dd 154 (.ptr 0 []::[]))),[.box a0S ((.pair (.pl a1Q) ((.pair (.whole 1) ((.pair (.whole 2) ((.pair (.whole 3) (.pl .nil))))))))),.row (.arr 32 (.int .u8)),.row (.int .u64),.row a0Y,.box a7P (.pl a7P)]⟩),([1000000,81],6,.join ⟨(.ptr 0 []::dd 2 (.ptr 4 []::dd 154 (.ptr 0 []::[]))),[.box a0S ((.pair (.pl a1Q) ((.pair (.whole 1) ((.pair (.whole 2) ((.pair (.whole 3) (.pl .nil))))))))),.row (.arr 32 (.int .u8)),.row (.int .u64),.row a0Y,.box a7P (.pl a7P)]⟩),([81],0,.tmpl ⟨(.ptr 0 []::dd 2 (.ptr 4 []::dd 4 (.ptr 5 []::.pl (.int .i64)::dd 148 (.ptr 0 []::[])))),[.box a0S ((.pair (.pl a1Q) ((.pair (.whole 1) ((.pair (.whole 2) ((.pair (.whole 3) (.pl .nil))))))))),.row (.arr 32 (.int .u8)),.row (.int .u64),.row a0Y,.box a7P (.pl a7P),.box a1Q (.pl a1Q)]⟩)]) ⟨h1H,f4I,e9P,g1F,g9X,g6F,h1G,trivial⟩ (by intro x; kernel_rfl)
def b2I:Con:=⟨⟨[.ptr 0 [],.pl a1M],a0F⟩,⟨[.pl (.int .i64)],a0F⟩,a6G K0⟩
theorem h2E:a1K tp 49 b2I:=a4E (n:=49) (k:=140) (hs:=[(34,.con a1X),(35,.con a0T),(56,.con a2V),(60,.con a5N),(75,.con b9M),(76,.con c0I),(77,.con c2K),(78,.con b5M),(79,.con b1N),(80,.con b3V),(81,.con b3B)]) (A:=b1V [([1000000,49],22,.join ⟨(.ptr 0 []::dd 2 (.ptr 8 []::dd 142 (.ptr 0 []::.ptr 1 []::.ptr 4 []::[]))),[.box a1I ((.pair (.pl (.int .u64)) ((.pair (.pl a0Q) ((.pair (.pl a1P) ((.pair (.pl (.int .u64)) ((.pair (.pl a0Z) ((.pair (.ptr 1 []) ((.pair (.whole 3) ((.pair (.ptr 4 []) (.pl .nil))))))))))))))))),.box a0K ((.pair (.whole 2) (.pl (.cons (.arr 4 a1Q) .nil)))),.row a0X,.row a0P,.box a0S ((.pair (.pl a1Q) ((.pair (.whole 5) ((.pair (.whole 6) ((.pair (.whole 7) (.pl .nil))))))))),.row (.arr 32 (.int .u8)),.row (.int .u64),.row a0Y,.box a1M (.pl a1M)]⟩)]) ⟨d8W,d0E,f4I,g2A,h3K,h2G,h2V,h3T,h2T,h3G,h2P,trivial⟩ (by intro x; kernel_rfl)
def b1E:Con:=⟨⟨[.ptr 0 [],.pl a1M],a0F⟩,⟨[.pl a1W],a0F⟩,a4D K0⟩
theorem h2N:a1K tp 20 b1E:=a4E (n:=20) (k:=140) (hs:=[(46,.con b5N),(47,.con b4O),(48,.con b1S),(49,.con b2I)]) (A:=b1V [([1000000,20],4,.join ⟨(.ptr 0 []::dd 2 (.ptr 8 []::.ptr 9 []::dd 41 (.ptr 0 []::.ptr 1 []::.ptr 4 []::[]))),[.box a1I ((.pair (.pl (.int .u64)) ((.pair (.pl a0Q) ((.pair (.pl a1P) ((.pair (.pl (.int .u64)) ((.pair (.pl a0Z) ((.pair (.ptr 1 []) ((.pair (.whole 3) ((.pair (.ptr 4 []) (.pl .nil))))))))))))))))),.box a0K ((.pair (.whole 2) (.pl (.cons (.arr 4 a1Q) .nil)))),.row a0X,.row a0P,.box a0S ((.pair (.pl a1Q) ((.pair (.whole 5) ((.pair (.whole 6) ((.pair (.whole 7) (.pl .nil))))))))),.row (.arr 32 (.int .u8)),.row (.int .u64),.row a0Y,.box a1M (.pl a1M),.box a1W ((.pair (.pl (.int .i64)) ((.pair (.pl (.int .i64)) ((.pair (.pl a3Q) ((.pair (.pl a1Q) ((.pair (.pl a1Q) ((.pair (.pl (.int .u64)) ((.pair (.pl a1Q) ((.pair (.pl a1Q) ((.pair (.whole 10) (.pl .nil))))))))))))))))))),.row a0P]⟩)]) ⟨h2H,h3R,h3A,h2E,trivial⟩ (by intro x; kernel_rfl)
def b7G:Con:=⟨⟨[.pl (.int .i64),.pl (.int .i64)],[]⟩,⟨[.pl (.int .i64)],[]⟩,a7Z K0⟩
theorem h1J:a1K tp 10 b7G:=a4E (n:=10) (k:=160) (hs:=[]) (A:=fun _ _=>none) trivial (by intro x; kernel_rfl)
def b7S:Con:=⟨⟨[.pl (.int .i64),.pl (.int .u64),.pl .bool],[]⟩,⟨[.pl a1M],[]⟩,b0Z K0⟩
theorem h3H:a1K tp 50 b7S:=a4E (n:=50) (k:=160) (hs:=[]) (A:=fun _ _=>none) trivial (by intro x; kernel_rfl)
def b8V:Con:=⟨⟨[.pl (.int .i64),.ptr 0 []],a0F⟩,⟨[.pl a0P],a0F⟩,b1W K0⟩
theorem h2X:a1K tp 51 b8V:=a4E (n:=51) (k:=160) (hs:=[]) (A:=fun _ _=>none) trivial (by intro x; kernel_rfl)
def c0L:Con:=⟨⟨[.pl (.int .i64)],[]⟩,⟨[.pl a1M],[]⟩,b2S K0⟩
theorem h4D:a1K tp 52 c0L:=a4E (n:=52) (k:=160) (hs:=[]) (A:=b1V [([1000000,52],7,.join ⟨(.pl (.int .i64)::dd 1 (.ptr 0 []::dd 3 (.ptr 1 []::dd 56 []))),[.box a1M (.pl a1M),.box a1M (.pl a1M)]⟩)]) trivial (by intro x; kernel_rfl)
def c0J:Con:=⟨⟨[.pl (.sl (.arr 32 (.int .u8))),.pl (.int .i64)],[]⟩,⟨[.whole 0],[.row (.arr 32 (.int .u8))]⟩,b3A K0⟩
def c0U (k0:Nat):Con:=⟨⟨[.pl (.sl (.arr 32 (.int .u8))),.pl (.int .i64)],[]⟩,⟨[.whole 0],[.row (.arr 32 (.int .u8))]⟩,a3R K0 k0⟩
theorem f9C:∀ k0,a1K tp 124 (c0U k0)
 | 0=>fun x y h=>by cases h
 | k0 + 1=>a4E (n:=124) (k:=140) (hs:=[(124,.con (c0U k0)),(134,.con b4G),(148,.con a7W)]) (A:=fun _ _=>none) ⟨(f9C k0),g5A,g0D,trivial⟩ (by intro x; kernel_rfl)
theorem g8T:a1K tp 124 c0J:=f9C K0
def b8U:Con:=⟨⟨[.pl (.sl a0P),.pl (.int .i64),.pl (.int .i64)],[]⟩,⟨[.whole 0,.pl .bool],[.row (.arr 32 (.int .u8))]⟩,b1K K0⟩
theorem h2K:a1K tp 82 b8U:=a4E (n:=82) (k:=140) (hs:=[(124,.con c0J),(125,.con b3K)]) (A:=b1V [([1000000,82],4,.join ⟨(.pl (.sl a0P)::.pl (.int .i64)::.pl (.int .i64)::dd 23 []),[]⟩)]) ⟨g8T,g5X,trivial⟩ (by intro x; kernel_rfl)
def b4H:Con:=⟨⟨[],[]⟩,⟨[.pl a1Q],[]⟩,b1U K0⟩
theorem h1U:a1K tp 85 b4H:=a4E (n:=85) (k:=60) (hs:=[]) (A:=fun _ _=>none) trivial (by intro x; kernel_rfl)
def b9F:Con:=⟨⟨[.pl (.int .i64)],[]⟩,⟨[.pl (.arr 32 (.int .u8))],[]⟩,b1Q K0⟩
theorem h2F:a1K tp 86 b9F:=a4E (n:=86) (k:=160) (hs:=[]) (A:=b1V [([86],0,.tmpl ⟨(.pl (.int .i64)::dd 1 (.ptr 0 []::.ptr 1 []::.pl (.int .i64)::dd 14 [])),[.box (.arr 32 (.int .u8)) (.pl (.arr 32 (.int .u8))),.box (.arr 32 (.int .u8)) (.pl (.arr 32 (.int .u8)))]⟩)]) trivial (by intro x; kernel_rfl)
def c0H:Con:=⟨⟨[.pl (.int .i64),.ptr 0 []],a0F⟩,⟨[.pl a7P],a0F⟩,b2T K0⟩
theorem h2J:a1K tp 53 c0H:=a4E (n:=53) (k:=160) (hs:=[(24,.con a1L),(34,.con a1X),(35,.con a0T),(82,.con b8U),(83,.con a8V),(84,.con a1O),(85,.con b4H),(86,.con b9F)]) (A:=fun _ _=>none) ⟨e3P,d8W,d0E,h2K,g5N,e7D,h1U,h2F,trivial⟩ (by intro x; kernel_rfl)
def b1Y:Con:=⟨⟨[.pl (.sl (.int .i64))],[]⟩,⟨[.pl (.sl (.int .u8))],[]⟩,a4K K0⟩
theorem h3C:a1K tp 89 b1Y:=a4E (n:=89) (k:=160) (hs:=[(10,.con b7G)]) (A:=b1V [([1000000,89],15,.join ⟨(.pl (.sl (.int .i64))::dd 2 (.whole 0::.pl (.int .i64)::.pl (.int .i64)::.pl (.int .i64)::dd 20 (.pl (.int .i64)::dd 18 (.pl .bool::dd 50 [])))),[.row (.int .u8)]⟩),([1000000,89],22,.join ⟨(.pl (.sl (.int .i64))::dd 2 (.whole 0::.pl (.int .i64)::.pl (.int .i64)::.pl (.int .i64)::dd 55 (.pl .bool::dd 34 []))),[.row (.int .u8)]⟩),([1000000,89],25,.join ⟨(.pl (.sl (.int .i64))::dd 2 (.whole 0::.pl (.int .i64)::dd 1 (.pl (.int .i64)::dd 1 (.pl (.int .i64)::dd 88 [])))),[.row (.int .u8)]⟩),([1000000,89],28,.join ⟨(.pl (.sl (.int .i64))::dd 2 (.whole 0::.pl (.int .i64)::dd 1 (.pl (.int .i64)::dd 1 (.pl (.int .i64)::.pl (.int .i64)::dd 68 (.pl (.int .i64)::.pl (.int .i64)::.pl (.int .i64)::.whole 0::.pl (.int .i64)::.pl .bool::dd 13 []))))),[.row (.int .u8)]⟩),([89],0,.tmpl ⟨(.pl (.sl (.int .i64))::dd 2 (.whole 0::.pl (.int .i64)::dd 92 [])),[.row (.int .u8)]⟩),([89],3,.tmpl ⟨(.pl (.sl (.int .i64))::dd 2 (.whole 0::.pl (.int .i64)::.pl (.int .i64)::.pl (.int .i64)::dd 3 (.pl (.int .i64)::dd 86 []))),[.row (.int .u8)]⟩),([89],5,.tmpl ⟨(.pl (.sl (.int .i64))::dd 2 (.whole 0::.pl (.int .i64)::.pl (.int .i64)::.pl (.int .i64)::.pl (.int .i64)::dd 89 [])),[.row (.int .u8)]⟩),([89],7,.tmpl ⟨(.pl (.sl (.int .i64))::dd 2 (.whole 0::.pl (.int .i64)::dd 1 (.pl (.int .i64)::dd 1 (.pl (.int .i64)::.pl (.int .i64)::dd 87 [])))),[.row (.int .u8)]⟩)]) ⟨h1J,trivial⟩ (by intro x; kernel_rfl)
def b4L:Con:=⟨⟨[.pl (.int .i64),.pl (.int .u64),.ptr 0 []],a0F⟩,⟨[.pl a1R],a0F⟩,a7X K0⟩
theorem h3W:a1K tp 54 b4L:=a4E (n:=54) (k:=160) (hs:=[(24,.con a1L),(35,.con a0T),(84,.con a1O),(85,.con b4H),(87,.con a4F),(88,.con a3K),(89,.con b1Y)]) (A:=fun _ _=>none) ⟨e3P,d0E,e7D,h1U,g6Y,f1J,h3C,trivial⟩ (by intro x; kernel_rfl)
def b6P:Con:=⟨⟨[.pl (.int .i64),.ptr 0 [],.pl .bool],a0F⟩,⟨[.pl a1M],a0F⟩,a9S K0⟩
theorem h3Y:a1K tp 21 b6P:=a4E (n:=21) (k:=160) (hs:=[(10,.con b7G),(50,.con b7S),(51,.con b8V),(52,.con c0L),(53,.con c0H),(54,.con b4L)]) (A:=b1V [([1000000,21],11,.join ⟨(dd 1 (.ptr 0 []::dd 4 (.ptr 8 []::dd 1 (.pl (.int .u64)::.pl (.int .i64)::dd 12 (.pl (.int .i64)::dd 7 (.pl .bool::dd 52 (.ptr 0 []::.ptr 1 []::.ptr 4 []::[]))))))),[.box a1I ((.pair (.pl (.int .u64)) ((.pair (.pl a0Q) ((.pair (.pl a1P) ((.pair (.pl (.int .u64)) ((.pair (.pl a0Z) ((.pair (.ptr 1 []) ((.pair (.whole 3) ((.pair (.ptr 4 []) (.pl .nil))))))))))))))))),.box a0K ((.pair (.whole 2) (.pl (.cons (.arr 4 a1Q) .nil)))),.row a0X,.row a0P,.box a0S ((.pair (.pl a1Q) ((.pair (.whole 5) ((.pair (.whole 6) ((.pair (.whole 7) (.pl .nil))))))))),.row (.arr 32 (.int .u8)),.row (.int .u64),.row a0Y,.box a1M (.pl a1M)]⟩),([1000000,21],26,.join ⟨(dd 1 (.ptr 0 []::dd 4 (.ptr 8 []::dd 1 (.pl (.int .u64)::.pl (.int .i64)::dd 61 (.pl .bool::dd 11 (.ptr 0 []::.ptr 1 []::.ptr 4 []::[])))))),[.box a1I ((.pair (.pl (.int .u64)) ((.pair (.pl a0Q) ((.pair (.pl a1P) ((.pair (.pl (.int .u64)) ((.pair (.pl a0Z) ((.pair (.ptr 1 []) ((.pair (.whole 3) ((.pair (.ptr 4 []) (.pl .nil))))))))))))))))),.box a0K ((.pair (.whole 2) (.pl (.cons (.arr 4 a1Q) .nil)))),.row a0X,.row a0P,.box a0S ((.pair (.pl a1Q) ((.pair (.whole 5) ((.pair (.whole 6) ((.pair (.whole 7) (.pl .nil))))))))),.row (.arr 32 (.int .u8)),.row (.int .u64),.row a0Y,.box a1M (.pl a1M)]⟩),([1000000,21],8,.join ⟨(dd 1 (.ptr 0 []::.pl .bool::dd 3 (.ptr 8 []::dd 1 (.pl (.int .u64)::.pl (.int .i64)::dd 12 (.pl (.int .i64)::.pl .bool::dd 59 (.ptr 0 []::.ptr 1 []::.ptr 4 []::[])))))),[.box a1I ((.pair (.pl (.int .u64)) ((.pair (.pl a0Q) ((.pair (.pl a1P) ((.pair (.pl (.int .u64)) ((.pair (.pl a0Z) ((.pair (.ptr 1 []) ((.pair (.whole 3) ((.pair (.ptr 4 []) (.pl .nil))))))))))))))))),.box a0K ((.pair (.whole 2) (.pl (.cons (.arr 4 a1Q) .nil)))),.row a0X,.row a0P,.box a0S ((.pair (.pl a1Q) ((.pair (.whole 5) ((.pair (.whole 6) ((.pair (.whole 7) (.pl .nil))))))))),.row (.arr 32 (.int .u8)),.row (.int .u64),.row a0Y,.box a1M (.pl a1M)]⟩)]) ⟨h1J,h3H,h2X,h4D,h2J,h3W,trivial⟩ (by intro x; kernel_rfl)
def b2J:Con:=⟨⟨[.pl (.sl (.int .i64)),.pl .bool],[]⟩,⟨[.ptr 0 [],.whole 8,.whole 9],[.box a1I (.pair (.pl (.int .u64)) (.pair (.pl a0Q) (.pair (.pl a1P) (.pair (.pl (.int .u64)) (.pair (.pl a0Z) (.pair (.ptr 1 []) (.pair (.whole 3) (.pair (.ptr 2 []) (.pl .nil))))))))),.box a0K (.pair (.whole 4) (.pl (.cons (.arr 4 a1Q) .nil))),.box a0S (.pair (.pl a1Q) (.pair (.whole 5) (.pair (.whole 6) (.pair (.whole 7) (.pl .nil))))),.row a0P,.row a0X,.row (.arr 32 (.int .u8)),.row (.int .u64),.row a0Y,.row a1M,.row a1W]⟩,a7S K0⟩
theorem ok9:a1K tp 9 b2J:=a4E (n:=9) (k:=160) (hs:=[(18,.con b6G),(19,.con b5K),(20,.con b1E),(21,.con b6P)]) (A:=b1V [([9],0,.tmpl ⟨(.pl (.sl (.int .i64))::.pl .bool::dd 5 (.ptr 0 []::.whole 8::.whole 9::.pl (.int .i64)::dd 45 [])),[.box a1I ((.pair (.pl (.int .u64)) ((.pair (.pl a0Q) ((.pair (.pl a1P) ((.pair (.pl (.int .u64)) ((.pair (.pl a0Z) ((.pair (.ptr 1 []) ((.pair (.whole 3) ((.pair (.ptr 4 []) (.pl .nil))))))))))))))))),.box a0K ((.pair (.whole 2) (.pl (.cons (.arr 4 a1Q) .nil)))),.row a0X,.row a0P,.box a0S ((.pair (.pl a1Q) ((.pair (.whole 5) ((.pair (.whole 6) ((.pair (.whole 7) (.pl .nil))))))))),.row (.arr 32 (.int .u8)),.row (.int .u64),.row a0Y,.row a1M,.row a1W]⟩),([9],2,.tmpl ⟨(.pl (.sl (.int .i64))::.pl .bool::dd 5 (.ptr 0 []::.whole 8::.whole 9::dd 1 (.pl (.int .i64)::dd 44 []))),[.box a1I ((.pair (.pl (.int .u64)) ((.pair (.pl a0Q) ((.pair (.pl a1P) ((.pair (.pl (.int .u64)) ((.pair (.pl a0Z) ((.pair (.ptr 1 []) ((.pair (.whole 3) ((.pair (.ptr 4 []) (.pl .nil))))))))))))))))),.box a0K ((.pair (.whole 2) (.pl (.cons (.arr 4 a1Q) .nil)))),.row a0X,.row a0P,.box a0S ((.pair (.pl a1Q) ((.pair (.whole 5) ((.pair (.whole 6) ((.pair (.whole 7) (.pl .nil))))))))),.row (.arr 32 (.int .u8)),.row (.int .u64),.row a0Y,.row a1M,.row a1W]⟩)]) ⟨h1T,h3B,h2N,h3Y,trivial⟩ (by intro x; kernel_rfl)
theorem h1X:a1K tp 57 e4E:=f6C (fn:=Tryz.f57) (by kernel_rfl) (by kernel_rfl) (by kernel_rfl) (by kernel_rfl) (by kernel_rfl)
def c9S:Con:=⟨⟨[.pl a1Q,.pl a1Q],[]⟩,⟨[.pl a1Q,.pl (.int .i64)],[]⟩,a3Z⟩
theorem h3O:a1K tp 59 c9S:=a4E (n:=59) (k:=60) (hs:=[(57,.con e4E)]) (A:=fun p _=>match p with | 1000000::_=>none | _=>some (.unroll 6)) ⟨h1X,trivial⟩ (by intro x; kernel_rfl)
def c4M:Con:=⟨⟨[.pl (.sl a1M),.pl (.sl a1W)],[]⟩,⟨[.pl a3A,.pl (.int .i64)],[]⟩,b9H K0⟩
theorem h1Q:a1K tp 11 c4M:=a4E (n:=11) (k:=160) (hs:=[(22,.inl),(39,.inl),(59,.con c9S)]) (A:=b1V [([11],0,.tmpl ⟨(.pl (.sl a1M)::.pl (.sl a1W)::dd 2 (.ptr 0 []::dd 13 (.pl (.sl a1W)::.pl (.int .i64)::.pl (.int .i64)::dd 40 []))),[.box a3A (.pl a3A)]⟩),([11],2,.tmpl ⟨(.pl (.sl a1M)::dd 3 (.ptr 0 []::dd 3 (.ptr 1 []::.ptr 2 []::dd 30 (.pl (.sl a1W)::.pl (.int .i64)::.pl (.int .i64)::dd 18 [])))),[.box a3A (.pl a3A),.box a3A (.pl a3A),.box (.cons .bool .nil) (.pl (.cons .bool .nil))]⟩),([22,15,5,11],0,.tmpl ⟨(.ptr 0 []::.ptr 1 []::dd 4 (.ptr 2 []::.ptr 3 []::dd 3 (.pl (.sl a0P)::.pl (.int .i64)::.pl (.int .i64)::dd 75 (.pl (.sl a1M)::dd 3 (.ptr 4 []::dd 3 (.ptr 1 []::.ptr 0 []::dd 30 (.pl (.sl a1W)::.pl (.int .i64)::.pl (.int .i64)::dd 18 []))))))),[.box (.cons .bool .nil) (.pl (.cons .bool .nil)),.box a3A (.pl a3A),.box a1M (.pl a1M),.box a1W (.pl a1W),.box a3A (.pl a3A)]⟩)]) ⟨h3O,trivial⟩ (by intro x; kernel_rfl)
def b1B:Con:=⟨⟨[.bp a0K],[]⟩,⟨[.whole 0],[.row a0X]⟩,a5S K0⟩
theorem h2I:a1K tp 25 b1B:=a4E (n:=25) (k:=140) (hs:=[(56,.con a2V)]) (A:=b1V [([1000000,25],11,.join ⟨(.bp a0K::dd 2 (.whole 0::.pl (.int .i64)::.ptr 1 []::.pl (.int .i64)::dd 53 [])),[.row a0X,.box a0X (.pl a0X)]⟩),([1000000,25],8,.join ⟨(.bp a0K::dd 2 (.whole 0::.pl (.int .i64)::.ptr 1 []::dd 54 [])),[.row a0X,.box a0X (.pl a0X)]⟩),([25],0,.tmpl ⟨(.bp a0K::dd 2 (.whole 0::.pl (.int .i64)::dd 55 [])),[.row a0X]⟩),([25],2,.tmpl ⟨(.bp a0K::dd 2 (.whole 0::.pl (.int .i64)::.ptr 1 []::.pl (.int .i64)::dd 53 [])),[.row a0X,.box a0X (.pl a0X)]⟩)]) ⟨f4I,trivial⟩ (by intro x; kernel_rfl)
def a9W:Con:=⟨⟨[.bp a0S],[]⟩,⟨[.whole 0],[.row a0Y]⟩,a4X K0⟩
theorem h3P:a1K tp 26 a9W:=a4E (n:=26) (k:=140) (hs:=[]) (A:=b1V [([1000000,26],9,.join ⟨(.bp a0S::dd 2 (.whole 0::.pl (.int .i64)::.pl (.int .i64)::dd 50 [])),[.row a0Y]⟩),([26],0,.tmpl ⟨(.bp a0S::dd 2 (.whole 0::.pl (.int .i64)::dd 51 [])),[.row a0Y]⟩),([26],2,.tmpl ⟨(.bp a0S::dd 2 (.whole 0::.pl (.int .i64)::.pl (.int .i64)::dd 50 [])),[.row a0Y]⟩)]) trivial (by intro x; kernel_rfl)
def a8E:Con:=⟨⟨[.ptr 0 []],a0F⟩,⟨[.pair (.pl (.int .u64)) (.pair (.pl a0Q) (.pair (.pl a1P) (.pair (.pl (.int .u64)) (.pair (.pair (.pl a1Q) (.pair (.pl (.int .u64)) (.pair (.pl (.int .u64)) (.pair (.pl (.int .u64)) (.pair (.pl a1S) (.pair (.whole 8) (.pl .nil))))))) (.pair (.whole 9) (.pair (.pl (.arr 4 a1Q)) (.pair (.whole 10) (.pair (.whole 11) (.pair (.pl a1Q) (.pair (.whole 12) (.pl .nil)))))))))))],[.box a1I (.pair (.pl (.int .u64)) (.pair (.pl a0Q) (.pair (.pl a1P) (.pair (.pl (.int .u64)) (.pair (.pl a0Z) (.pair (.ptr 1 []) (.pair (.whole 3) (.pair (.ptr 2 []) (.pl .nil))))))))),.box a0K (.pair (.whole 4) (.pl (.cons (.arr 4 a1Q) .nil))),.box a0S (.pair (.pl a1Q) (.pair (.whole 5) (.pair (.whole 6) (.pair (.whole 7) (.pl .nil))))),.row a0P,.row a0X,.row (.arr 32 (.int .u8)),.row (.int .u64),.row a0Y,.row a1A,.row a0X,.row a0P,.row .bool,.row a0Y]⟩,a2M K0⟩
theorem h1P:a1K tp 13 a8E:=a4E (n:=13) (k:=140) (hs:=[(25,.con b1B),(26,.con a9W),(27,.con a7U)]) (A:=b1V [([13],0,.tmpl ⟨(.ptr 0 []::dd 1 (.ptr 8 []::.ptr 14 []::.pl (.int .i64)::dd 82 (.ptr 0 []::.ptr 1 []::.ptr 4 []::[]))),[.box a1I ((.pair (.pl (.int .u64)) ((.pair (.pl a0Q) ((.pair (.pl a1P) ((.pair (.pl (.int .u64)) ((.pair (.pl a0Z) ((.pair (.ptr 1 []) ((.pair (.whole 3) ((.pair (.ptr 4 []) (.pl .nil))))))))))))))))),.box a0K ((.pair (.whole 2) (.pl (.cons (.arr 4 a1Q) .nil)))),.row a0X,.row a0P,.box a0S ((.pair (.pl a1Q) ((.pair (.whole 5) ((.pair (.whole 6) ((.pair (.whole 7) (.pl .nil))))))))),.row (.arr 32 (.int .u8)),.row (.int .u64),.row a0Y,.box a8G ((.pair (.pl (.int .u64)) ((.pair (.pl a0Q) ((.pair (.pl a1P) ((.pair (.pl (.int .u64)) ((.pair ((.pair (.pl a1Q) ((.pair (.pl (.int .u64)) ((.pair (.pl (.int .u64)) ((.pair (.pl (.int .u64)) ((.pair (.pl a1S) ((.pair (.whole 9) (.pl .nil))))))))))))) ((.pair (.whole 10) ((.pair (.pl (.arr 4 a1Q)) ((.pair (.whole 11) ((.pair (.whole 12) ((.pair (.pl a1Q) ((.pair (.whole 13) (.pl .nil))))))))))))))))))))))),.row a1A,.row a0X,.row a0P,.row .bool,.row a0Y,.box a8G ((.pair (.pl (.int .u64)) ((.pair (.pl a0Q) ((.pair (.pl a1P) ((.pair (.pl (.int .u64)) ((.pair ((.pair (.pl a1Q) ((.pair (.pl (.int .u64)) ((.pair (.pl (.int .u64)) ((.pair (.pl (.int .u64)) ((.pair (.pl a1S) ((.pair (.whole 15) (.pl .nil))))))))))))) ((.pair (.whole 16) ((.pair (.pl (.arr 4 a1Q)) ((.pair (.whole 17) ((.pair (.whole 18) ((.pair (.pl a1Q) ((.pair (.whole 19) (.pl .nil))))))))))))))))))))))),.row a1A,.row a0X,.row a0P,.row .bool,.row a0Y]⟩)]) ⟨h2I,h3P,h1H,trivial⟩ (by intro x; kernel_rfl)
def b0C:Con:=⟨⟨[.pl (.arr 5 (.int .u64)),.pl a1Q],[]⟩,⟨[.pl (.arr 5 (.int .u64))],[]⟩,a6V K0⟩
theorem g7B:a1K tp 29 b0C:=a4E (n:=29) (k:=60) (hs:=[(57,.con e4E)]) (A:=b1V [([29],0,.tmpl ⟨(dd 2 (.ptr 0 []::.ptr 1 []::.ptr 2 []::.pl (.int .u64)::dd 1 (.pl (.int .i64)::dd 22 []))),[.box (.arr 5 (.int .u64)) (.pl (.arr 5 (.int .u64))),.box a1Q (.pl a1Q),.box (.arr 5 (.int .u64)) (.pl (.arr 5 (.int .u64)))]⟩)]) ⟨h1X,trivial⟩ (by intro x; kernel_rfl)
def c5B:Con:=⟨⟨[.pl (.sl a1Q)],[]⟩,⟨[.pl (.arr 5 (.int .u64))],[]⟩,a9L K0⟩
theorem g9B:a1K tp 30 c5B:=a4E (n:=30) (k:=60) (hs:=[(29,.con b0C)]) (A:=b1V [([30],0,.tmpl ⟨(dd 2 (.ptr 0 []::.ptr 1 []::dd 2 (.pl (.sl a1Q)::.pl (.int .i64)::.pl (.int .i64)::dd 8 []))),[.box (.arr 5 (.int .u64)) (.pl (.arr 5 (.int .u64))),.box (.arr 5 (.int .u64)) (.pl (.arr 5 (.int .u64)))]⟩)]) ⟨g7B,trivial⟩ (by intro x; kernel_rfl)
def c7Q:Con:=⟨⟨[.pl a8G],[]⟩,⟨[.pl (.arr 5 (.int .u64))],[]⟩,c0M K0⟩
theorem h2B:a1K tp 28 c7Q:=a4E (n:=28) (k:=60) (hs:=[(29,.con b0C),(30,.con c5B)]) (A:=b1V [([28],0,.tmpl ⟨(dd 2 (.ptr 0 []::.ptr 1 []::dd 6 (.pl (.sl a0X)::.pl (.int .i64)::.pl (.int .i64)::dd 9 []))),[.box (.arr 5 (.int .u64)) (.pl (.arr 5 (.int .u64))),.box (.arr 5 (.int .u64)) (.pl (.arr 5 (.int .u64)))]⟩)]) ⟨g7B,g9B,trivial⟩ (by intro x; kernel_rfl)
def b7Q:Con:=⟨⟨[.pl a8G],[]⟩,⟨[.pl (.arr 5 (.int .u64))],[]⟩,b4K K0⟩
theorem h2R:a1K tp 31 b7Q:=a4E (n:=31) (k:=60) (hs:=[(29,.con b0C)]) (A:=b1V [([31],0,.tmpl ⟨(dd 2 (.ptr 0 []::.ptr 1 []::dd 3 (.pl (.sl a0P)::.pl (.int .i64)::.pl (.int .i64)::dd 9 []))),[.box (.arr 5 (.int .u64)) (.pl (.arr 5 (.int .u64))),.box (.arr 5 (.int .u64)) (.pl (.arr 5 (.int .u64)))]⟩)]) ⟨g7B,trivial⟩ (by intro x; kernel_rfl)
def b8A:Con:=⟨⟨[.pl (.sl a1A)],[]⟩,⟨[.pl .bool],[]⟩,b0U K0⟩
theorem ok32:a1K tp 32 b8A:=a4E (n:=32) (k:=60) (hs:=[(30,.con c5B)]) (A:=b1V [([32],0,.tmpl ⟨(dd 5 (.pl (.sl a1A)::.pl (.int .i64)::.pl (.int .i64)::dd 17 [])),[]⟩)]) ⟨g9B,trivial⟩ (by intro x; kernel_rfl)
def c3L:Con:=⟨⟨[.pl (.sl a1A)],[]⟩,⟨[.pl (.arr 5 (.int .u64))],[]⟩,b9S K0⟩
theorem h1Z:a1K tp 33 c3L:=a4E (n:=33) (k:=60) (hs:=[(29,.con b0C)]) (A:=b1V [([33],0,.tmpl ⟨(dd 2 (.ptr 0 []::.ptr 1 []::dd 2 (.pl (.sl a1A)::.pl (.int .i64)::.pl (.int .i64)::dd 9 []))),[.box (.arr 5 (.int .u64)) (.pl (.arr 5 (.int .u64))),.box (.arr 5 (.int .u64)) (.pl (.arr 5 (.int .u64)))]⟩)]) ⟨g7B,trivial⟩ (by intro x; kernel_rfl)
def c4U:Con:=⟨⟨[.pl a8G,.pl a3A],[]⟩,⟨[.pl (.int .i64)],[]⟩,b4J K0⟩
theorem h1K:a1K tp 14 c4U:=a4E (n:=14) (k:=60) (hs:=[(28,.con c7Q),(29,.con b0C),(30,.con c5B),(31,.con b7Q),(32,.con b8A),(33,.con c3L)]) (A:=b1V [([1000000,14],6,.join ⟨(dd 2 (.ptr 0 []::.ptr 1 []::dd 15 (.pl .bool::dd 68 []))),[.box a8G (.pl a8G),.box a3A (.pl a3A)]⟩)]) ⟨h2B,g7B,g9B,h2R,ok32,h1Z,trivial⟩ (by intro x; kernel_rfl)
def b9Y:Con:=⟨⟨[],[]⟩,⟨[.pl .bool],[]⟩,b1P K0⟩
theorem ok8:a1K tp 8 b9Y:=a4E (n:=8) (k:=160) (hs:=[(9,.con b2J),(11,.con c4M),(13,.con a8E),(14,.con c4U),(18,.con b6G)]) (A:=fun _ _=>none) ⟨ok9,h1Q,h1P,h1K,h1T,trivial⟩ (by intro x; kernel_rfl)
def b7K:Con:=⟨⟨[.pl (.sl (.int .i64))],[]⟩,⟨[.pl .bool],[]⟩,a5P K0⟩
theorem ok5:a1K tp 5 b7K:=a4E (n:=5) (k:=160) (hs:=[(8,.con b9Y),(9,.con b2J),(11,.con c4M),(13,.con a8E),(14,.con c4U)]) (A:=fun _ _=>none) ⟨ok8,ok9,h1Q,h1P,h1K,trivial⟩ (by intro x; kernel_rfl)
end
end Sym

/- Rules for what a printed function computes. -/
namespace Sym
open Go
def Wp {R:Type} (T:R→Prop) (r:R):Prop:=T r
theorem Wp.brn {R:Type} {T:R→Prop} {c:Bool} {t f:R} (h1:c = true→Wp T t) (h2:c = false→Wp T f):Wp T (brn c t f):=by
 cases c
 ·
  exact h2 rfl
 ·
  exact h1 rfl
theorem Wp.brnT {R:Type} {T:R→Prop} {c:Bool} {t f:R} (hc:c = true) (h:Wp T t):Wp T (Sym.brn c t f):=by subst hc; exact h
theorem Wp.brnF {R:Type} {T:R→Prop} {c:Bool} {t f:R} (hc:c = false) (h:Wp T f):Wp T (Sym.brn c t f):=by subst hc; exact h
theorem Wp.optF {R Y:Type} {T:R→Prop} {fail:R} {o:Option Y} {k:Y→R} {y:Y} (ho:o = some y) (h:Wp T (k y)):Wp T (optF fail o k):=by subst ho; exact h
theorem Wp.call {R Y:Type} {T:R→Prop} {fail:R} {o:Option Y} {k:Y→R} {P:Y→Prop} (ho:∃ y,o = some y∧P y) (h:∀ y,P y→Wp T (k y)):Wp T (Sym.optF fail o k):=by
 obtain ⟨y,rfl,hp⟩:=ho
 exact h y hp
theorem Wp.jn {X R:Type} {T:R→Prop} {J:X→R} {f:(X→R)→R} (P:X→Prop) (h1:∀ x,P x→Wp T (J x)) (h2:∀ j:X→R,(∀ x,P x→Wp T (j x))→Wp T (f j)):Wp T (jn J f):=h2 J h1
def Rnd {X R:Type} (T:R→Prop) (Inv:X→Prop) (μ:X→Nat) (m:Nat) (s:Stp X R):Prop :=
 match s with
 | .again y=>Inv y∧μ y < m
 | .done r=>Wp T r
theorem Wp.again {X R:Type} {T:R→Prop} {Inv:X→Prop} {μ:X→Nat} {m:Nat} {y:X} (h1:Inv y) (h2:μ y < m):Wp (Rnd T Inv μ m) (.again y:Stp X R):=⟨h1,h2⟩
theorem Wp.done {X R:Type} {T:R→Prop} {Inv:X→Prop} {μ:X→Nat} {m:Nat} {r:R} (h:Wp T r):Wp (Rnd T Inv μ m) (.done r:Stp X R):=h
theorem Wp.iter {X R:Type} {T:R→Prop} {fail:R} {f:X→Stp X R} {x:X} (Inv:X→Prop) (μ:X→Nat) {k:Nat} (h:∀ x,Inv x→Wp (Rnd T Inv μ (μ x)) (f x)) (hi:Inv x) (hm:μ x < k):Wp T (iter fail f k x):=by
 induction k generalizing x with
 | zero=>omega
 | succ k ih =>
  have h1:=h x hi
  unfold Sym.iter
  cases hf:f x with
  | again y =>
   rw [hf] at h1
   exact ih h1.1 (Nat.lt_of_lt_of_le h1.2 (by omega))
  | done r =>
   rw [hf] at h1
   exact h1
def Nxt {X R:Type} (T:R→Prop) (fail:R) (f:X→Stp X R) (k:Nat) (s:Stp X R):Prop :=
 match s with
 | .again y=>Wp T (Sym.iter fail f k y)
 | .done r=>Wp T r
theorem Wp.unroll {X R:Type} {T:R→Prop} {fail:R} {f:X→Stp X R} {x:X} {k:Nat} (h:Wp (Nxt T fail f k) (f x)):Wp T (Sym.iter fail f (k + 1) x):=by
 unfold Sym.iter
 cases hf:f x with
 | again y=>rw [hf] at h; exact h
 | done r=>rw [hf] at h; exact h
theorem Wp.next {X R:Type} {T:R→Prop} {fail:R} {f:X→Stp X R} {y:X} {k:Nat} (h:Wp T (Sym.iter fail f k y)):Wp (Nxt T fail f k) (.again y):=h
theorem Wp.stop {X R:Type} {T:R→Prop} {fail:R} {f:X→Stp X R} {r:R} {k:Nat} (h:Wp T r):Wp (Nxt T fail f k) (.done r):=h
theorem Wp.out {R:Type} {T:R→Prop} {r:R} (h:Wp T r):T r:=h
theorem I.of_val {k:IntKind} {n:Int} (h:k.min ≤ n∧n ≤ k.max):(I.of k n).val = n:=a7O h
theorem b9N {n:Int} (h:0 ≤ n∧n < 18446744073709551616):(I.of .u64 n).val = n:=I.of_val ⟨by simp [IntKind.min,IntKind.signed]; omega,by simp [IntKind.max,IntKind.bits,IntKind.signed]; omega⟩
theorem b8E {n:Int} (h:-9223372036854775808 ≤ n∧n < 9223372036854775808):(I.of .i64 n).val = n:=I.of_val ⟨by simp [IntKind.min,IntKind.bits,IntKind.signed]; omega,by simp [IntKind.max,IntKind.bits,IntKind.signed]; omega⟩
theorem a6L (x:I .u64):0 ≤ x.val∧x.val < 18446744073709551616:=c8X x
theorem b5F (x:I .i64):-9223372036854775808 ≤ x.val∧x.val < 9223372036854775808:=by
 have h:=x.ok
 have h1:(2 ^ IntKind.i64.bits:Int) = 18446744073709551616:=by decide
 have h2:(2 ^ (IntKind.i64.bits - 1):Int) = 9223372036854775808:=by decide
 have h3:IntKind.i64.signed = true:=rfl
 simp only [IntKind.wrap,h1,h2,h3,Bool.true_and,decide_eq_true_eq] at h
 split at h <;> omega
theorem iff_ltb {k:IntKind} {a b:I k}:I.ltb a b = true ↔ a.val < b.val:=by simp [I.ltb]
theorem iff_leb {k:IntKind} {a b:I k}:I.leb a b = true ↔ a.val ≤ b.val:=by simp [I.leb]
theorem iff_eqb {k:IntKind} {a b:I k}:I.eqb a b = true ↔ a.val = b.val:=by simp [I.eqb]
theorem iff_neb {k:IntKind} {a b:I k}:I.neb a b = true ↔ a.val ≠ b.val:=by simp [I.neb]
theorem niff_ltb {k:IntKind} {a b:I k}:I.ltb a b = false ↔ b.val ≤ a.val:=by simp [I.ltb]
theorem niff_leb {k:IntKind} {a b:I k}:I.leb a b = false ↔ b.val < a.val:=by simp [I.leb]
theorem niff_eqb {k:IntKind} {a b:I k}:I.eqb a b = false ↔ a.val ≠ b.val:=by simp [I.eqb]
theorem niff_neb {k:IntKind} {a b:I k}:I.neb a b = false ↔ a.val = b.val:=by simp [I.neb]
theorem iff_nz {k:IntKind} {a:I k}:I.nz a = true ↔ a.val ≠ 0:=by simp [I.nz]
theorem iff_nn {k:IntKind} {a:I k}:I.nn a = true ↔ 0 ≤ a.val:=by simp [I.nn]
theorem iff_inB {k:IntKind} {a:I k} {n:Nat}:inB a n = true ↔ 0 ≤ a.val∧a.val < n:=by simp [inB]
theorem iff_fits {n:Nat}:a1E n = true ↔ n ≤ 1073741824:=by simp [a1E]
theorem I.eq_of {k:IntKind} {a b:I k} (h:I.eqb a b = true):a = b:=I.ext' (iff_eqb.1 h)
theorem a3N {n:Nat} (h:n < 9223372036854775808):(I.ofNat .i64 n).val = n:=b8E ⟨by omega,by omega⟩
theorem a5T {a b:I .i64} (h:-9223372036854775808 ≤ a.val + b.val∧a.val + b.val < 9223372036854775808):(I.add a b).val = a.val + b.val:=b8E h
theorem b0B {a b:I .i64} (h:-9223372036854775808 ≤ a.val - b.val∧a.val - b.val < 9223372036854775808):(I.sub a b).val = a.val - b.val:=b8E h
theorem c4I {a b:I .i64} (h:-9223372036854775808 ≤ a.val * b.val∧a.val * b.val < 9223372036854775808):(I.mul a b).val = a.val * b.val:=b8E h
theorem b7O {a b:I .i64} (h:0 ≤ a.val) (h2:0 < b.val):(I.rem a b).val = a.val % b.val:=by
 have ha:=b5F a
 have hb:=b5F b
 have e:a.val.tmod b.val = a.val % b.val:=Int.tmod_eq_emod_of_nonneg h
 have h3:=Int.emod_nonneg a.val (b:=b.val) (by omega)
 have h4:=Int.emod_lt_of_pos a.val h2
 unfold I.rem
 rw [e]
 exact b8E ⟨by omega,by omega⟩
theorem b9B {a b:I .i64} (h:0 ≤ a.val) (h2:0 < b.val):(I.quo a b).val = a.val / b.val:=by
 have ha:=b5F a
 have e:a.val.tdiv b.val = a.val / b.val:=Int.tdiv_eq_ediv_of_nonneg h
 have h3:0 ≤ a.val / b.val:=Int.ediv_nonneg h (by omega)
 have h4:a.val / b.val ≤ a.val:=Int.ediv_le_self _ h
 unfold I.quo
 rw [e]
 exact b8E ⟨by omega,by omega⟩
theorem e2Q {a b:I .u64} (h:a.val + b.val < 18446744073709551616):(I.add a b).val = a.val + b.val:=b9N ⟨by have:=a6L a; have:=a6L b; omega,h⟩
theorem f3T {a b:I .u64} (h:b.val ≤ a.val):(I.sub a b).val = a.val - b.val:=b9N ⟨by omega,by have:=a6L a; have:=a6L b; omega⟩
theorem f0K {a b:I .u64} (h2:b.val ≠ 0):(I.rem a b).val = a.val % b.val:=by
 have ha:=a6L a
 have hb:=a6L b
 have e:a.val.tmod b.val = a.val % b.val:=Int.tmod_eq_emod_of_nonneg ha.1
 have h3:=Int.emod_nonneg a.val (b:=b.val) (by omega)
 have h4:=Int.emod_lt_of_pos a.val (b:=b.val) (by omega)
 unfold I.rem
 rw [e]
 exact b9N ⟨by omega,by omega⟩
theorem c3J (a:I .u64):I.nn a = true:=iff_nn.2 (a6L a).1
end Sym

/- Natural numbers as ints; lists as rows. -/
namespace Sym
open Go
def i6 (n:Nat):I .i64:=I.of .i64 (n:Int)
theorem a0V {n:Nat} (h:n < 9223372036854775808):(i6 n).val = n:=b8E ⟨by omega,by omega⟩
theorem a3G {n:Nat} (h:n < 9223372036854775808):I.nat (i6 n) = n:=by unfold I.nat; rw [a0V h]; simp
theorem a3S {n m:Nat} (h:n + m < 9223372036854775808):I.add (i6 n) (i6 m) = i6 (n + m):=by
 apply I.ext'
 rw [a5T (by rw [a0V (by omega),a0V (by omega)]; omega),a0V (by omega),a0V (by omega),a0V h]
 omega
theorem b9U {n m:Nat} (h:n < 9223372036854775808) (hm:m ≤ n):I.sub (i6 n) (i6 m) = i6 (n - m):=by
 apply I.ext'
 rw [b0B (by rw [a0V (by omega),a0V (by omega)]; omega),a0V (by omega),a0V (by omega),a0V (by omega)]
 omega
theorem a2T {n m:Nat} (hn:n < 9223372036854775808) (hm:m < 9223372036854775808):I.ltb (i6 n) (i6 m) = decide (n < m):=by
 simp only [I.ltb,a0V hn,a0V hm]
 by_cases h:n < m
 ·
  rw [decide_eq_true h,decide_eq_true (by omega)]
 ·
  rw [decide_eq_false h,decide_eq_false (by omega)]
theorem e1I {n m:Nat} (hn:n < 9223372036854775808) (hm:m < 9223372036854775808):I.leb (i6 n) (i6 m) = decide (n ≤ m):=by
 simp only [I.leb,a0V hn,a0V hm]
 by_cases h:n ≤ m
 ·
  rw [decide_eq_true h,decide_eq_true (by omega)]
 ·
  rw [decide_eq_false h,decide_eq_false (by omega)]
theorem a3T {n m:Nat} (hn:n < m) (hm:n < 9223372036854775808):inB (i6 n) m = true:=iff_inB.2 (by rw [a0V hm]; omega)
theorem i6_inB' {n m:Nat} (hn:n ≤ m) (hm:n < 9223372036854775808):inB' (i6 n) m = true:=by
 simp only [inB',Bool.and_eq_true,decide_eq_true_eq,a0V hm]
 omega
theorem g8G (n:Nat):I.of .i64 (n:Int) = i6 n:=rfl
theorem a8Z (n:Nat):I.ofNat .i64 n = i6 n:=rfl
theorem d9Y {n m:Nat} (hn:n < 9223372036854775808) (hm:m < 9223372036854775808):I.eqb (i6 n) (i6 m) = decide (n = m):=by
 simp only [I.eqb,a0V hn,a0V hm]
 by_cases h:n = m
 ·
  rw [decide_eq_true h,decide_eq_true (by omega)]
 ·
  rw [decide_eq_false h,decide_eq_false (by omega)]
theorem a4G {X:Type} (d:X):∀ (l:List X) (i:Nat) (h:i < l.length),rdL d l i = l[i]
 | x :: l,0,_=>rfl
 | x :: l,i + 1,h=>a4G d l i (by simpa using h)
theorem c4H {X:Type} (d:X):∀ (l:List X) (i:Nat),l.length ≤ i→rdL d l i = d
 | [],_,_=>rfl
 | _ :: _,0,h=>by simp at h
 | _ :: l,i + 1,h=>c4H d l i (by simpa using h)
theorem a6W {X:Type}:∀ (l:List X) (i:Nat) (v:X),setAt l i v = l.set i v
 | [],_,_=>rfl
 | _ :: _,0,_=>rfl
 | x :: l,i + 1,v=>by simp [setAt,a6W l i v]
theorem b5H {X:Type} (d:X) (l:List X) (i k:Nat) (v:X):rdL d (setAt l i v) k = if k = i∧i < l.length then v else rdL d l k:=by
 rw [a6W]
 by_cases hk:k < l.length
 ·
  rw [a4G d _ k (by simpa using hk),List.getElem_set]
  by_cases h:k = i
  ·
   subst h; simp [hk]
  ·
   rw [if_neg (by omega),if_neg (by omega),a4G d l k hk]
 ·
  rw [c4H _ _ _ (by simp; omega),c4H _ _ _ (by omega),if_neg (by omega)]
theorem c3B {X:Type} (d:X) (l m:List X) (k:Nat):rdL d (l ++ m) k = if k < l.length then rdL d l k else rdL d m (k - l.length):=by
 induction l generalizing k with
 | nil=>simp
 | cons x l ih =>
  cases k with
  | zero=>simp [rdL]
  | succ k =>
   simp only [List.cons_append,rdL,ih,List.length_cons,Nat.add_lt_add_iff_right,Nat.add_sub_add_right]
theorem b7N {X:Type} (d:X) (l:List X) (k:Nat) (h:k < l.length):rdL d l k ∈ l:=by rw [a4G d l k h]; exact List.getElem_mem h
theorem b8W {X:Type} (d:X) {l:List X} {x:X} (h:x ∈ l):∃ k,k < l.length∧rdL d l k = x:=by
 obtain ⟨k,hk,e⟩:=List.getElem_of_mem h
 exact ⟨k,hk,by rw [a4G d l k hk,e]⟩
theorem b9K {X:Type} (s:List X) (n:Nat):a3W s 0 n = s.take n:=by simp [a3W]
theorem b3U {X:Type} (s:List X) (n:Nat):a3W s n (s.length - n) = s.drop n:=by
 simp only [a3W]
 exact List.take_of_length_le (by simp)
theorem a7C {X:Type} (l:List X):a0I l = l.length:=rfl
theorem g2Q {X:Type} (l m:List X):a2A l m = l ++ m:=rfl
theorem e2Z:∀ (t:Ty),t.eqOk = true→∀ x y:t.D,Ty.eqb t x y = true ↔ x = y:=by
 intro t
 induction t with
 | int k=>intro _ x y; simp only [Ty.eqb,decide_eq_true_eq]; exact ⟨fun h=>I.ext' h,fun h=>by rw [h]⟩
 | bool=>intro _ x y; exact (by decide:∀ a b:Bool,(a == b) = true ↔ a = b) x y
 | nil=>intro _ x y; exact ⟨fun _=>rfl,fun _=>rfl⟩
 | cons a b iha ihb =>
  intro h x y
  simp only [Ty.eqOk,Bool.and_eq_true] at h
  simp only [Ty.eqb,Bool.and_eq_true,iha h.1,ihb h.2]
  obtain ⟨x1,x2⟩:=x
  obtain ⟨y1,y2⟩:=y
  exact ⟨fun h=>by rw [show x1 = y1 from h.1,show x2 = y2 from h.2],fun h=>⟨congrArg Prod.fst h,congrArg Prod.snd h⟩⟩
 | arr n t ih =>
  intro h x y
  have key:∀ (n:Nat) (x y:Arr t.D n),Arr.eqb t.eqb n x y = true ↔ x = y:=by
   intro n
   induction n with
   | zero=>intro x y; exact ⟨fun _=>rfl,fun _=>rfl⟩
   | succ n ihn =>
    intro x y
    simp only [Arr.eqb,Bool.and_eq_true,ih h,ihn]
    obtain ⟨x1,x2⟩:=x
    obtain ⟨y1,y2⟩:=y
    exact ⟨fun h=>by rw [show x1 = y1 from h.1,show x2 = y2 from h.2],fun h=>⟨congrArg Prod.fst h,congrArg Prod.snd h⟩⟩
  exact key n x y
 | str=>intro h; cases h
 | sl t _=>intro h; cases h
 | opq=>intro h; cases h
theorem eqb_self' {t:Ty} (h:t.eqOk = true) (x:t.D):Ty.eqb t x x = true:=(e2Z t h x x).2 rfl
theorem a8P {n:Nat} (h:n ≤ 1073741824):a1E n = true:=iff_fits.2 h
end Sym

/- Natural numbers by digits of 65536: what the reference's first functions compute. -/
namespace Sym
open Go
abbrev Dg:Type:=I .i64
def bv:List Dg→Nat
 | []=>0
 | d :: l=>d.nat + 65536 * bv l
def DigOk (d:Dg):Prop:=0 ≤ d.val∧d.val < 65536
def c0Y (l:List Dg):Prop:=∀ d ∈ l,DigOk d
def f8U:List Dg→Prop
 | []=>True
 | [d]=>d.val ≠ 0
 | _ :: e :: l=>f8U (e :: l)
structure IsB (l:List Dg) (n:Nat):Prop where
 dig:c0Y l
 lead:f8U l
 val:bv l = n
theorem DigOk.nat {d:Dg} (h:DigOk d):(d.nat:Int) = d.val∧d.nat < 65536:=by
 unfold DigOk at h
 unfold I.nat
 omega
theorem digs_cons {d:Dg} {l:List Dg}:c0Y (d :: l) ↔ DigOk d∧c0Y l:=by
 unfold c0Y
 simp
theorem digs_app {l r:List Dg}:c0Y (l ++ r) ↔ c0Y l∧c0Y r:=by
 unfold c0Y
 simp only [List.mem_append]
 exact ⟨fun h=>⟨fun d hd=>h d (.inl hd),fun d hd=>h d (.inr hd)⟩,fun h d hd=>hd.elim (h.1 d) (h.2 d)⟩
theorem c2J {l:List Dg} (h:c0Y l) (n:Nat):c0Y (l.take n):=fun d hd=>h d (List.mem_of_mem_take hd)
theorem e2H:∀ {l:List Dg},c0Y l→bv l < 65536 ^ l.length
 | [],_=>by simp [bv]
 | d :: l,h=>by
  have h:=digs_cons.1 h
  have h1:=h.1.nat.2
  have h2:=e2H h.2
  simp only [bv,List.length_cons,Nat.pow_succ]
  omega
theorem d2E:IsB [] 0:=⟨fun _ h=>by simp at h,trivial,rfl⟩
theorem c3I:∀ (l r:List Dg),bv (l ++ r) = bv l + 65536 ^ l.length * bv r
 | [],r=>by simp [bv]
 | d :: l,r=>by
  simp only [List.cons_append,bv,List.length_cons,c3I l r,Nat.pow_succ,Nat.mul_add]
  rw [Nat.mul_comm (65536 ^ l.length) 65536,Nat.mul_assoc]
  omega
theorem c4A:∀ (l:List Dg) (d:Dg),d.val ≠ 0→f8U (l ++ [d])
 | [],_d,h=>h
 | [_e],_d,h=>h
 | _e :: f :: l,d,h=>c4A (f :: l) d h
theorem g5D:∀ {l:List Dg},c0Y l→f8U l→l ≠ []→65536 ^ (l.length - 1) ≤ bv l
 | [],_,_,h=>absurd rfl h
 | [d],hd,hl,_=>by
  have h:=(digs_cons.1 hd).1.nat.1
  have:d.val ≠ 0:=hl
  simp only [bv,List.length_singleton,Nat.sub_self,Nat.pow_zero]
  omega
 | d :: e :: l,hd,hl,_=>by
  have:=g5D (l:=e :: l) (digs_cons.1 hd).2 hl (by simp)
  simp only [List.length_cons,Nat.add_sub_cancel] at this ⊢
  simp only [bv,Nat.pow_succ] at *
  omega
theorem IsB.len {l:List Dg} {n k:Nat} (h:IsB l n):l.length ≤ k ↔ n < 65536 ^ k:=by
 have h1:=e2H h.dig
 rw [h.val] at h1
 constructor
 ·
  intro hk
  exact Nat.lt_of_lt_of_le h1 (Nat.pow_le_pow_right (by decide) hk)
 ·
  intro hn
  rcases Nat.lt_or_ge k l.length with hk | hk
  ·
   have h2:=g5D h.dig h.lead (by intro e; subst e; simp at hk)
   rw [h.val] at h2
   have h3:65536 ^ k ≤ 65536 ^ (l.length - 1):=Nat.pow_le_pow_right (by decide) (by omega)
   omega
  ·
   exact hk
theorem b8J (n:Nat) (h:n < 2 ^ 64):n < K0:=by rw [a6Y]; exact h
theorem d7V (l:List Dg) (hd:c0Y l) (hl:l.length ≤ 1073741824):∃ r,a6D K0 ((l,()),()) = some ((r,()),())∧IsB r (bv l):=by
 have key:Wp (fun o=>∃ r,o = some ((r,()),())∧IsB r (bv l)) (a6D K0 ((l,()),())):=by
  have hlen:(I.ofNat .i64 (a0I l)).val = l.length:=a3N (by show l.length < _; omega)
  have c1:(I.of .i64 1).val = 1:=rfl
  have c0:(I.of .i64 0).val = 0:=rfl
  unfold a6D
  refine Wp.iter (fun x=>x.1.1 = l∧0 ≤ x.1.2.1.val∧x.1.2.1.val ≤ (l.length:Int)∧bv (l.take x.1.2.1.val.toNat) = bv l) (fun x=>x.1.2.1.val.toNat) ?_ ?_ ?_
  ·
   rintro ⟨⟨l',i,⟨⟩⟩,⟨⟩⟩ ⟨e1,hi0,hi1,hb⟩
   simp only at e1 hi0 hi1 hb
   subst e1
   have cut:inB' i (a0I l') = true:=by
    show (decide (0 ≤ i.val) && decide (i.val ≤ ((l'.length:Nat):Int))) = true
    simp [hi0,hi1]
   have sub:a3W l' 0 (I.nat i) = l'.take i.val.toNat:=by simp [a3W,I.nat]
   refine Wp.brn (fun h=>?_) (fun h=>?_)
   ·
    have h:=iff_ltb.1 h
    simp only [c0] at h
    have hs:(I.sub i (I.of .i64 1)).val = i.val - 1:=by rw [b0B (by omega)]; omega
    have hidx:(I.nat (I.sub i (I.of .i64 1))) = i.val.toNat - 1:=by unfold I.nat; omega
    have hlt:i.val.toNat - 1 < l'.length:=by omega
    have hrd:rdL (I.of .i64 0) l' (I.nat (I.sub i (I.of .i64 1))) = l'[i.val.toNat - 1]:=by rw [hidx]; exact a4G _ _ _ hlt
    have htk:l'.take i.val.toNat = l'.take (i.val.toNat - 1) ++ [l'[i.val.toNat - 1]]:=by
     rw [List.take_append_getElem hlt]
     congr 1
     omega
    refine Wp.brnT (iff_inB.2 ⟨by show 0 ≤ (I.sub i (I.of .i64 1)).val; omega,by show (I.sub i (I.of .i64 1)).val < (l'.length:Int); omega⟩) ?_
    refine Wp.brn (fun h2=>?_) (fun h2=>?_)
    ·
     have h2:=iff_eqb.1 h2
     simp only [hrd] at h2
     refine Wp.again ⟨rfl,?_,?_,?_⟩ ?_
     ·
      show 0 ≤ (I.sub i (I.of .i64 1)).val; omega
     ·
      show (I.sub i (I.of .i64 1)).val ≤ _; omega
     ·
      show bv (l'.take (I.sub i (I.of .i64 1)).val.toNat) = _
      have e:(I.sub i (I.of .i64 1)).val.toNat = i.val.toNat - 1:=by omega
      rw [e,← hb,htk,c3I]
      have hz:(l'[i.val.toNat - 1]).nat = 0:=by unfold I.nat; rw [h2]; rfl
      simp [bv,hz]
     ·
      show (I.sub i (I.of .i64 1)).val.toNat < _
      simp only; omega
    ·
     have h2:=niff_eqb.1 h2
     simp only [hrd] at h2
     refine Wp.done (Wp.brnT cut ⟨_,rfl,?_⟩)
     show IsB (a3W l' 0 (I.nat i)) _
     rw [sub]
     refine ⟨c2J hd _,?_,hb⟩
     rw [htk]
     exact c4A _ _ h2
   ·
    have h:=niff_ltb.1 h
    simp only [c0] at h
    refine Wp.done (Wp.brnT cut ⟨_,rfl,?_⟩)
    show IsB (a3W l' 0 (I.nat i)) _
    rw [sub]
    have e:i.val.toNat = 0:=by omega
    rw [e] at hb ⊢
    simp only [List.take_zero] at hb ⊢
    rw [← hb]
    exact d2E
  ·
   refine ⟨rfl,?_,?_,?_⟩
   ·
    show 0 ≤ (I.ofNat .i64 (a0I l)).val; omega
   ·
    show (I.ofNat .i64 (a0I l)).val ≤ _; omega
   ·
    show bv (l.take (I.ofNat .i64 (a0I l)).val.toNat) = _
    rw [hlen,Int.toNat_natCast,List.take_length]
  ·
   refine b8J _ ?_
   show (I.ofNat .i64 (a0I l)).val.toNat < _
   omega
 exact key.out
end Sym

/- Natural numbers by digits of 65536: from and to 256 bits, comparison. -/
namespace Sym
open Go
theorem e5Z (k:IntKind) (hk:k.bits = 64) (x:I k) (_h:0 ≤ x.val) (_hx:x.val < 18446744073709551616):((BitVec.ofInt k.bits x.val &&& BitVec.ofInt k.bits 65535).toNat:Int) = x.val % 65536:=by
 rw [hk,BitVec.toNat_and]
 have h1:(BitVec.ofInt 64 65535).toNat = 2 ^ 16 - 1:=rfl
 rw [h1,Nat.and_two_pow_sub_one_eq_mod,BitVec.toNat_ofInt]
 omega
theorem g3V (x:I .u64):(I.and x (I.of .u64 65535)).val = x.val % 65536:=by
 have h:=a6L x
 have:=e5Z .u64 rfl x h.1 h.2
 have e:(I.of .u64 65535).val = 65535:=rfl
 show (I.of .u64 _).val = _
 rw [e,this]
 exact b9N ⟨by omega,by omega⟩
theorem e2M (x:I .i64) (h:0 ≤ x.val):(I.and x (I.of .i64 65535)).val = x.val % 65536:=by
 have h2:=b5F x
 have:=e5Z .i64 rfl x h (by omega)
 have e:(I.of .i64 65535).val = 65535:=rfl
 show (I.of .i64 _).val = _
 rw [e,this]
 exact b8E ⟨by omega,by omega⟩
theorem d6Q (a:Int) (n:Nat) (_h:0 ≤ a):a.fdiv ((2:Int) ^ n) = a / (2:Int) ^ n:=by
 have h2:(0:Int) ≤ (2:Int) ^ n:=Int.le_of_lt (Int.pow_pos (by decide))
 rw [Int.fdiv_eq_ediv_of_nonneg _ h2]
theorem f2Q (x s:I .u64) (hs:s.val < 64):(I.shr x s).val = x.val / (2:Int) ^ s.val.toNat:=by
 have hx:=a6L x
 have h0:=a6L s
 have hm:min s.val.toNat IntKind.u64.bits = s.val.toNat:=by
  have:IntKind.u64.bits = 64:=rfl
  omega
 unfold I.shr
 rw [hm,d6Q _ _ hx.1]
 have h2:(0:Int) < (2:Int) ^ s.val.toNat:=Int.pow_pos (by decide)
 have h3:0 ≤ x.val / (2:Int) ^ s.val.toNat:=Int.ediv_nonneg hx.1 (by omega)
 have h4:x.val / (2:Int) ^ s.val.toNat ≤ x.val:=Int.ediv_le_self _ hx.1
 exact b9N ⟨by omega,by omega⟩
theorem c8H (x:I .i64) (h:0 ≤ x.val):(I.shr x (I.of .u64 16)).val = x.val / 65536:=by
 have hx:=b5F x
 have hm:min (I.of .u64 16).val.toNat IntKind.i64.bits = 16:=rfl
 unfold I.shr
 rw [hm,d6Q _ _ h]
 have e:(2:Int) ^ 16 = 65536:=by decide
 rw [e]
 exact b8E ⟨by omega,by omega⟩
def f2B (a:U) (j:Nat):Dg:=I.conv .i64 (I.and (I.shr (Arr.sel (I.of .u64 0) 4 a (j / 4)) (I.of .u64 (16 * (j % 4):Nat))) (I.of .u64 65535))
theorem e4Z (a:U) (j:Nat):(f2B a j).val = (Arr.sel (I.of .u64 0) 4 a (j / 4)).val / (2:Int) ^ (16 * (j % 4)) % 65536:=by
 have h1:(I.of .u64 (16 * (j % 4):Nat)).val = (16 * (j % 4):Nat):=b9N ⟨by omega,by omega⟩
 have h2:=f2Q (Arr.sel (I.of .u64 0) 4 a (j / 4)) (I.of .u64 (16 * (j % 4):Nat)) (by omega)
 rw [h1,Int.toNat_natCast] at h2
 unfold f2B
 show (I.of .i64 _).val = _
 rw [g3V,h2]
 exact b8E ⟨by omega,by omega⟩
theorem f4B (a:U) (j:Nat):DigOk (f2B a j):=by
 unfold DigOk
 rw [e4Z]
 omega
theorem limb (x:I .u64) (d0 d1 d2 d3:Nat) (h0:(d0:Int) = x.val / (2:Int) ^ 0 % 65536) (h1:(d1:Int) = x.val / (2:Int) ^ 16 % 65536) (h2:(d2:Int) = x.val / (2:Int) ^ 32 % 65536) (h3:(d3:Int) = x.val / (2:Int) ^ 48 % 65536) :
  x.nat = d0 + 65536 * d1 + 4294967296 * d2 + 281474976710656 * d3:=by
 have p0:(2:Int) ^ 0 = 1:=by decide
 have p1:(2:Int) ^ 16 = 65536:=by decide
 have p2:(2:Int) ^ 32 = 4294967296:=by decide
 have p3:(2:Int) ^ 48 = 281474976710656:=by decide
 rw [p0] at h0
 rw [p1] at h1
 rw [p2] at h2
 rw [p3] at h3
 have hx:=a6L x
 have hn:=a1Y x
 omega
theorem h2Y (a0 a1 a2 a3 d0 d1 d2 d3 d4 d5 d6 d7 d8 d9 d10 d11 d12 d13 d14 d15:Nat) (v0:a0 = d0 + 65536 * d1 + 4294967296 * d2 + 281474976710656 * d3) (v1:a1 = d4 + 65536 * d5 + 4294967296 * d6 + 281474976710656 * d7)
  (v2:a2 = d8 + 65536 * d9 + 4294967296 * d10 + 281474976710656 * d11) (v3:a3 = d12 + 65536 * d13 + 4294967296 * d14 + 281474976710656 * d15) :
  d0 + 65536 * (d1 + 65536 * (d2 + 65536 * (d3 + 65536 * (d4 + 65536 * (d5 + 65536 * (d6 + 65536 * (d7 + 65536 * (d8 + 65536 * (d9 + 65536 * (d10 + 65536 * (d11 + 65536 * (d12 + 65536 * (d13 + 65536 * (d14 + 65536 * (d15 + 65536 * 0))))))))))))))) =
   a0 + 18446744073709551616 * (a1 + 18446744073709551616 * (a2 + 18446744073709551616 * a3)):=by
 subst v0 v1 v2 v3
 omega
theorem f0F (a:U):bv ((List.range 16).map (f2B a)) = a.val:=by
 obtain ⟨a0,a1,a2,a3,⟨⟩⟩:=a
 have n:∀ j,((f2B (a0,a1,a2,a3,()) j).nat:Int) = (Arr.sel (I.of .u64 0) 4 (a0,a1,a2,a3,()) (j / 4)).val / (2:Int) ^ (16 * (j % 4)) % 65536:=fun j=>(f4B _ j).nat.1.trans (e4Z _ j)
 exact h2Y _ _ _ _ _ _ _ _ _ _ _ _ _ _ _ _ _ _ _ _ (limb a0 _ _ _ _ (n 0) (n 1) (n 2) (n 3)) (limb a1 _ _ _ _ (n 4) (n 5) (n 6) (n 7)) (limb a2 _ _ _ _ (n 8) (n 9) (n 10) (n 11)) (limb a3 _ _ _ _ (n 12) (n 13) (n 14) (n 15))
theorem a1C (a:U):∃ r,a0C K0 ((a,()),()) = some ((r,()),())∧IsB r a.val:=by
 have key:Wp (fun o=>∃ r,o = some ((r,()),())∧IsB r a.val) (a0C K0 ((a,()),())):=by
  have c16:(I.of .i64 16).val = 16:=rfl
  have c4:(I.of .i64 4).val = 4:=rfl
  have c1:(I.of .i64 1).val = 1:=rfl
  unfold a0C
  refine Wp.iter (fun x=>0 ≤ x.1.1.val∧x.1.1.val ≤ 16∧x.2.1 = a∧x.2.2.1 = (List.range x.1.1.val.toNat).map (f2B a) ++ List.replicate (16 - x.1.1.val.toNat) (I.of .i64 0)) (fun x=>(16 - x.1.1.val).toNat) ?_ ?_ ?_
  ·
   rintro ⟨⟨i,⟨⟩⟩,a',out,⟨⟩⟩ ⟨hi0,hi1,e1,e2⟩
   simp only at hi0 hi1 e1 e2
   subst e1
   refine Wp.brn (fun h=>?_) (fun h=>?_)
   ·
    have h:=iff_ltb.1 h
    simp only [c16] at h
    have hq:(I.quo i (I.of .i64 4)).val = i.val / 4:=b9B hi0 (by decide)
    have hr:(I.rem i (I.of .i64 4)).val = i.val % 4:=b7O hi0 (by decide)
    have hlen:out.length = 16:=by rw [e2]; simp; omega
    have hs:(I.add i (I.of .i64 1)).val = i.val + 1:=by rw [a5T (by omega)]; omega
    have hm:(I.mul (I.of .i64 16) (I.rem i (I.of .i64 4))).val = 16 * (i.val % 4):=by rw [c4I (by rw [c16,hr]; omega),hr,c16]
    refine Wp.brnT (iff_inB.2 ⟨by show 0 ≤ (I.quo i (I.of .i64 4)).val; omega,by show (I.quo i (I.of .i64 4)).val < ((4:Nat):Int); omega⟩) ?_
    refine Wp.brnT (c3J _) ?_
    refine Wp.brnT (iff_inB.2 ⟨hi0,by show i.val < ((out.length:Nat):Int); omega⟩) ?_
    refine Wp.again ⟨?_,?_,rfl,?_⟩ ?_
    ·
     show 0 ≤ (I.add i (I.of .i64 1)).val; omega
    ·
     show (I.add i (I.of .i64 1)).val ≤ 16; omega
    ·
     have ed:I.conv .i64 (I.and (I.shr (Arr.sel (I.of .u64 0) 4 a' (I.nat (I.quo i (I.of .i64 4)))) (I.conv .u64 (I.mul (I.of .i64 16) (I.rem i (I.of .i64 4))))) (I.of .u64 65535)) = f2B a' i.val.toNat:=by
      unfold f2B
      have e1:I.nat (I.quo i (I.of .i64 4)) = i.val.toNat / 4:=by unfold I.nat; omega
      have e2:I.conv .u64 (I.mul (I.of .i64 16) (I.rem i (I.of .i64 4))) = I.of .u64 (16 * (i.val.toNat % 4):Nat):=by
       show I.of .u64 _ = _
       rw [hm]
       congr 1
       omega
      rw [e1,e2]
     show setAt out (I.nat i) _ = (List.range (I.add i (I.of .i64 1)).val.toNat).map (f2B a') ++ List.replicate (16 - (I.add i (I.of .i64 1)).val.toNat) (I.of .i64 0)
     have e3:(I.add i (I.of .i64 1)).val.toNat = i.val.toNat + 1:=by omega
     have e4:I.nat i = ((List.range i.val.toNat).map (f2B a')).length:=by simp [I.nat]
     have e5:16 - i.val.toNat = (16 - (i.val.toNat + 1)) + 1:=by omega
     rw [a6W,e2,e3,e4,List.set_append_right _ _ (Nat.le_refl _),Nat.sub_self,e5,List.replicate_succ,List.set_cons_zero,List.range_succ,List.map_append,List.map_cons,List.map_nil,List.append_assoc]
     show _ ++ _ = _ ++ ([_] ++ _)
     rw [← ed]
     rfl
    ·
     show (16 - (I.add i (I.of .i64 1)).val).toNat < _
     simp only; omega
   ·
    have h:=niff_ltb.1 h
    simp only [c16] at h
    have hi:i.val.toNat = 16:=by omega
    rw [hi] at e2
    simp only [Nat.sub_self,List.replicate_zero,List.append_nil] at e2
    subst e2
    have hd:c0Y ((List.range 16).map (f2B a')):=by
     intro d hd
     rw [List.mem_map] at hd
     obtain ⟨j,_,rfl⟩:=hd
     exact f4B a' j
    obtain ⟨r,hr,hB⟩:=d7V _ hd (by simp)
    exact Wp.done (Wp.optF hr ⟨r,rfl,hB.dig,hB.lead,hB.val.trans (f0F a')⟩)
  ·
   exact ⟨by show 0 ≤ (I.of .i64 0).val; decide,by show (I.of .i64 0).val ≤ 16; decide,rfl,rfl⟩
  ·
   exact b8J _ (by show (16 - (I.of .i64 0).val).toNat < _; decide)
 exact key.out
end Sym
