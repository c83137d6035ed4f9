/- The given functions as plain functions, as the printer told them. -/
import Derived.Test.YtojogbnepbblgaaGreatProg
import Derived.Test.YtojogbnepbblgaaGreatPart3
namespace Sym
open Go
noncomputable section
def d6K:List (I .u8):=f3E [0]
def f7O:List (I .u8):=f3E [1]
def e9M:List (I .u8):=f3E [128]
abbrev a0E:Type:=(I .u64) × (U × ((I .u64) × Unit))
noncomputable abbrev a5B:a0E:=((I.of .u64 0),(Z_U,((I.of .u64 0),())))
abbrev a0B:Type:=(I .u64) × a0D
noncomputable abbrev a0M:a0B:=((I.of .u64 0),a1Y)
abbrev a9K:Type:=(I .u64) × a0B
noncomputable abbrev a4R:a9K:=((I.of .u64 0),a0M)
abbrev b5V:Type:=(I .u32) × ((I .u32) × ((I .u32) × ((I .u32) × ((I .u32) × ((I .u32) × ((I .u32) × ((I .u32) × Unit)))))))
noncomputable abbrev c8D:b5V:=((I.of .u32 0),((I.of .u32 0),((I.of .u32 0),((I.of .u32 0),((I.of .u32 0),((I.of .u32 0),((I.of .u32 0),((I.of .u32 0),()))))))))
abbrev c7V:Type:=U × (U × (U × (U × Unit)))
noncomputable abbrev c5G:c7V:=(Z_U,(Z_U,(Z_U,(Z_U,()))))
abbrev a7T:Type:=(I .u64) × ((I .u64) × ((I .u64) × (U × ((I .u64) × (U × (U × ((I .u64) × ((List (I .u8)) × Unit))))))))
abbrev a2X:Type:=(List a0E) × (c7V × Unit)
abbrev a9E:Type:=(I .u64) × ((I .u64) × ((I .u64) × ((I .u64) × (Bool × (U × c7V)))))
noncomputable abbrev a1S:a9E:=((I.of .u64 0),((I.of .u64 0),((I.of .u64 0),((I.of .u64 0),(false,(Z_U,c5G))))))
abbrev a0G:Type:=(I .u8) × ((I .u8) × ((I .u8) × ((I .u8) × ((I .u8) × ((I .u8) × ((I .u8) × ((I .u8) × ((I .u8) × ((I .u8) × ((I .u8) × ((I .u8) × ((I .u8) × ((I .u8) × ((I .u8) × ((I .u8) × ((I .u8) × ((I .u8) × ((I .u8) × ((I .u8) × ((I .u8) × ((I .u8) × ((I .u8) × ((I .u8) × ((I .u8) × ((I .u8) × ((I .u8) × ((I .u8) × ((I .u8) × ((I .u8) × ((I .u8) × ((I .u8) × Unit)))))))))))))))))))))))))))))))
noncomputable abbrev a2J:a0G:=((I.of .u8 0),((I.of .u8 0),((I.of .u8 0),((I.of .u8 0),((I.of .u8 0),((I.of .u8 0),((I.of .u8 0),((I.of .u8 0),((I.of .u8 0),((I.of .u8 0),((I.of .u8 0),((I.of .u8 0),((I.of .u8 0),((I.of .u8 0),((I.of .u8 0),((I.of .u8 0),((I.of .u8 0),((I.of .u8 0),((I.of .u8 0),((I.of .u8 0),((I.of .u8 0),((I.of .u8 0),((I.of .u8 0),((I.of .u8 0),((I.of .u8 0),((I.of .u8 0),((I.of .u8 0),((I.of .u8 0),((I.of .u8 0),((I.of .u8 0),((I.of .u8 0),((I.of .u8 0),()))))))))))))))))))))))))))))))))
abbrev b4T:Type:=U × (U × (U × (U × c7V)))
noncomputable abbrev a2W:b4T:=(Z_U,(Z_U,(Z_U,(Z_U,c5G))))
abbrev b5T:Type:=(I .u64) × ((I .u64) × ((I .u64) × (U × ((List a0G) × Unit))))
abbrev a6X:Type:=U × ((List a0G) × ((List (I .u64)) × ((List a0D) × Unit)))
abbrev a1C:Type:=(I .i64) × ((I .i64) × (a9E × (U × (U × ((I .u64) × (U × (U × ((List a0B) × Unit))))))))
abbrev c3V:Type:=(I .u32) × ((I .u32) × ((I .u32) × ((I .u32) × ((I .u32) × ((I .u32) × ((I .u32) × ((I .u32) × ((I .u32) × ((I .u32) × ((I .u32) × ((I .u32) × ((I .u32) × ((I .u32) × ((I .u32) × ((I .u32) × ((I .u32) × ((I .u32) × ((I .u32) × ((I .u32) × ((I .u32) × ((I .u32) × ((I .u32) × ((I .u32) × ((I .u32) × ((I .u32) × ((I .u32) × ((I .u32) × ((I .u32) × ((I .u32) × ((I .u32) × ((I .u32) × ((I .u32) × ((I .u32) × ((I .u32) × ((I .u32) × ((I .u32) × ((I .u32) × ((I .u32) × ((I .u32) × ((I .u32) × ((I .u32) × ((I .u32) × ((I .u32) × ((I .u32) × ((I .u32) × ((I .u32) × ((I .u32) × ((I .u32) × ((I .u32) × ((I .u32) × ((I .u32) × ((I .u32) × ((I .u32) × ((I .u32) × ((I .u32) × b5V)))))))))))))))))))))))))))))))))))))))))))))))))))))))
noncomputable abbrev d3S:c3V:=((I.of .u32 0),((I.of .u32 0),((I.of .u32 0),((I.of .u32 0),((I.of .u32 0),((I.of .u32 0),((I.of .u32 0),((I.of .u32 0),((I.of .u32 0),((I.of .u32 0),((I.of .u32 0),((I.of .u32 0),((I.of .u32 0),((I.of .u32 0),((I.of .u32 0),((I.of .u32 0),((I.of .u32 0),((I.of .u32 0),((I.of .u32 0),((I.of .u32 0),((I.of .u32 0),((I.of .u32 0),((I.of .u32 0),((I.of .u32 0),((I.of .u32 0),((I.of .u32 0),((I.of .u32 0),((I.of .u32 0),((I.of .u32 0),((I.of .u32 0),((I.of .u32 0),((I.of .u32 0),((I.of .u32 0),((I.of .u32 0),((I.of .u32 0),((I.of .u32 0),((I.of .u32 0),((I.of .u32 0),((I.of .u32 0),((I.of .u32 0),((I.of .u32 0),((I.of .u32 0),((I.of .u32 0),((I.of .u32 0),((I.of .u32 0),((I.of .u32 0),((I.of .u32 0),((I.of .u32 0),((I.of .u32 0),((I.of .u32 0),((I.of .u32 0),((I.of .u32 0),((I.of .u32 0),((I.of .u32 0),((I.of .u32 0),((I.of .u32 0),c8D))))))))))))))))))))))))))))))))))))))))))))))))))))))))
abbrev a1D:Type:=(I .i64) × (a7T × (a0B × ((I .u64) × ((I .i64) × (U × ((I .u64) × (b5T × Unit)))))))
abbrev c2Z:Type:=(I .u64) × (a3E × (a9K × ((I .u64) × (a5K × ((List a0E) × (c7V × ((List a0B) × ((List Bool) × (U × ((List a0D) × Unit))))))))))
abbrev a0W:Type:=(I .u64) × (a3E × (a9K × ((I .u64) × (a5K × (Unit × (Unit × (Unit × Unit)))))))
abbrev a0N:Type:=Unit × (c7V × Unit)
abbrev a0U:Type:=U × (Unit × (Unit × (Unit × Unit)))
abbrev c4J:Ty:=.cons (.arr 8 (.sl (.int .i64))) (.cons .bool .nil)
abbrev a0X:Ty:=.cons (.int .u64) (.cons a1T (.cons (.int .u64) .nil))
abbrev a0O:Ty:=.cons (.int .u64) a0Y
abbrev a1Q:Ty:=.cons (.int .u64) a0O
abbrev a1Z:Ty:=.cons (.int .u64) (.cons a1T (.cons (.sl a0Y) .nil))
abbrev a7K:Ty:=.cons (.int .u64) (.cons (.int .u64) (.cons (.int .u64) (.cons a1T (.cons (.sl (.arr 32 (.int .u8))) .nil))))
abbrev a0K:Ty:=.cons (.sl a0X) (.cons (.arr 4 a1T) .nil)
abbrev a0R:Ty:=.cons a1T (.cons (.sl (.arr 32 (.int .u8))) (.cons (.sl (.int .u64)) (.cons (.sl a0Y) .nil)))
abbrev a1R:Ty:=.cons (.int .u64) (.cons (.int .u64) (.cons (.int .u64) (.cons a1T (.cons (.int .u64) (.cons a1T (.cons a1T (.cons (.int .u64) (.cons (.sl (.int .u8)) .nil))))))))
abbrev a2H:Ty:=.cons a1T (.cons a1T (.cons a1T (.cons a1T (.cons a1T (.cons a1T (.cons a1T (.cons a1T .nil)))))))
abbrev a3P:Ty:=.cons (.int .u64) (.cons (.int .u64) (.cons (.int .u64) (.cons (.int .u64) (.cons .bool (.cons a1T (.cons a1T (.cons a1T (.cons a1T (.cons a1T .nil)))))))))
abbrev a1N:Ty:=.cons (.int .i64) (.cons (.int .i64) (.cons a3P (.cons a1T (.cons a1T (.cons (.int .u64) (.cons a1T (.cons a1T (.cons (.sl a0O) .nil))))))))
abbrev a1H:Ty:=.cons (.int .i64) (.cons a1R (.cons a0O (.cons (.int .u64) (.cons (.int .i64) (.cons a1T (.cons (.int .u64) (.cons a7K .nil)))))))
abbrev a1J:Ty:=.cons (.int .u64) (.cons a0P (.cons a1Q (.cons (.int .u64) (.cons a1A (.cons .opq (.cons (.sl a0O) (.cons .opq .nil)))))))
abbrev a8D:Ty:=.cons (.int .u64) (.cons a0P (.cons a1Q (.cons (.int .u64) (.cons a1A (.cons (.sl a0X) (.cons (.arr 4 a1T) (.cons (.sl a0O) (.cons (.sl .bool) (.cons a1T (.cons (.sl a0Y) .nil))))))))))
abbrev a0F:List BSh:=[.box a1J (.pair (.pl (.int .u64)) (.pair (.pl a0P) (.pair (.pl a1Q) (.pair (.pl (.int .u64)) (.pair (.pl a1A) (.pair (.ptr 1 []) (.pair (.whole 3) (.pair (.ptr 2 []) (.pl .nil))))))))),.box a0K (.pair (.whole 4) (.pl (.cons (.arr 4 a1T) .nil))),.box a0R (.pair (.pl a1T) (.pair (.whole 5) (.pair (.whole 6) (.pair (.whole 7) (.pl .nil))))),.row a0O,.row a0X,.row (.arr 32 (.int .u8)),.row (.int .u64),.row a0Y]
abbrev a2P:List BSh:=[.box a0R (.pair (.pl a1T) (.pair (.whole 1) (.pair (.whole 2) (.pair (.whole 3) (.pl .nil))))),.row (.arr 32 (.int .u8)),.row (.int .u64),.row a0Y]
abbrev a0L:List BSh:=[.box a0K (.pair (.whole 1) (.pl (.cons (.arr 4 a1T) .nil))),.row a0X]
def b7L (K:Nat) (x:(⟨[],[]⟩:Tm).D):Option (⟨[.pl a0P],[]⟩:Tm).D :=
 some (((I.of .u64 7000000,(I.of .u64 10,(I.of .u64 102,((I.of .u64 100000000,(I.of .u64 0,(I.of .u64 0,(I.of .u64 0,())))),(I.of .u64 32000000,((I.of .u64 60000000,(I.of .u64 0,(I.of .u64 0,(I.of .u64 0,())))),(I.of .u64 1000,((I.of .u64 10,(I.of .u64 0,(I.of .u64 0,(I.of .u64 0,())))),(I.of .u64 160000000,(I.of .u64 10,(I.of .u64 16,(I.of .u64 65536,())))))))))))),()),())
def a9Y (K:Nat) (x:(⟨[.pl (.int .u64),.pl (.int .u64),.pl (.int .u64)],[]⟩:Tm).D):Option (⟨[.pl (.int .u64)],[]⟩:Tm).D :=
 let a:(I .u64):=x.1.1
 let b:(I .u64):=x.1.2.1
 let c:(I .u64):=x.1.2.2.1
 optF none (a0H K ((a,()),())) fun y0=>optF none (a0H K ((b,()),())) fun y1=>optF none (a0H K ((c,()),())) fun y2=>optF none (a1W K ((y1.1.1,(y2.1.1,())),())) fun y3=>optF none (a2S K ((y0.1.1,(y3.1.1,())),())) fun y4=>brn (I.leb y4.1.1 (I.of .i64 0)) (some ((I.of .u64 0,()),())) (optF none (a2M K ((y0.1.1,(y3.1.1,())),())) fun y5=>optF none (a0Q K ((y5.1.1,()),())) fun y6=>some ((y6.1.1.1,()),()))
def b0U (K:Nat) (x:(⟨[.pl (.int .u64),.pl (.int .u64),.pl (.int .u64)],[]⟩:Tm).D):Option (⟨[.pl (.int .u64)],[]⟩:Tm).D :=
 let a:(I .u64):=x.1.1
 let b:(I .u64):=x.1.2.1
 let c:(I .u64):=x.1.2.2.1
 optF none (a9Y K ((a,(b,(c,()))),())) fun y0=>some ((y0.1.1,()),())
def a8W (K:Nat) (x:(⟨[.pl (.int .u64),.pl a0P],[]⟩:Tm).D):Option (⟨[.pl (.int .u64),.pl (.int .i64)],[]⟩:Tm).D :=
 let a:(I .u64):=x.1.1
 let b:a3E:=x.1.2.1
 optF none (a3L K ((b,()),())) fun y0=>brn (a5Q y0.1.1) (some ((I.of .u64 0,(I.of .i64 15,())),())) (optF none (b0U K ((a,(b.1,(b.2.1,()))),())) fun y1=>optF none (a0H K ((y1.1.1,()),())) fun y2=>optF none (a0H K ((I.of .u64 10000,()),())) fun y3=>optF none (a1W K ((y2.1.1,(y3.1.1,())),())) fun y4=>optF none (a0H K ((b.2.2.1,()),())) fun y5=>optF none (a0H K ((b.1,()),())) fun y6=>optF none (a1W K ((y5.1.1,(y6.1.1,())),())) fun y7=>optF none (a3J K ((y4.1.1,(y7.1.1,())),())) fun y8=>optF none (a0H K ((I.of .u64 200000,()),())) fun y9=>optF none (a4J K ((y8.1.1,(y9.1.1,())),())) fun y10=>optF none (a0Q K ((y10.1.1,()),())) fun y11=>some ((y11.1.1.1,(I.of .i64 0,())),()))
def b4X (K:Nat) (x:(⟨[.pl (.int .u64),.pl (.int .i64)],[]⟩:Tm).D):Option (⟨[.pl (.int .u64),.pl (.int .i64)],[]⟩:Tm).D :=
 let a:(I .u64):=x.1.1
 let b:(I .i64):=x.1.2.1
 jn (fun (x0:(((I .u64) × ((I .i64) × Unit)) × Unit))=>optF none (a0H K ((I.of .u64 10000,()),())) fun y1=>iter none (fun x2=>brn (I.leb (I.of .i64 1) x2.1.2.2.1) (optF (.done none) (a0H K ((x2.1.1,()),())) fun y3=>optF (.done none) (a1W K ((x2.1.2.1,(y3.1.1,())),())) fun y4=>optF (.done none) (a0H K (((I.conv (k:=.i64) .u64 x2.1.2.2.1),()),())) fun y5=>optF (.done none) (a0H K ((I.of .u64 10000,()),())) fun y6=>optF (.done none) (a1W K ((y5.1.1,(y6.1.1,())),())) fun y7=>optF (.done none) (a3J K ((y4.1.1,(y7.1.1,())),())) fun y8=>optF (.done none) (a0H K ((I.of .u64 10000,()),())) fun y9=>optF (.done none) (a1I K ((y9.1.1,(y8.1.1,())),())) fun y10=>.again ((x2.1.1,(y10.1.1,((I.sub x2.1.2.2.1 (I.of .i64 1)),()))),())) (.done (optF none (a0Q K ((x2.1.2.1,()),())) fun y3=>some ((y3.1.1.1,(I.of .i64 0,())),())))) K ((x0.1.1,(y1.1.1,(x0.1.2.1,()))),())) fun j0=>brn (I.ltb (I.of .u64 200000) a) (some ((I.of .u64 0,(I.of .i64 2,())),())) (brn (I.ltb b (I.of .i64 1)) (some ((I.of .u64 0,(I.of .i64 2,())),())) (brn (I.ltb (I.of .i64 20) b) (some ((I.of .u64 0,(I.of .i64 2,())),())) (j0 ((a,(b,())),()))))
def b2U (K:Nat) (x:(⟨[.pl a1T,.pl (.int .u64)],[]⟩:Tm).D):Option (⟨[.pl a1T,.pl (.int .i64)],[]⟩:Tm).D :=
 let a:U:=x.1.1
 let b:(I .u64):=x.1.2.1
 optF none (a0C K ((a,()),())) fun y0=>optF none (a0H K ((b,()),())) fun y1=>optF none (a1W K ((y0.1.1,(y1.1.1,())),())) fun y2=>optF none (a0H K ((I.of .u64 10000,()),())) fun y3=>optF none (a3J K ((y2.1.1,(y3.1.1,())),())) fun y4=>optF none (a2K K ((y4.1.1,()),())) fun y5=>some ((y5.1.1,(y5.1.2.1,())),())
def a9Q (K:Nat) (x:(⟨[.pl a1T,.pl (.int .u64),.pl (.int .i64)],[]⟩:Tm).D):Option (⟨[.pl a1T,.pl (.int .i64)],[]⟩:Tm).D :=
 let a:U:=x.1.1
 let b:(I .u64):=x.1.2.1
 let c:(I .i64):=x.1.2.2.1
 optF none (b4X K ((b,(c,())),())) fun y0=>brn (I.neb y0.1.2.1 (I.of .i64 0)) (some ((Z_U,(y0.1.2.1,())),())) (optF none (b2U K ((a,(y0.1.1,())),())) fun y1=>some ((y1.1.1,(y1.1.2.1,())),()))
def b0W (K:Nat) (x:(⟨[.pl (.int .u64),.pl a0P],[]⟩:Tm).D):Option (⟨[.pl a1T,.pl (.int .i64)],[]⟩:Tm).D :=
 let a:(I .u64):=x.1.1
 let b:a3E:=x.1.2.1
 optF none (a8W K ((a,(b,())),())) fun y0=>brn (I.neb y0.1.2.1 (I.of .i64 0)) (some ((Z_U,(y0.1.2.1,())),())) (optF none (a9Q K ((b.2.2.2.1,(y0.1.1,(I.of .i64 10,()))),())) fun y1=>some ((y1.1.1,(y1.1.2.1,())),()))
def b7N (K:Nat) (x:(⟨[.pl a0P],[]⟩:Tm).D):Option (⟨[.pl a1Q,.pl (.int .i64)],[]⟩:Tm).D :=
 let a:a3E:=x.1.1
 optF none (b0W K ((I.of .u64 0,(a,())),())) fun y0=>brn (I.neb y0.1.2.1 (I.of .i64 0)) (some ((a4R,(y0.1.2.1,())),())) (some (((I.of .u64 1,(I.of .u64 0,(I.of .u64 0,(y0.1.1,())))),(I.of .i64 0,())),()))
def c3C (K:Nat) (x:(⟨[],[]⟩:Tm).D):Option (⟨[.ptr 0 []],a0L⟩:Tm).D :=
 some ((),(((),(c5G,())),([],())))
def c3D (K:Nat) (x:(⟨[],[]⟩:Tm).D):Option (⟨[.ptr 0 []],a2P⟩:Tm).D :=
 some ((),((Z_U,((),((),((),())))),([],([],([],())))))
def b4F (K:Nat) (x:(⟨[],[]⟩:Tm).D):Option (⟨[.ptr 0 []],a0F⟩:Tm).D :=
 optF none (b7L K ((),())) fun y0=>optF none (b7N K ((y0.1.1,()),())) fun y1=>optF none (b7V K ((),())) fun y2=>optF none (c3C K ((),())) fun y3=>optF none (c3D K ((),())) fun y4=>some ((),((I.of .u64 0,(y0.1.1,(y1.1.1,(I.of .u64 0,(y2.1.1,((),((),((),())))))))),(y3.2.1,(y4.2.1,([],(y3.2.2.1,(y4.2.2.1,(y4.2.2.2.1,(y4.2.2.2.2.1,())))))))))
def b1G (K:Nat) (x:(⟨[],[]⟩:Tm).D):Option (⟨[.whole 0],[.row a1H]⟩:Tm).D :=
 iter none (fun (x0:(((I .u64) × Unit) × ((List a1D) × Unit)))=>brn (I.ltb x0.1.1 (I.of .u64 5)) (brn (a1G (@a0I a1D (@a2B a1D x0.2.1 ((I.of .i64 6,((I.of .u64 0,(I.of .u64 0,(I.of .u64 0,(Z_U,(I.of .u64 0,(Z_U,(Z_U,(I.of .u64 0,([],()))))))))),(a0M,(I.of .u64 0,(I.of .i64 0,((I.of .u64 288230376151711744,(I.of .u64 0,(I.of .u64 0,(I.of .u64 0,())))),(x0.1.1,((I.of .u64 0,(I.of .u64 0,(I.of .u64 0,(Z_U,([],()))))),()))))))))::[])))) (.again (((I.add x0.1.1 (I.of .u64 1)),()),((@a2B a1D x0.2.1 ((I.of .i64 6,((I.of .u64 0,(I.of .u64 0,(I.of .u64 0,(Z_U,(I.of .u64 0,(Z_U,(Z_U,(I.of .u64 0,([],()))))))))),(a0M,(I.of .u64 0,(I.of .i64 0,((I.of .u64 288230376151711744,(I.of .u64 0,(I.of .u64 0,(I.of .u64 0,())))),(x0.1.1,((I.of .u64 0,(I.of .u64 0,(I.of .u64 0,(Z_U,([],()))))),()))))))))::[])),()))) (.done none)) (.done (iter none (fun x1=>brn (I.ltb x1.1.1 (I.of .u64 8)) (brn (a1G (@a0I a1D (@a2B a1D x1.2.1 ((I.of .i64 5,((I.of .u64 0,(I.of .u64 0,(I.of .u64 0,(Z_U,(I.of .u64 0,(Z_U,(Z_U,(I.of .u64 0,([],()))))))))),(a0M,(I.of .u64 0,(I.of .i64 0,(Z_U,(x1.1.1,((I.of .u64 0,(I.of .u64 0,(I.of .u64 0,(Z_U,([],()))))),()))))))))::[])))) (.again (((I.add x1.1.1 (I.of .u64 1)),()),((@a2B a1D x1.2.1 ((I.of .i64 5,((I.of .u64 0,(I.of .u64 0,(I.of .u64 0,(Z_U,(I.of .u64 0,(Z_U,(Z_U,(I.of .u64 0,([],()))))))))),(a0M,(I.of .u64 0,(I.of .i64 0,(Z_U,(x1.1.1,((I.of .u64 0,(I.of .u64 0,(I.of .u64 0,(Z_U,([],()))))),()))))))))::[])),()))) (.done none)) (.done (brn (a1G (@a0I a1D (@a2B a1D x1.2.1 ((I.of .i64 3,((I.of .u64 0,(I.of .u64 0,(I.of .u64 0,(Z_U,(I.of .u64 0,(Z_U,(Z_U,(I.of .u64 0,([],()))))))))),(a0M,(I.of .u64 12,(I.of .i64 0,(Z_U,(I.of .u64 0,((I.of .u64 0,(I.of .u64 0,(I.of .u64 0,(Z_U,([],()))))),()))))))))::[])))) (some ((),((@a2B a1D x1.2.1 ((I.of .i64 3,((I.of .u64 0,(I.of .u64 0,(I.of .u64 0,(Z_U,(I.of .u64 0,(Z_U,(Z_U,(I.of .u64 0,([],()))))))))),(a0M,(I.of .u64 12,(I.of .i64 0,(Z_U,(I.of .u64 0,((I.of .u64 0,(I.of .u64 0,(I.of .u64 0,(Z_U,([],()))))),()))))))))::[])),()))) none))) K ((I.of .u64 5,()),(x0.2.1,()))))) K ((I.of .u64 1,()),([],()))
def a8I (K:Nat) (x:(⟨[.pl (.int .i64)],[]⟩:Tm).D):Option (⟨[.pl .bool],[]⟩:Tm).D :=
 let a:(I .i64):=x.1.1
 brn (I.leb (I.of .i64 1) a) (some (((I.leb a (I.of .i64 7)),()),())) (some ((false,()),()))
def a6H (K:Nat) (x:(⟨[.bp a0K,.pl (.int .u64)],[]⟩:Tm).D):Option (⟨[.pl (.int .i64)],[]⟩:Tm).D :=
 let a:a2X:=x.1.1
 let b:(I .u64):=x.1.2.1
 iter none (fun x0=>brn (I.ltb x0.1.2.2.1 (I.ofNat .i64 (@a0I a0E x0.1.1.1))) (brn (inB x0.1.2.2.1 (@a0I a0E x0.1.1.1)) (brn (I.eqb (@rdL a0E a5B x0.1.1.1 (I.nat x0.1.2.2.1)).1 x0.1.2.1) (.done (some ((x0.1.2.2.1,()),()))) (.again ((x0.1.1,(x0.1.2.1,((I.add x0.1.2.2.1 (I.of .i64 1)),()))),()))) (.done none)) (.done (some (((I.of .i64 (-1)),()),())))) K ((a,(b,(I.of .i64 0,()))),())
def a2Y (K:Nat) (x:(⟨[.bp a0K,.pl (.int .u64)],[]⟩:Tm).D):Option (⟨[.pl a0X],[]⟩:Tm).D :=
 let a:a2X:=x.1.1
 let b:(I .u64):=x.1.2.1
 optF none (a6H K ((a,(b,())),())) fun y0=>brn (I.leb (I.of .i64 0) y0.1.1) (brn (inB y0.1.1 (@a0I a0E a.1)) (some (((@rdL a0E a5B a.1 (I.nat y0.1.1)),()),())) none) (some (((b,(Z_U,(I.of .u64 0,()))),()),()))
def a6U (K:Nat) (x:(⟨[.pl a1Q,.pl a0P],[]⟩:Tm).D):Option (⟨[.pl (.int .u64)],[]⟩:Tm).D :=
 let a:a9K:=x.1.1
 let b:a3E:=x.1.2.1
 brn (I.ltb b.2.2.2.2.1 a.2.2.1) (some ((I.of .u64 0,()),())) (some (((I.sub b.2.2.2.2.1 a.2.2.1),()),()))
def a6D (K:Nat) (x:(⟨[.ptr 0 [],.pl a1R],a0F⟩:Tm).D):Option (⟨[.pl a1T,.pl (.int .i64)],a0F⟩:Tm).D :=
 let a:a7T:=x.1.1
 let h0:a0W:=x.2.1
 let h1:a0N:=x.2.2.1
 let h2:a0U:=x.2.2.2.1
 let h3:(List a0B):=x.2.2.2.2.1
 let h4:(List a0E):=x.2.2.2.2.2.1
 let h5:(List a0G):=x.2.2.2.2.2.2.1
 let h6:(List (I .u64)):=x.2.2.2.2.2.2.2.1
 let h7:(List a0D):=x.2.2.2.2.2.2.2.2.1
 brn (I.ltb (I.of .i64 4096) (I.ofNat .i64 (@a0I (I .u8) a.2.2.2.2.2.2.2.2.1))) (some ((Z_U,(I.of .i64 6,())),(h0,(h1,(h2,(h3,(h4,(h5,(h6,(h7,())))))))))) (jn (fun (x0:(Unit × (a0W × (a0N × ((List a0E) × ((List a0B) × (a0U × ((List a0G) × ((List (I .u64)) × ((List a0D) × (a7T × (U × (U × Unit)))))))))))))=>optF none (a2Y K (((x0.2.2.2.1,x0.2.2.1.2),(x0.2.2.2.2.2.2.2.2.2.1.1,())),())) fun y1=>brn (I.neb x0.2.2.2.2.2.2.2.2.2.1.2.1 y1.1.1.2.2.1) (some ((x0.2.2.2.2.2.2.2.2.2.2.2.1,(I.of .i64 11,())),(x0.2.1,(x0.2.2.1,(x0.2.2.2.2.2.1,(x0.2.2.2.2.1,(x0.2.2.2.1,(x0.2.2.2.2.2.2.1,(x0.2.2.2.2.2.2.2.1,(x0.2.2.2.2.2.2.2.2.1,())))))))))) (brn (I.eqb (I.add y1.1.1.2.2.1 (I.of .u64 1)) (I.of .u64 0)) (some ((x0.2.2.2.2.2.2.2.2.2.2.2.1,(I.of .i64 4,())),(x0.2.1,(x0.2.2.1,(x0.2.2.2.2.2.1,(x0.2.2.2.2.1,(x0.2.2.2.1,(x0.2.2.2.2.2.2.1,(x0.2.2.2.2.2.2.2.1,(x0.2.2.2.2.2.2.2.2.1,())))))))))) (optF none (a8X K ((x0.2.2.2.2.2.2.2.2.2.1,(x0.2.1.2.2.1.2.2.2.1,())),())) fun y2=>brn (I.neb y2.1.2.1 (I.of .i64 0)) (some ((x0.2.2.2.2.2.2.2.2.2.2.2.1,(y2.1.2.1,())),(x0.2.1,(x0.2.2.1,(x0.2.2.2.2.2.1,(x0.2.2.2.2.1,(x0.2.2.2.1,(x0.2.2.2.2.2.2.1,(x0.2.2.2.2.2.2.2.1,(x0.2.2.2.2.2.2.2.2.1,())))))))))) (optF none (a6U K ((x0.2.1.2.2.1,(x0.2.1.2.1,())),())) fun y3=>brn (I.ltb y3.1.1 x0.2.2.2.2.2.2.2.2.2.1.2.2.2.2.1) (some ((x0.2.2.2.2.2.2.2.2.2.2.2.1,(I.of .i64 13,())),(x0.2.1,(x0.2.2.1,(x0.2.2.2.2.2.1,(x0.2.2.2.2.1,(x0.2.2.2.1,(x0.2.2.2.2.2.2.1,(x0.2.2.2.2.2.2.2.1,(x0.2.2.2.2.2.2.2.2.1,())))))))))) (optF none (b0Q K ((x0.2.2.2.2.2.2.2.2.2.1,(y2.1.1,(y1.1.1.2.1,()))),())) fun y4=>brn (a5Q y4.1.1) (some ((x0.2.2.2.2.2.2.2.2.2.2.2.1,(I.of .i64 10,())),(x0.2.1,(x0.2.2.1,(x0.2.2.2.2.2.1,(x0.2.2.2.2.1,(x0.2.2.2.1,(x0.2.2.2.2.2.2.1,(x0.2.2.2.2.2.2.2.1,(x0.2.2.2.2.2.2.2.2.1,())))))))))) (some ((y2.1.1,(I.of .i64 0,())),(x0.2.1,(x0.2.2.1,(x0.2.2.2.2.2.1,(x0.2.2.2.2.1,(x0.2.2.2.1,(x0.2.2.2.2.2.2.1,(x0.2.2.2.2.2.2.2.1,(x0.2.2.2.2.2.2.2.2.1,()))))))))))))))) fun j0=>brn (I.eqb a.1 (I.of .u64 0)) (some ((Z_U,(I.of .i64 2,())),(h0,(h1,(h2,(h3,(h4,(h5,(h6,(h7,())))))))))) (brn (I.eqb a.2.2.1 (I.of .u64 0)) (some ((Z_U,(I.of .i64 2,())),(h0,(h1,(h2,(h3,(h4,(h5,(h6,(h7,())))))))))) (brn (I.eqb a.1 (I.of .u64 18446744073709551615)) (some ((Z_U,(I.of .i64 2,())),(h0,(h1,(h2,(h3,(h4,(h5,(h6,(h7,())))))))))) (j0 ((),(h0,(h1,(h4,(h3,(h2,(h5,(h6,(h7,(a,(Z_U,(Z_U,()))))))))))))))))
def a4Q (K:Nat) (x:(⟨[.ptr 0 [],.pl a0X],a0L⟩:Tm).D):Option (⟨[],a0L⟩:Tm).D :=
 let a:a0E:=x.1.1
 let h0:a0N:=x.2.1
 let h1:(List a0E):=x.2.2.1
 optF none (a6H K (((h1,h0.2),(a.1,())),())) fun y0=>brn (I.leb (I.of .i64 0) y0.1.1) (brn (inB y0.1.1 (@a0I a0E h1)) (some ((),(h0,((@c1V a0E h1 (I.nat y0.1.1) a),())))) none) (brn (a1G (@a0I a0E (@a2B a0E h1 (a::[])))) (some ((),(h0,((@a2B a0E h1 (a::[])),())))) none)
def a3U (K:Nat) (x:(⟨[.ptr 0 [],.pl (.int .u64),.pl a1T],a0L⟩:Tm).D):Option (⟨[.pl .bool],a0L⟩:Tm).D :=
 let a:(I .u64):=x.1.1
 let b:U:=x.1.2.1
 let h0:a0N:=x.2.1
 let h1:(List a0E):=x.2.2.1
 optF none (a2Y K (((h1,h0.2),(a,())),())) fun y0=>optF none (a4X K ((y0.1.1.2.1,(b,())),())) fun y1=>brn (I.neb y1.1.2.1 (I.of .i64 0)) (some ((false,()),(h0,(h1,())))) (optF none (a4Q K (((y0.1.1.1,(y1.1.1,y0.1.1.2.2)),()),(h0,(h1,())))) fun y2=>some ((true,()),(y2.2.1,(y2.2.2.1,()))))
def a2O (K:Nat) (x:(⟨[.ptr 0 [],.pl (.int .u64),.pl (.int .i64),.pl a1T],a0L⟩:Tm).D):Option (⟨[.pl (.int .i64)],a0L⟩:Tm).D :=
 let a:(I .u64):=x.1.1
 let b:(I .i64):=x.1.2.1
 let c:U:=x.1.2.2.1
 let h0:a0N:=x.2.1
 let h1:(List a0E):=x.2.2.1
 jn (fun (x0:(((I .u64) × ((I .i64) × Unit)) × (a0N × ((List a0E) × (U × Unit)))))=>optF none (a3U K ((x0.1.1,(x0.2.2.2.1,())),(x0.2.1,(x0.2.2.1,())))) fun y1=>brn (a5Q y1.1.1) (some ((I.of .i64 10,()),(y1.2.1,(y1.2.2.1,())))) (brn (inB (I.sub x0.1.2.1 (I.of .i64 1)) 4) (optF none (a0C K (((@Arr.sel U Z_U 4 y1.2.1.2.1 (I.nat (I.sub x0.1.2.1 (I.of .i64 1)))),()),())) fun y2=>optF none (a0C K ((x0.2.2.2.1,()),())) fun y3=>optF none (a1I K ((y2.1.1,(y3.1.1,())),())) fun y4=>optF none (a0Q K ((y4.1.1,()),())) fun y5=>brn (inB (I.sub x0.1.2.1 (I.of .i64 1)) 4) (some ((I.of .i64 0,()),(((),((@Arr.upd U 4 y1.2.1.2.1 (I.nat (I.sub x0.1.2.1 (I.of .i64 1))) y5.1.1),y1.2.1.2.2)),(y1.2.2.1,())))) none) none)) fun j0=>brn (I.eqb a (I.of .u64 0)) (some ((I.of .i64 2,()),(h0,(h1,())))) (brn (I.ltb b (I.of .i64 1)) (some ((I.of .i64 2,()),(h0,(h1,())))) (brn (I.ltb (I.of .i64 4) b) (some ((I.of .i64 2,()),(h0,(h1,())))) (j0 ((a,(b,())),(h0,(h1,(c,())))))))
def a3T (K:Nat) (x:(⟨[.ptr 0 [],.pl (.int .u64)],a0L⟩:Tm).D):Option (⟨[.pl (.int .i64)],a0L⟩:Tm).D :=
 let a:(I .u64):=x.1.1
 let h0:a0N:=x.2.1
 let h1:(List a0E):=x.2.2.1
 brn (I.eqb a (I.of .u64 0)) (some ((I.of .i64 2,()),(h0,(h1,())))) (optF none (a2Y K (((h1,h0.2),(a,())),())) fun y0=>brn (I.eqb (I.add y0.1.1.2.2.1 (I.of .u64 1)) (I.of .u64 0)) (some ((I.of .i64 4,()),(h0,(h1,())))) (optF none (a4Q K (((y0.1.1.1,(y0.1.1.2.1,((I.add y0.1.1.2.2.1 (I.of .u64 1)),y0.1.1.2.2.2))),()),(h0,(h1,())))) fun y1=>some ((I.of .i64 0,()),(y1.2.1,(y1.2.2.1,())))))
def a8R (K:Nat) (x:(⟨[.pl (.int .u64),.pl (.int .u64)],[]⟩:Tm).D):Option (⟨[.pl (.int .u64)],[]⟩:Tm).D :=
 let a:(I .u64):=x.1.1
 let b:(I .u64):=x.1.2.1
 optF none (a0H K ((a,()),())) fun y0=>optF none (a0H K ((b,()),())) fun y1=>optF none (a1I K ((y0.1.1,(y1.1.1,())),())) fun y2=>optF none (a0Q K ((y2.1.1,()),())) fun y3=>optF none (a7D K ((y3.1.1,()),())) fun y4=>brn (a5Q y4.1.2.1) (some ((I.of .u64 18446744073709551615,()),())) (some ((y4.1.1,()),()))
def a4T (K:Nat) (x:(⟨[.ptr 0 [],.pl (.int .u64),.pl a1T],a0L⟩:Tm).D):Option (⟨[],a0L⟩:Tm).D :=
 let a:(I .u64):=x.1.1
 let b:U:=x.1.2.1
 let h0:a0N:=x.2.1
 let h1:(List a0E):=x.2.2.1
 optF none (a2Y K (((h1,h0.2),(a,())),())) fun y0=>optF none (a0C K ((y0.1.1.2.1,()),())) fun y1=>optF none (a0C K ((b,()),())) fun y2=>optF none (a1I K ((y1.1.1,(y2.1.1,())),())) fun y3=>optF none (a0Q K ((y3.1.1,()),())) fun y4=>optF none (a4Q K (((y0.1.1.1,(y4.1.1,y0.1.1.2.2)),()),(h0,(h1,())))) fun y5=>some ((),(y5.2.1,(y5.2.2.1,())))
def a5M (K:Nat) (x:(⟨[.ptr 0 [],.pl (.int .u64),.pl (.int .u64),.pl a1T],a0L⟩:Tm).D):Option (⟨[.pl (.int .i64)],a0L⟩:Tm).D :=
 let a:(I .u64):=x.1.1
 let b:(I .u64):=x.1.2.1
 let c:U:=x.1.2.2.1
 let h0:a0N:=x.2.1
 let h1:(List a0E):=x.2.2.1
 jn (fun (x0:(((I .u64) × ((I .u64) × Unit)) × (a0N × ((List a0E) × (U × Unit)))))=>optF none (a3U K ((x0.1.1,(x0.2.2.2.1,())),(x0.2.1,(x0.2.2.1,())))) fun y1=>brn (a5Q y1.1.1) (some ((I.of .i64 10,()),(y1.2.1,(y1.2.2.1,())))) (optF none (a4T K ((x0.1.2.1,(x0.2.2.2.1,())),(y1.2.1,(y1.2.2.1,())))) fun y2=>some ((I.of .i64 0,()),(y2.2.1,(y2.2.2.1,()))))) fun j0=>brn (I.eqb a (I.of .u64 0)) (some ((I.of .i64 2,()),(h0,(h1,())))) (brn (I.eqb b (I.of .u64 0)) (some ((I.of .i64 2,()),(h0,(h1,())))) (j0 ((a,(b,())),(h0,(h1,(c,()))))))
def a5L (K:Nat) (x:(⟨[.ptr 0 [],.pl (.int .u64),.pl a1T],a0L⟩:Tm).D):Option (⟨[.pl (.int .i64)],a0L⟩:Tm).D :=
 let a:(I .u64):=x.1.1
 let b:U:=x.1.2.1
 let h0:a0N:=x.2.1
 let h1:(List a0E):=x.2.2.1
 brn (I.eqb a (I.of .u64 0)) (some ((I.of .i64 2,()),(h0,(h1,())))) (optF none (a3U K ((a,(b,())),(h0,(h1,())))) fun y0=>brn (a5Q y0.1.1) (some ((I.of .i64 10,()),(y0.2.1,(y0.2.2.1,())))) (some ((I.of .i64 0,()),(y0.2.1,(y0.2.2.1,())))))
def c1I (K:Nat) (x:(⟨[],[]⟩:Tm).D):Option (⟨[.pl (.arr 64 (.int .u32))],[]⟩:Tm).D :=
 some (((I.of .u32 1116352408,(I.of .u32 1899447441,(I.of .u32 3049323471,(I.of .u32 3921009573,(I.of .u32 961987163,(I.of .u32 1508970993,(I.of .u32 2453635748,(I.of .u32 2870763221,(I.of .u32 3624381080,(I.of .u32 310598401,(I.of .u32 607225278,(I.of .u32 1426881987,(I.of .u32 1925078388,(I.of .u32 2162078206,(I.of .u32 2614888103,(I.of .u32 3248222580,(I.of .u32 3835390401,(I.of .u32 4022224774,(I.of .u32 264347078,(I.of .u32 604807628,(I.of .u32 770255983,(I.of .u32 1249150122,(I.of .u32 1555081692,(I.of .u32 1996064986,(I.of .u32 2554220882,(I.of .u32 2821834349,(I.of .u32 2952996808,(I.of .u32 3210313671,(I.of .u32 3336571891,(I.of .u32 3584528711,(I.of .u32 113926993,(I.of .u32 338241895,(I.of .u32 666307205,(I.of .u32 773529912,(I.of .u32 1294757372,(I.of .u32 1396182291,(I.of .u32 1695183700,(I.of .u32 1986661051,(I.of .u32 2177026350,(I.of .u32 2456956037,(I.of .u32 2730485921,(I.of .u32 2820302411,(I.of .u32 3259730800,(I.of .u32 3345764771,(I.of .u32 3516065817,(I.of .u32 3600352804,(I.of .u32 4094571909,(I.of .u32 275423344,(I.of .u32 430227734,(I.of .u32 506948616,(I.of .u32 659060556,(I.of .u32 883997877,(I.of .u32 958139571,(I.of .u32 1322822218,(I.of .u32 1537002063,(I.of .u32 1747873779,(I.of .u32 1955562222,(I.of .u32 2024104815,(I.of .u32 2227730452,(I.of .u32 2361852424,(I.of .u32 2428436474,(I.of .u32 2756734187,(I.of .u32 3204031479,(I.of .u32 3329325298,())))))))))))))))))))))))))))))))))))))))))))))))))))))))))))))))),()),())
def a2Q (K:Nat) (x:(⟨[.pl (.int .u32),.pl (.int .u64)],[]⟩:Tm).D):Option (⟨[.pl (.int .u32)],[]⟩:Tm).D :=
 let a:(I .u32):=x.1.1
 let b:(I .u64):=x.1.2.1
 brn (I.nn b) (brn (I.nn (I.sub (I.of .u64 32) b)) (some (((I.or (I.shr a b) (I.shl a (I.sub (I.of .u64 32) b))),()),())) none) none
def b3D (K:Nat) (x:(⟨[.pl (.arr 8 (.int .u32)),.pl (.sl (.int .u8))],[]⟩:Tm).D):Option (⟨[.pl (.arr 8 (.int .u32))],[]⟩:Tm).D :=
 let a:b5V:=x.1.1
 let b:(List (I .u8)):=x.1.2.1
 optF none (c1I K ((),())) fun y0=>iter none (fun x1=>brn (I.ltb x1.1.2.1 (I.of .i64 64)) (brn (I.ltb x1.1.2.1 (I.of .i64 16)) (brn (inB (I.mul (I.of .i64 4) x1.1.2.1) (@a0I (I .u8) x1.1.1)) (brn (inB (I.add (I.mul (I.of .i64 4) x1.1.2.1) (I.of .i64 1)) (@a0I (I .u8) x1.1.1)) (brn (inB (I.add (I.mul (I.of .i64 4) x1.1.2.1) (I.of .i64 2)) (@a0I (I .u8) x1.1.1)) (brn (inB (I.add (I.mul (I.of .i64 4) x1.1.2.1) (I.of .i64 3)) (@a0I (I .u8) x1.1.1)) (brn (inB x1.1.2.1 64) (.again ((x1.1.1,((I.add x1.1.2.1 (I.of .i64 1)),())),(x1.2.1,(x1.2.2.1,(x1.2.2.2.1,((@Arr.upd (I .u32) 64 x1.2.2.2.2.1 (I.nat x1.1.2.1) (I.add (I.add (I.add (I.shl (I.conv (k:=.u8) .u32 (@rdL (I .u8) (I.of .u8 0) x1.1.1 (I.nat (I.mul (I.of .i64 4) x1.1.2.1)))) (I.of .u64 24)) (I.shl (I.conv (k:=.u8) .u32 (@rdL (I .u8) (I.of .u8 0) x1.1.1 (I.nat (I.add (I.mul (I.of .i64 4) x1.1.2.1) (I.of .i64 1))))) (I.of .u64 16))) (I.shl (I.conv (k:=.u8) .u32 (@rdL (I .u8) (I.of .u8 0) x1.1.1 (I.nat (I.add (I.mul (I.of .i64 4) x1.1.2.1) (I.of .i64 2))))) (I.of .u64 8))) (I.conv (k:=.u8) .u32 (@rdL (I .u8) (I.of .u8 0) x1.1.1 (I.nat (I.add (I.mul (I.of .i64 4) x1.1.2.1) (I.of .i64 3))))))),())))))) (.done none)) (.done none)) (.done none)) (.done none)) (.done none)) (brn (inB (I.sub x1.1.2.1 (I.of .i64 15)) 64) (brn (inB (I.sub x1.1.2.1 (I.of .i64 2)) 64) (brn (inB (I.sub x1.1.2.1 (I.of .i64 16)) 64) (optF (.done none) (a2Q K (((@Arr.sel (I .u32) (I.of .u32 0) 64 x1.2.2.2.2.1 (I.nat (I.sub x1.1.2.1 (I.of .i64 15)))),(I.of .u64 7,())),())) fun y2=>optF (.done none) (a2Q K (((@Arr.sel (I .u32) (I.of .u32 0) 64 x1.2.2.2.2.1 (I.nat (I.sub x1.1.2.1 (I.of .i64 15)))),(I.of .u64 18,())),())) fun y3=>brn (inB (I.sub x1.1.2.1 (I.of .i64 7)) 64) (optF (.done none) (a2Q K (((@Arr.sel (I .u32) (I.of .u32 0) 64 x1.2.2.2.2.1 (I.nat (I.sub x1.1.2.1 (I.of .i64 2)))),(I.of .u64 17,())),())) fun y4=>optF (.done none) (a2Q K (((@Arr.sel (I .u32) (I.of .u32 0) 64 x1.2.2.2.2.1 (I.nat (I.sub x1.1.2.1 (I.of .i64 2)))),(I.of .u64 19,())),())) fun y5=>brn (inB x1.1.2.1 64) (.again ((x1.1.1,((I.add x1.1.2.1 (I.of .i64 1)),())),(x1.2.1,(x1.2.2.1,(x1.2.2.2.1,((@Arr.upd (I .u32) 64 x1.2.2.2.2.1 (I.nat x1.1.2.1) (I.add (I.add (I.add (@Arr.sel (I .u32) (I.of .u32 0) 64 x1.2.2.2.2.1 (I.nat (I.sub x1.1.2.1 (I.of .i64 16)))) (I.xor (I.xor y2.1.1 y3.1.1) (I.shr (@Arr.sel (I .u32) (I.of .u32 0) 64 x1.2.2.2.2.1 (I.nat (I.sub x1.1.2.1 (I.of .i64 15)))) (I.of .u64 3)))) (@Arr.sel (I .u32) (I.of .u32 0) 64 x1.2.2.2.2.1 (I.nat (I.sub x1.1.2.1 (I.of .i64 7))))) (I.xor (I.xor y4.1.1 y5.1.1) (I.shr (@Arr.sel (I .u32) (I.of .u32 0) 64 x1.2.2.2.2.1 (I.nat (I.sub x1.1.2.1 (I.of .i64 2)))) (I.of .u64 10))))),())))))) (.done none)) (.done none)) (.done none)) (.done none)) (.done none))) (.done (iter none (fun x2=>brn (I.ltb x2.1.1 (I.of .i64 64)) (optF (.done none) (a2Q K ((x2.2.2.2.2.2.1.2.2.2.2.1,(I.of .u64 6,())),())) fun y3=>optF (.done none) (a2Q K ((x2.2.2.2.2.2.1.2.2.2.2.1,(I.of .u64 11,())),())) fun y4=>optF (.done none) (a2Q K ((x2.2.2.2.2.2.1.2.2.2.2.1,(I.of .u64 25,())),())) fun y5=>brn (inB x2.1.1 64) (brn (inB x2.1.1 64) (optF (.done none) (a2Q K ((x2.2.2.2.2.2.1.1,(I.of .u64 2,())),())) fun y6=>optF (.done none) (a2Q K ((x2.2.2.2.2.2.1.1,(I.of .u64 13,())),())) fun y7=>optF (.done none) (a2Q K ((x2.2.2.2.2.2.1.1,(I.of .u64 22,())),())) fun y8=>.again (((I.add x2.1.1 (I.of .i64 1)),()),(x2.2.1,(x2.2.2.1,(x2.2.2.2.1,(x2.2.2.2.2.1,(((I.add (I.add (I.add (I.add (I.add x2.2.2.2.2.2.1.2.2.2.2.2.2.2.1 (I.xor (I.xor y3.1.1 y4.1.1) y5.1.1)) (I.xor (I.and x2.2.2.2.2.2.1.2.2.2.2.1 x2.2.2.2.2.2.1.2.2.2.2.2.1) (I.and (I.com x2.2.2.2.2.2.1.2.2.2.2.1) x2.2.2.2.2.2.1.2.2.2.2.2.2.1))) (@Arr.sel (I .u32) (I.of .u32 0) 64 x2.2.2.2.1 (I.nat x2.1.1))) (@Arr.sel (I .u32) (I.of .u32 0) 64 x2.2.2.2.2.1 (I.nat x2.1.1))) (I.add (I.xor (I.xor y6.1.1 y7.1.1) y8.1.1) (I.xor (I.xor (I.and x2.2.2.2.2.2.1.1 x2.2.2.2.2.2.1.2.1) (I.and x2.2.2.2.2.2.1.1 x2.2.2.2.2.2.1.2.2.1)) (I.and x2.2.2.2.2.2.1.2.1 x2.2.2.2.2.2.1.2.2.1)))),(x2.2.2.2.2.2.1.1,(x2.2.2.2.2.2.1.2.1,(x2.2.2.2.2.2.1.2.2.1,((I.add x2.2.2.2.2.2.1.2.2.2.1 (I.add (I.add (I.add (I.add x2.2.2.2.2.2.1.2.2.2.2.2.2.2.1 (I.xor (I.xor y3.1.1 y4.1.1) y5.1.1)) (I.xor (I.and x2.2.2.2.2.2.1.2.2.2.2.1 x2.2.2.2.2.2.1.2.2.2.2.2.1) (I.and (I.com x2.2.2.2.2.2.1.2.2.2.2.1) x2.2.2.2.2.2.1.2.2.2.2.2.2.1))) (@Arr.sel (I .u32) (I.of .u32 0) 64 x2.2.2.2.1 (I.nat x2.1.1))) (@Arr.sel (I .u32) (I.of .u32 0) 64 x2.2.2.2.2.1 (I.nat x2.1.1)))),(x2.2.2.2.2.2.1.2.2.2.2.1,(x2.2.2.2.2.2.1.2.2.2.2.2.1,(x2.2.2.2.2.2.1.2.2.2.2.2.2.1,())))))))),()))))))) (.done none)) (.done none)) (.done (iter none (fun x3=>brn (I.ltb x3.1.1 (I.of .i64 8)) (brn (inB x3.1.1 8) (brn (inB x3.1.1 8) (brn (inB x3.1.1 8) (.again (((I.add x3.1.1 (I.of .i64 1)),()),(x3.2.1,(x3.2.2.1,((@Arr.upd (I .u32) 8 x3.2.2.2.1 (I.nat x3.1.1) (I.add (@Arr.sel (I .u32) (I.of .u32 0) 8 x3.2.2.2.1 (I.nat x3.1.1)) (@Arr.sel (I .u32) (I.of .u32 0) 8 x3.2.1 (I.nat x3.1.1)))),()))))) (.done none)) (.done none)) (.done none)) (.done (some ((x3.2.2.2.1,()),())))) K ((I.of .i64 0,()),(x2.2.1,(x2.2.2.1,(x2.2.2.2.2.2.1,()))))))) K ((I.of .i64 0,()),(x1.2.1,(x1.2.2.1,(x1.2.2.2.1,(x1.2.2.2.2.1,(x1.2.1,()))))))))) K ((b,(I.of .i64 0,())),(a,(c8D,(y0.1.1,(d3S,())))))
def a9X (K:Nat) (x:(⟨[.pl (.sl (.int .u8))],[]⟩:Tm).D):Option (⟨[.pl (.arr 32 (.int .u8))],[]⟩:Tm).D :=
 let a:(List (I .u8)):=x.1.1
 brn (a1G (@a0I (I .u8) (@a2B (I .u8) [] a))) (brn (a1G (@a0I (I .u8) (@a2B (I .u8) (@a2B (I .u8) [] a) e9M))) (iter none (fun (x0:(((List (I .u8)) × Unit) × (a0G × ((List (I .u8)) × Unit))))=>brn (I.neb (I.rem (I.ofNat .i64 (@a0I (I .u8) x0.2.2.1)) (I.of .i64 64)) (I.of .i64 56)) (brn (a1G (@a0I (I .u8) (@a2B (I .u8) x0.2.2.1 d6K))) (.again ((x0.1.1,()),(x0.2.1,((@a2B (I .u8) x0.2.2.1 d6K),())))) (.done none)) (.done (iter none (fun x1=>brn (I.leb (I.of .i64 0) x1.1.2.1) (brn (I.nn (I.conv (k:=.i64) .u64 (I.mul (I.of .i64 8) x1.1.2.1))) (brn (a1G (@a0I (I .u8) (@a2B (I .u8) x1.2.2.1 ((I.conv (k:=.u64) .u8 (I.shr x1.1.1 (I.conv (k:=.i64) .u64 (I.mul (I.of .i64 8) x1.1.2.1))))::[])))) (.again ((x1.1.1,((I.sub x1.1.2.1 (I.of .i64 1)),())),(x1.2.1,((@a2B (I .u8) x1.2.2.1 ((I.conv (k:=.u64) .u8 (I.shr x1.1.1 (I.conv (k:=.i64) .u64 (I.mul (I.of .i64 8) x1.1.2.1))))::[])),())))) (.done none)) (.done none)) (.done (iter none (fun x2=>brn (I.ltb x2.1.1 (I.ofNat .i64 (@a0I (I .u8) x2.2.2.1))) (brn (inB' x2.1.1 (I.nat (I.add x2.1.1 (I.of .i64 64)))) (brn (inB' (I.add x2.1.1 (I.of .i64 64)) (@a0I (I .u8) x2.2.2.1)) (optF (.done none) (b3D K ((x2.2.2.2.1,((@a4N (I .u8) x2.2.2.1 (I.nat x2.1.1) ((I.nat (I.add x2.1.1 (I.of .i64 64))) - (I.nat x2.1.1))),())),())) fun y3=>.again (((I.add x2.1.1 (I.of .i64 64)),()),(x2.2.1,(x2.2.2.1,(y3.1.1,()))))) (.done none)) (.done none)) (.done (iter none (fun x3=>brn (I.ltb x3.1.1 (I.of .i64 32)) (brn (inB (I.quo x3.1.1 (I.of .i64 4)) 8) (brn (I.nn (I.conv (k:=.i64) .u64 (I.sub (I.of .i64 24) (I.mul (I.of .i64 8) (I.rem x3.1.1 (I.of .i64 4)))))) (brn (inB x3.1.1 32) (.again (((I.add x3.1.1 (I.of .i64 1)),()),(x3.2.1,(x3.2.2.1,((@Arr.upd (I .u8) 32 x3.2.2.2.1 (I.nat x3.1.1) (I.conv (k:=.u32) .u8 (I.shr (@Arr.sel (I .u32) (I.of .u32 0) 8 x3.2.2.1 (I.nat (I.quo x3.1.1 (I.of .i64 4)))) (I.conv (k:=.i64) .u64 (I.sub (I.of .i64 24) (I.mul (I.of .i64 8) (I.rem x3.1.1 (I.of .i64 4)))))))),()))))) (.done none)) (.done none)) (.done none)) (.done (some ((x3.2.2.2.1,()),())))) K ((I.of .i64 0,()),(x2.2.1,(x2.2.2.2.1,(a2J,()))))))) K ((I.of .i64 0,()),(x1.2.1,(x1.2.2.1,((I.of .u32 1779033703,(I.of .u32 3144134277,(I.of .u32 1013904242,(I.of .u32 2773480762,(I.of .u32 1359893119,(I.of .u32 2600822924,(I.of .u32 528734635,(I.of .u32 1541459225,())))))))),()))))))) K (((I.mul (I.conv (k:=.i64) .u64 (I.ofNat .i64 (@a0I (I .u8) x0.1.1))) (I.of .u64 8)),(I.of .i64 7,())),(x0.2.1,(x0.2.2.1,())))))) K ((a,()),(a2J,((@a2B (I .u8) (@a2B (I .u8) [] a) e9M),())))) none) none
def b4D (K:Nat) (x:(⟨[.pl (.sl (.int .u8))],[]⟩:Tm).D):Option (⟨[.pl (.arr 32 (.int .u8))],[]⟩:Tm).D :=
 let a:(List (I .u8)):=x.1.1
 brn (a1G (@a0I (I .u8) (@a2B (I .u8) d6K a))) (optF none (a9X K (((@a2B (I .u8) d6K a),()),())) fun y0=>some ((y0.1.1,()),())) none
def b1Z (K:Nat) (x:(⟨[.pl a1T],[]⟩:Tm).D):Option (⟨[.pl (.sl (.int .u8))],[]⟩:Tm).D :=
 let a:U:=x.1.1
 iter none (fun (x0:(((I .i64) × Unit) × (U × ((List (I .u8)) × Unit))))=>brn (I.leb (I.of .i64 0) x0.1.1) (brn (inB (I.quo x0.1.1 (I.of .i64 8)) 4) (brn (I.nn (I.conv (k:=.i64) .u64 (I.mul (I.of .i64 8) (I.rem x0.1.1 (I.of .i64 8))))) (brn (I.ltb (I.of .i64 0) (I.ofNat .i64 (@a0I (I .u8) x0.2.2.1))) (brn (a1G (@a0I (I .u8) (@a2B (I .u8) x0.2.2.1 ((I.conv (k:=.u64) .u8 (I.shr (@Arr.sel (I .u64) (I.of .u64 0) 4 x0.2.1 (I.nat (I.quo x0.1.1 (I.of .i64 8)))) (I.conv (k:=.i64) .u64 (I.mul (I.of .i64 8) (I.rem x0.1.1 (I.of .i64 8))))))::[])))) (.again (((I.sub x0.1.1 (I.of .i64 1)),()),(x0.2.1,((@a2B (I .u8) x0.2.2.1 ((I.conv (k:=.u64) .u8 (I.shr (@Arr.sel (I .u64) (I.of .u64 0) 4 x0.2.1 (I.nat (I.quo x0.1.1 (I.of .i64 8)))) (I.conv (k:=.i64) .u64 (I.mul (I.of .i64 8) (I.rem x0.1.1 (I.of .i64 8))))))::[])),())))) (.done none)) (brn (I.ltb (I.of .u8 0) (I.conv (k:=.u64) .u8 (I.shr (@Arr.sel (I .u64) (I.of .u64 0) 4 x0.2.1 (I.nat (I.quo x0.1.1 (I.of .i64 8)))) (I.conv (k:=.i64) .u64 (I.mul (I.of .i64 8) (I.rem x0.1.1 (I.of .i64 8))))))) (brn (a1G (@a0I (I .u8) (@a2B (I .u8) x0.2.2.1 ((I.conv (k:=.u64) .u8 (I.shr (@Arr.sel (I .u64) (I.of .u64 0) 4 x0.2.1 (I.nat (I.quo x0.1.1 (I.of .i64 8)))) (I.conv (k:=.i64) .u64 (I.mul (I.of .i64 8) (I.rem x0.1.1 (I.of .i64 8))))))::[])))) (.again (((I.sub x0.1.1 (I.of .i64 1)),()),(x0.2.1,((@a2B (I .u8) x0.2.2.1 ((I.conv (k:=.u64) .u8 (I.shr (@Arr.sel (I .u64) (I.of .u64 0) 4 x0.2.1 (I.nat (I.quo x0.1.1 (I.of .i64 8)))) (I.conv (k:=.i64) .u64 (I.mul (I.of .i64 8) (I.rem x0.1.1 (I.of .i64 8))))))::[])),())))) (.done none)) (.again (((I.sub x0.1.1 (I.of .i64 1)),()),(x0.2.1,(x0.2.2.1,())))))) (.done none)) (.done none)) (.done (some ((x0.2.2.1,()),())))) K ((I.of .i64 31,()),(a,([],())))
def a4Z (K:Nat) (x:(⟨[.pl (.sl (.int .u8)),.pl a1T],[]⟩:Tm).D):Option (⟨[.pl (.sl (.int .u8))],[]⟩:Tm).D :=
 let a:(List (I .u8)):=x.1.1
 let b:U:=x.1.2.1
 optF none (b1Z K ((b,()),())) fun y0=>brn (a1G (@a0I (I .u8) (@a2B (I .u8) [] a))) (brn (a1G (@a0I (I .u8) (@a2B (I .u8) (@a2B (I .u8) [] a) ((I.conv (k:=.i64) .u8 (I.ofNat .i64 (@a0I (I .u8) y0.1.1)))::[])))) (brn (a1G (@a0I (I .u8) (@a2B (I .u8) (@a2B (I .u8) (@a2B (I .u8) [] a) ((I.conv (k:=.i64) .u8 (I.ofNat .i64 (@a0I (I .u8) y0.1.1)))::[])) y0.1.1))) (some (((@a2B (I .u8) (@a2B (I .u8) (@a2B (I .u8) [] a) ((I.conv (k:=.i64) .u8 (I.ofNat .i64 (@a0I (I .u8) y0.1.1)))::[])) y0.1.1),()),())) none) none) none
def a5G (K:Nat) (x:(⟨[.pl (.sl (.int .u8)),.pl (.int .u64)],[]⟩:Tm).D):Option (⟨[.pl (.sl (.int .u8))],[]⟩:Tm).D :=
 let a:(List (I .u8)):=x.1.1
 let b:(I .u64):=x.1.2.1
 optF none (a4Z K ((a,((b,(I.of .u64 0,(I.of .u64 0,(I.of .u64 0,())))),())),())) fun y0=>some ((y0.1.1,()),())
def b0D (K:Nat) (x:(⟨[.pl a0O],[]⟩:Tm).D):Option (⟨[.pl (.sl (.int .u8))],[]⟩:Tm).D :=
 let a:a0B:=x.1.1
 optF none (a5G K (([],(a.1,())),())) fun y0=>optF none (a5G K ((y0.1.1,(a.2.1,())),())) fun y1=>optF none (a4Z K ((y1.1.1,(a.2.2.1,())),())) fun y2=>some ((y2.1.1,()),())
def a6M (K:Nat) (x:(⟨[.pl a0O],[]⟩:Tm).D):Option (⟨[.pl (.arr 32 (.int .u8))],[]⟩:Tm).D :=
 let a:a0B:=x.1.1
 optF none (b0D K ((a,()),())) fun y0=>optF none (b4D K ((y0.1.1,()),())) fun y1=>some ((y1.1.1,()),())
def a7Y (K:Nat) (x:(⟨[.pl (.sl a0O),.pl (.int .i64)],[]⟩:Tm).D):Option (⟨[.pl (.sl (.arr 32 (.int .u8)))],[]⟩:Tm).D :=
 let a:(List a0B):=x.1.1
 let b:(I .i64):=x.1.2.1
 iter none (fun (x0:(((List a0B) × ((I .i64) × ((I .i64) × Unit))) × ((List a0G) × Unit)))=>brn (I.ltb x0.1.2.2.1 x0.1.2.1) (brn (inB x0.1.2.2.1 (@a0I a0B x0.1.1)) (optF (.done none) (a6M K (((@rdL a0B a0M x0.1.1 (I.nat x0.1.2.2.1)),()),())) fun y1=>brn (a1G (@a0I a0G (@a2B a0G x0.2.1 (y1.1.1::[])))) (.again ((x0.1.1,(x0.1.2.1,((I.add x0.1.2.2.1 (I.of .i64 1)),()))),((@a2B a0G x0.2.1 (y1.1.1::[])),()))) (.done none)) (.done none)) (.done (some ((x0.2.1,()),())))) K ((a,(b,(I.of .i64 0,()))),([],()))
def a4Y (K:Nat) (x:(⟨[.pl (.int .i64)],[]⟩:Tm).D):Option (⟨[.pl (.int .i64)],[]⟩:Tm).D :=
 let a:(I .i64):=x.1.1
 iter none (fun x0=>brn (I.ltb x0.1.2.1 (I.sub x0.1.1 x0.1.2.1)) (.again ((x0.1.1,((I.mul (I.of .i64 2) x0.1.2.1),())),())) (.done (some ((x0.1.2.1,()),())))) K ((a,(I.of .i64 1,())),())
def a8T (K:Nat) (x:(⟨[.pl (.arr 32 (.int .u8)),.pl (.arr 32 (.int .u8))],[]⟩:Tm).D):Option (⟨[.pl (.arr 32 (.int .u8))],[]⟩:Tm).D :=
 let a:a0G:=x.1.1
 let b:a0G:=x.1.2.1
 brn (a1G (@a0I (I .u8) (@a2B (I .u8) f7O (@a4N (I .u8) (@Arr.list (I .u8) 32 a) 0 32)))) (brn (a1G (@a0I (I .u8) (@a2B (I .u8) (@a2B (I .u8) f7O (@a4N (I .u8) (@Arr.list (I .u8) 32 a) 0 32)) (@a4N (I .u8) (@Arr.list (I .u8) 32 b) 0 32)))) (optF none (a9X K (((@a2B (I .u8) (@a2B (I .u8) f7O (@a4N (I .u8) (@Arr.list (I .u8) 32 a) 0 32)) (@a4N (I .u8) (@Arr.list (I .u8) 32 b) 0 32)),()),())) fun y0=>some ((y0.1.1,()),())) none) none
def a6K (K:Nat) (r0:(⟨[.pl (.sl (.arr 32 (.int .u8)))],[]⟩:Tm).D→Option (⟨[.pl (.arr 32 (.int .u8))],[]⟩:Tm).D) (x:(⟨[.pl (.sl (.arr 32 (.int .u8)))],[]⟩:Tm).D):Option (⟨[.pl (.arr 32 (.int .u8))],[]⟩:Tm).D :=
 let a:(List a0G):=x.1.1
 brn (@I.eqb .i64 (I.ofNat .i64 (@a0I a0G a)) (I.of .i64 0))
 (optF (none) (a9X K (([],()),())) fun y0 =>
 some ((y0.1.1,()),()))
 (brn (@I.eqb .i64 (I.ofNat .i64 (@a0I a0G a)) (I.of .i64 1))
  (brn (@inB .i64 (I.of .i64 0) (@a0I a0G a))
  (some (((@rdL a0G a2J a 0),()),()))
  (none))
  (optF (none) (a4Y K (((I.ofNat .i64 (@a0I a0G a)),()),())) fun y0 =>
  brn (@inB' .i64 y0.1.1 (@a0I a0G a))
  (optF (none) (r0 (((@a4N a0G a 0 (@I.nat .i64 y0.1.1)),()),())) fun y1 =>
  brn (@inB' .i64 y0.1.1 (@a0I a0G a))
   (optF (none) (r0 (((@a4N a0G a (@I.nat .i64 y0.1.1) ((@a0I a0G a) - (@I.nat .i64 y0.1.1))),()),())) fun y2 =>
   optF (none) (a8T K ((y1.1.1,(y2.1.1,())),())) fun y3 =>
   some ((y3.1.1,()),()))
   (none))
  (none)))
def a3C (K:Nat):Nat→(⟨[.pl (.sl (.arr 32 (.int .u8)))],[]⟩:Tm).D→Option (⟨[.pl (.arr 32 (.int .u8))],[]⟩:Tm).D
 | 0,_=>none
 | k0 + 1,x=>a6K K (a3C K k0) x
def a4W (K:Nat) (x:(⟨[.pl (.sl (.arr 32 (.int .u8)))],[]⟩:Tm).D):Option (⟨[.pl (.arr 32 (.int .u8))],[]⟩:Tm).D:=a3C K K x
def a9S (K:Nat) (x:(⟨[.pl (.sl a0O),.pl (.int .i64)],[]⟩:Tm).D):Option (⟨[.pl (.arr 32 (.int .u8)),.pl .bool],[]⟩:Tm).D :=
 let a:(List a0B):=x.1.1
 let b:(I .i64):=x.1.2.1
 jn (fun (x0:(((List a0B) × ((I .i64) × Unit)) × (a0G × Unit)))=>optF none (a7Y K ((x0.1.1,(x0.1.2.1,())),())) fun y1=>optF none (a4W K ((y1.1.1,()),())) fun y2=>some ((y2.1.1,(true,())),())) fun j0=>brn (I.ltb b (I.of .i64 0)) (some ((a2J,(false,())),())) (brn (I.ltb (I.ofNat .i64 (@a0I a0B a)) b) (some ((a2J,(false,())),())) (j0 ((a,(b,())),(a2J,()))))
def a5A (K:Nat) (x:(⟨[.ptr 0 [],.pl (.int .u64),.pl a1T],a0F⟩:Tm).D):Option (⟨[.pl a0O],a0F⟩:Tm).D :=
 let a:(I .u64):=x.1.1
 let b:U:=x.1.2.1
 let h0:a0W:=x.2.1
 let h1:a0N:=x.2.2.1
 let h2:a0U:=x.2.2.2.1
 let h3:(List a0B):=x.2.2.2.2.1
 let h4:(List a0E):=x.2.2.2.2.2.1
 let h5:(List a0G):=x.2.2.2.2.2.2.1
 let h6:(List (I .u64)):=x.2.2.2.2.2.2.2.1
 let h7:(List a0D):=x.2.2.2.2.2.2.2.2.1
 brn (a1G (@a0I a0B (@a2B a0B h3 (((I.conv (k:=.i64) .u64 (I.ofNat .i64 (@a0I a0B h3))),(a,(b,())))::[])))) (optF none (a9S K (((@a2B a0B h3 (((I.conv (k:=.i64) .u64 (I.ofNat .i64 (@a0I a0B h3))),(a,(b,())))::[])),((I.ofNat .i64 (@a0I a0B (@a2B a0B h3 (((I.conv (k:=.i64) .u64 (I.ofNat .i64 (@a0I a0B h3))),(a,(b,())))::[])))),())),())) fun y0=>brn (a1G (@a0I a0G (@a2B a0G h5 (y0.1.1::[])))) (some ((((I.conv (k:=.i64) .u64 (I.ofNat .i64 (@a0I a0B h3))),(a,(b,()))),()),(h0,(h1,(h2,((@a2B a0B h3 (((I.conv (k:=.i64) .u64 (I.ofNat .i64 (@a0I a0B h3))),(a,(b,())))::[])),(h4,((@a2B a0G h5 (y0.1.1::[])),(h6,(h7,())))))))))) none) none
def a7O (K:Nat) (x:(⟨[.ptr 0 [],.pl a1R],a0F⟩:Tm).D):Option (⟨[.pl a1N],a0F⟩:Tm).D :=
 let a:a7T:=x.1.1
 let h0:a0W:=x.2.1
 let h1:a0N:=x.2.2.1
 let h2:a0U:=x.2.2.2.1
 let h3:(List a0B):=x.2.2.2.2.1
 let h4:(List a0E):=x.2.2.2.2.2.1
 let h5:(List a0G):=x.2.2.2.2.2.2.1
 let h6:(List (I .u64)):=x.2.2.2.2.2.2.2.1
 let h7:(List a0D):=x.2.2.2.2.2.2.2.2.1
 optF none (a6D K ((a,()),(h0,(h1,(h2,(h3,(h4,(h5,(h6,(h7,())))))))))) fun y0=>brn (I.neb y0.1.2.1 (I.of .i64 0)) (some (((I.of .i64 0,(y0.1.2.1,(a1S,(Z_U,(Z_U,(I.of .u64 0,(Z_U,(Z_U,([],()))))))))),()),y0.2)) (optF none (a9N K ((a,(y0.2.1.2.2.1.2.2.2.1,(y0.2.1.2.2.2.2.1.1,(y0.2.1.2.1,())))),())) fun y1=>brn (I.neb y1.1.2.1 (I.of .i64 0)) (some (((I.of .i64 0,(y1.1.2.1,(a1S,(Z_U,(Z_U,(I.of .u64 0,(Z_U,(Z_U,([],()))))))))),()),y0.2)) (optF none (a8Y K ((y0.2.1.2.2.2.2.1,(y1.1.1.1,())),())) fun y2=>brn (I.neb y2.1.2.1 (I.of .i64 0)) (some (((I.of .i64 0,(I.of .i64 4,(a1S,(Z_U,(Z_U,(I.of .u64 0,(Z_U,(Z_U,([],()))))))))),()),y0.2)) (optF none (a2O K ((a.1,(I.of .i64 3,(y1.1.1.2.2.2.2.2.2.1,()))),(y0.2.2.1,(y0.2.2.2.2.2.1,())))) fun y3=>optF none (a2O K ((a.1,(I.of .i64 2,(y1.1.1.2.2.2.2.2.2.2.1,()))),(y3.2.1,(y3.2.2.1,())))) fun y4=>optF none (a2O K ((a.1,(I.of .i64 1,(y1.1.1.2.2.2.2.2.2.2.2.1,()))),(y4.2.1,(y4.2.2.1,())))) fun y5=>optF none (a2O K ((a.1,(I.of .i64 4,(y1.1.1.2.2.2.2.2.2.2.2.2.1,()))),(y5.2.1,(y5.2.2.1,())))) fun y6=>optF none (a3T K ((a.1,()),(y6.2.1,(y6.2.2.1,())))) fun y7=>optF none (a8R K ((y0.2.1.2.2.2.1,(y1.1.1.2.2.1,())),())) fun y8=>jn (fun (x9:(Unit × (a0W × (a0N × ((List a0E) × ((List a0B) × (a0U × ((List a0G) × ((List (I .u64)) × ((List a0D) × (a7T × (((I .i64) × ((I .i64) × (a9E × (U × (U × ((I .u64) × (U × (U × (Unit × Unit))))))))) × ((List a0B) × (((I .i64) × ((I .i64) × (a9E × (U × (U × ((I .u64) × (U × (U × (Unit × Unit))))))))) × ((List a0B) × Unit)))))))))))))))=>brn (I.neb x9.2.2.2.2.2.2.2.2.2.1.2.2.1 (I.of .u64 18446744073709551615)) (optF none (a5M K ((x9.2.2.2.2.2.2.2.2.2.1.1,(x9.2.2.2.2.2.2.2.2.2.1.2.2.1,(x9.2.2.2.2.2.2.2.2.2.1.2.2.2.1,()))),(x9.2.2.1,(x9.2.2.2.1,())))) fun y10=>some (((x9.2.2.2.2.2.2.2.2.2.2.2.2.1.1,(x9.2.2.2.2.2.2.2.2.2.2.2.2.1.2.1,(x9.2.2.2.2.2.2.2.2.2.2.2.2.1.2.2.1,(x9.2.2.2.2.2.2.2.2.2.2.2.2.1.2.2.2.1,(x9.2.2.2.2.2.2.2.2.2.1.2.2.2.1,(x9.2.2.2.2.2.2.2.2.2.2.2.2.1.2.2.2.2.2.1,(x9.2.2.2.2.2.2.2.2.2.2.2.2.1.2.2.2.2.2.2.1,(x9.2.2.2.2.2.2.2.2.2.2.2.2.1.2.2.2.2.2.2.2.1,(x9.2.2.2.2.2.2.2.2.2.2.2.2.2.1,x9.2.2.2.2.2.2.2.2.2.2.2.2.1.2.2.2.2.2.2.2.2.2))))))))),()),(x9.2.1,(y10.2.1,(x9.2.2.2.2.2.1,(x9.2.2.2.2.1,(y10.2.2.1,(x9.2.2.2.2.2.2.1,(x9.2.2.2.2.2.2.2.1,(x9.2.2.2.2.2.2.2.2.1,())))))))))) (optF none (a2E K ((x9.2.2.2.2.2.2.2.2.2.1.2.2.2.1,()),())) fun y10=>brn (a5Q y10.1.1) (optF none (a5L K ((x9.2.2.2.2.2.2.2.2.2.1.1,(x9.2.2.2.2.2.2.2.2.2.1.2.2.2.1,())),(x9.2.2.1,(x9.2.2.2.1,())))) fun y11=>optF none (a5A K ((x9.2.2.2.2.2.2.2.2.2.1.1,(x9.2.2.2.2.2.2.2.2.2.1.2.2.2.1,())),(x9.2.1,(y11.2.1,(x9.2.2.2.2.2.1,(x9.2.2.2.2.1,(y11.2.2.1,(x9.2.2.2.2.2.2.1,(x9.2.2.2.2.2.2.2.1,(x9.2.2.2.2.2.2.2.2.1,())))))))))) fun y12=>brn (a1G (@a0I a0B (@a2B a0B x9.2.2.2.2.2.2.2.2.2.2.2.2.2.1 (y12.1.1::[])))) (some (((x9.2.2.2.2.2.2.2.2.2.2.2.2.1.1,(x9.2.2.2.2.2.2.2.2.2.2.2.2.1.2.1,(x9.2.2.2.2.2.2.2.2.2.2.2.2.1.2.2.1,(x9.2.2.2.2.2.2.2.2.2.2.2.2.1.2.2.2.1,(x9.2.2.2.2.2.2.2.2.2.1.2.2.2.1,(x9.2.2.2.2.2.2.2.2.2.2.2.2.1.2.2.2.2.2.1,(x9.2.2.2.2.2.2.2.2.2.2.2.2.1.2.2.2.2.2.2.1,(x9.2.2.2.2.2.2.2.2.2.2.2.2.1.2.2.2.2.2.2.2.1,((@a2B a0B x9.2.2.2.2.2.2.2.2.2.2.2.2.2.1 (y12.1.1::[])),x9.2.2.2.2.2.2.2.2.2.2.2.2.1.2.2.2.2.2.2.2.2.2))))))))),()),y12.2)) none) (some (((x9.2.2.2.2.2.2.2.2.2.2.2.2.1.1,(x9.2.2.2.2.2.2.2.2.2.2.2.2.1.2.1,(x9.2.2.2.2.2.2.2.2.2.2.2.2.1.2.2.1,(x9.2.2.2.2.2.2.2.2.2.2.2.2.1.2.2.2.1,(x9.2.2.2.2.2.2.2.2.2.1.2.2.2.1,(x9.2.2.2.2.2.2.2.2.2.2.2.2.1.2.2.2.2.2.1,(x9.2.2.2.2.2.2.2.2.2.2.2.2.1.2.2.2.2.2.2.1,(x9.2.2.2.2.2.2.2.2.2.2.2.2.1.2.2.2.2.2.2.2.1,(x9.2.2.2.2.2.2.2.2.2.2.2.2.2.1,x9.2.2.2.2.2.2.2.2.2.2.2.2.1.2.2.2.2.2.2.2.2.2))))))))),()),(x9.2.1,(x9.2.2.1,(x9.2.2.2.2.2.1,(x9.2.2.2.2.1,(x9.2.2.2.1,(x9.2.2.2.2.2.2.1,(x9.2.2.2.2.2.2.2.1,(x9.2.2.2.2.2.2.2.2.1,())))))))))))) fun j9=>brn y1.1.1.2.2.2.2.1 (some (((I.of .i64 0,(I.of .i64 0,(y1.1.1,(y0.1.1,(Z_U,(I.of .u64 0,(Z_U,(Z_U,([],()))))))))),()),((y0.2.1.1,(y0.2.1.2.1,((y0.2.1.2.2.1.1,(y0.2.1.2.2.1.2.1,((I.add y0.2.1.2.2.1.2.2.1 y1.1.1.2.2.2.1),y0.2.1.2.2.1.2.2.2))),(y8.1.1,(y2.1.1,y0.2.1.2.2.2.2.2))))),(y7.2.1,(y0.2.2.2.1,(y0.2.2.2.2.1,(y7.2.2.1,(y0.2.2.2.2.2.2.1,(y0.2.2.2.2.2.2.2.1,(y0.2.2.2.2.2.2.2.2.1,())))))))))) (brn (I.eqb a.2.2.1 a.1) (some (((I.of .i64 0,(I.of .i64 0,(y1.1.1,(y0.1.1,(Z_U,(I.of .u64 0,(Z_U,(Z_U,([],()))))))))),()),((y0.2.1.1,(y0.2.1.2.1,((y0.2.1.2.2.1.1,(y0.2.1.2.2.1.2.1,((I.add y0.2.1.2.2.1.2.2.1 y1.1.1.2.2.2.1),y0.2.1.2.2.1.2.2.2))),(y8.1.1,(y2.1.1,y0.2.1.2.2.2.2.2))))),(y7.2.1,(y0.2.2.2.1,(y0.2.2.2.2.1,(y7.2.2.1,(y0.2.2.2.2.2.2.1,(y0.2.2.2.2.2.2.2.1,(y0.2.2.2.2.2.2.2.2.1,())))))))))) (j9 ((),((y0.2.1.1,(y0.2.1.2.1,((y0.2.1.2.2.1.1,(y0.2.1.2.2.1.2.1,((I.add y0.2.1.2.2.1.2.2.1 y1.1.1.2.2.2.1),y0.2.1.2.2.1.2.2.2))),(y8.1.1,(y2.1.1,y0.2.1.2.2.2.2.2))))),(y7.2.1,(y7.2.2.1,(y0.2.2.2.2.1,(y0.2.2.2.1,(y0.2.2.2.2.2.2.1,(y0.2.2.2.2.2.2.2.1,(y0.2.2.2.2.2.2.2.2.1,(a,((I.of .i64 0,(I.of .i64 0,(a1S,(Z_U,(Z_U,(I.of .u64 0,(Z_U,(Z_U,((),()))))))))),([],((I.of .i64 0,(I.of .i64 0,(y1.1.1,(y0.1.1,(Z_U,(I.of .u64 0,(Z_U,(Z_U,((),()))))))))),([],())))))))))))))))))))
def a6S (K:Nat) (x:(⟨[.bp a0K,.pl (.int .i64)],[]⟩:Tm).D):Option (⟨[.pl a1T],[]⟩:Tm).D :=
 let a:a2X:=x.1.1
 let b:(I .i64):=x.1.2.1
 brn (I.ltb b (I.of .i64 1)) (some ((Z_U,()),())) (brn (I.ltb (I.of .i64 4) b) (some ((Z_U,()),())) (brn (inB (I.sub b (I.of .i64 1)) 4) (some (((@Arr.sel U Z_U 4 a.2.1 (I.nat (I.sub b (I.of .i64 1)))),()),())) none))
def a4B (K:Nat) (x:(⟨[.ptr 0 [],.pl (.int .i64),.pl a1T],a0L⟩:Tm).D):Option (⟨[.pl (.int .i64)],a0L⟩:Tm).D :=
 let a:(I .i64):=x.1.1
 let b:U:=x.1.2.1
 let h0:a0N:=x.2.1
 let h1:(List a0E):=x.2.2.1
 jn (fun (x0:(((I .i64) × Unit) × (a0N × ((List a0E) × (U × Unit)))))=>brn (inB (I.sub x0.1.1 (I.of .i64 1)) 4) (optF none (a4X K (((@Arr.sel U Z_U 4 x0.2.1.2.1 (I.nat (I.sub x0.1.1 (I.of .i64 1)))),(x0.2.2.2.1,())),())) fun y1=>brn (I.neb y1.1.2.1 (I.of .i64 0)) (some ((I.of .i64 10,()),(x0.2.1,(x0.2.2.1,())))) (brn (inB (I.sub x0.1.1 (I.of .i64 1)) 4) (some ((I.of .i64 0,()),(((),((@Arr.upd U 4 x0.2.1.2.1 (I.nat (I.sub x0.1.1 (I.of .i64 1))) y1.1.1),x0.2.1.2.2)),(x0.2.2.1,())))) none)) none) fun j0=>brn (I.ltb a (I.of .i64 1)) (some ((I.of .i64 2,()),(h0,(h1,())))) (brn (I.ltb (I.of .i64 4) a) (some ((I.of .i64 2,()),(h0,(h1,())))) (j0 ((a,()),(h0,(h1,(b,()))))))
def a5V (K:Nat) (x:(⟨[.ptr 0 [],.pl a0O],a0F⟩:Tm).D):Option (⟨[.pl a1N],a0F⟩:Tm).D :=
 let a:a0B:=x.1.1
 let h0:a0W:=x.2.1
 let h1:a0N:=x.2.2.1
 let h2:a0U:=x.2.2.2.1
 let h3:(List a0B):=x.2.2.2.2.1
 let h4:(List a0E):=x.2.2.2.2.2.1
 let h5:(List a0G):=x.2.2.2.2.2.2.1
 let h6:(List (I .u64)):=x.2.2.2.2.2.2.2.1
 let h7:(List a0D):=x.2.2.2.2.2.2.2.2.1
 optF none (a6S K (((h4,h1.2),(I.of .i64 3,())),())) fun y0=>optF none (b0I K ((h0.2.2.2.2.1,(h0.2.1,(y0.1.1,(a,(h0.2.2.1.2.1,()))))),())) fun y1=>brn (I.neb y1.1.2.2.1 (I.of .i64 0)) (some (((I.of .i64 0,(y1.1.2.2.1,(a1S,(Z_U,(Z_U,(I.of .u64 0,(Z_U,(Z_U,([],()))))))))),()),(h0,(h1,(h2,(h3,(h4,(h5,(h6,(h7,())))))))))) (optF none (b0V K ((y1.1.2.1.2.2.1,()),())) fun y2=>iter none (fun (x3:(((I .i64) × Unit) × (a0W × (a0N × ((List a0E) × ((List a0B) × (a0U × ((List a0G) × ((List (I .u64)) × ((List a0D) × (((I .i64) × ((I .i64) × (a9E × (U × (U × ((I .u64) × (U × (U × (Unit × Unit))))))))) × ((List a0B) × (a6J × (((I .i64) × ((I .i64) × (a9E × (U × (U × ((I .u64) × (U × (U × (Unit × Unit))))))))) × ((List a0B) × Unit)))))))))))))))=>brn (I.ltb x3.1.1 (I.ofNat .i64 (@a0I a0D x3.2.2.2.2.2.2.2.2.2.2.2.1.2.2.1))) (brn (inB x3.1.1 (@a0I a0D x3.2.2.2.2.2.2.2.2.2.2.2.1.2.2.1)) (optF (.done none) (a4B K ((I.of .i64 3,((@rdL a0D a1Y x3.2.2.2.2.2.2.2.2.2.2.2.1.2.2.1 (I.nat x3.1.1)).2.1,())),(x3.2.2.1,(x3.2.2.2.1,())))) fun y4=>brn (inB x3.1.1 (@a0I a0D x3.2.2.2.2.2.2.2.2.2.2.2.1.2.2.1)) (brn (inB x3.1.1 (@a0I a0D x3.2.2.2.2.2.2.2.2.2.2.2.1.2.2.1)) (optF (.done none) (a5A K (((@rdL a0D a1Y x3.2.2.2.2.2.2.2.2.2.2.2.1.2.2.1 (I.nat x3.1.1)).1,((@rdL a0D a1Y x3.2.2.2.2.2.2.2.2.2.2.2.1.2.2.1 (I.nat x3.1.1)).2.1,())),(x3.2.1,(y4.2.1,(x3.2.2.2.2.2.1,(x3.2.2.2.2.1,(y4.2.2.1,(x3.2.2.2.2.2.2.1,(x3.2.2.2.2.2.2.2.1,(x3.2.2.2.2.2.2.2.2.1,())))))))))) fun y5=>brn (a1G (@a0I a0B (@a2B a0B x3.2.2.2.2.2.2.2.2.2.2.2.2.2.1 (y5.1.1::[])))) (.again (((I.add x3.1.1 (I.of .i64 1)),()),(y5.2.1,(y5.2.2.1,(y5.2.2.2.2.2.1,(y5.2.2.2.2.1,(y5.2.2.2.1,(y5.2.2.2.2.2.2.1,(y5.2.2.2.2.2.2.2.1,(y5.2.2.2.2.2.2.2.2.1,(x3.2.2.2.2.2.2.2.2.2.1,(x3.2.2.2.2.2.2.2.2.2.2.1,(x3.2.2.2.2.2.2.2.2.2.2.2.1,(x3.2.2.2.2.2.2.2.2.2.2.2.2.1,((@a2B a0B x3.2.2.2.2.2.2.2.2.2.2.2.2.2.1 (y5.1.1::[])),()))))))))))))))) (.done none)) (.done none)) (.done none)) (.done none)) (.done (some (((x3.2.2.2.2.2.2.2.2.2.2.2.2.1.1,(x3.2.2.2.2.2.2.2.2.2.2.2.2.1.2.1,(x3.2.2.2.2.2.2.2.2.2.2.2.2.1.2.2.1,(x3.2.2.2.2.2.2.2.2.2.2.2.2.1.2.2.2.1,(x3.2.2.2.2.2.2.2.2.2.2.2.2.1.2.2.2.2.1,(x3.2.2.2.2.2.2.2.2.2.2.2.2.1.2.2.2.2.2.1,(x3.2.2.2.2.2.2.2.2.2.2.2.2.1.2.2.2.2.2.2.1,(x3.2.2.2.2.2.2.2.2.2.2.2.2.1.2.2.2.2.2.2.2.1,(x3.2.2.2.2.2.2.2.2.2.2.2.2.2.1,x3.2.2.2.2.2.2.2.2.2.2.2.2.1.2.2.2.2.2.2.2.2.2))))))))),()),(x3.2.1,(x3.2.2.1,(x3.2.2.2.2.2.1,(x3.2.2.2.2.1,(x3.2.2.2.1,(x3.2.2.2.2.2.2.1,(x3.2.2.2.2.2.2.2.1,(x3.2.2.2.2.2.2.2.2.1,())))))))))))) K ((I.of .i64 0,()),((h0.1,(h0.2.1,(h0.2.2.1,(h0.2.2.2.1,(y1.1.1,h0.2.2.2.2.2))))),(h1,(h4,(h3,(h2,(h5,(h6,(h7,((I.of .i64 0,(I.of .i64 0,(a1S,(Z_U,(Z_U,(I.of .u64 0,(Z_U,(Z_U,((),()))))))))),([],(y1.1.2.1,((I.of .i64 0,(I.of .i64 0,(a1S,(Z_U,(Z_U,(y1.1.2.1.1,(y1.1.2.1.2.1,(y2.1.1,((),()))))))))),([],())))))))))))))))
def b1O (K:Nat) (x:(⟨[.pl (.int .u64),.pl (.int .u64),.pl (.int .u64)],[]⟩:Tm).D):Option (⟨[.pl (.int .u64)],[]⟩:Tm).D :=
 let a:(I .u64):=x.1.1
 let b:(I .u64):=x.1.2.1
 let c:(I .u64):=x.1.2.2.1
 optF none (a9Y K ((a,(b,(c,()))),())) fun y0=>some ((y0.1.1,()),())
def b2S (K:Nat) (x:(⟨[.pl a1Q,.pl (.int .u64),.pl (.int .u64),.pl a0P],[]⟩:Tm).D):Option (⟨[.pl a1Q,.pl (.int .i64)],[]⟩:Tm).D :=
 let a:a9K:=x.1.1
 let b:(I .u64):=x.1.2.1
 let c:(I .u64):=x.1.2.2.1
 let d:a3E:=x.1.2.2.2.1
 jn (fun (x0:(((I .u64) × ((I .u64) × Unit)) × (a9K × (a3E × (a9K × Unit)))))=>optF none (b0W K ((x0.1.2.1,(x0.2.2.1,())),())) fun y1=>brn (I.neb y1.1.2.1 (I.of .i64 0)) (some ((a4R,(y1.1.2.1,())),())) (brn (I.eqb (I.add x0.2.1.1 (I.of .u64 1)) (I.of .u64 0)) (some ((a4R,(I.of .i64 4,())),())) (brn (I.ltb (I.add x0.2.1.2.1 x0.1.1) x0.2.1.2.1) (some ((a4R,(I.of .i64 4,())),())) (some ((((I.add x0.2.1.1 (I.of .u64 1)),((I.add x0.2.1.2.1 x0.1.1),(I.of .u64 0,(y1.1.1,())))),(I.of .i64 0,())),()))))) fun j0=>brn (I.ltb b (I.of .u64 1)) (some ((a4R,(I.of .i64 2,())),())) (brn (I.ltb (I.of .u64 1048576) b) (some ((a4R,(I.of .i64 2,())),())) (j0 ((b,(c,())),(a,(d,(a4R,()))))))
def c3B (K:Nat) (x:(⟨[.pl a0P],[]⟩:Tm).D):Option (⟨[.pl (.arr 12 a1T)],[]⟩:Tm).D :=
 let a:a3E:=x.1.1
 some ((((a.1,(I.of .u64 0,(I.of .u64 0,(I.of .u64 0,())))),((a.2.1,(I.of .u64 0,(I.of .u64 0,(I.of .u64 0,())))),((a.2.2.1,(I.of .u64 0,(I.of .u64 0,(I.of .u64 0,())))),(a.2.2.2.1,((a.2.2.2.2.1,(I.of .u64 0,(I.of .u64 0,(I.of .u64 0,())))),(a.2.2.2.2.2.1,((a.2.2.2.2.2.2.1,(I.of .u64 0,(I.of .u64 0,(I.of .u64 0,())))),(a.2.2.2.2.2.2.2.1,((a.2.2.2.2.2.2.2.2.1,(I.of .u64 0,(I.of .u64 0,(I.of .u64 0,())))),((a.2.2.2.2.2.2.2.2.2.1,(I.of .u64 0,(I.of .u64 0,(I.of .u64 0,())))),((a.2.2.2.2.2.2.2.2.2.2.1,(I.of .u64 0,(I.of .u64 0,(I.of .u64 0,())))),((a.2.2.2.2.2.2.2.2.2.2.2.1,(I.of .u64 0,(I.of .u64 0,(I.of .u64 0,())))),())))))))))))),()),())
def a7L (K:Nat) (x:(⟨[.pl a0P,.pl (.int .i64),.pl a1T],[]⟩:Tm).D):Option (⟨[.pl a0P,.pl (.int .i64)],[]⟩:Tm).D :=
 let a:a3E:=x.1.1
 let b:(I .i64):=x.1.2.1
 let c:U:=x.1.2.2.1
 jn (fun (x0:(((I .i64) × Unit) × (a3E × (U × (a3E × Unit)))))=>optF none (a3L K ((x0.2.1,()),())) fun y1=>brn (a5Q y1.1.1) (some ((a5R,(I.of .i64 15,())),())) (optF none (c3B K ((x0.2.1,()),())) fun y2=>brn (inB (I.sub x0.1.1 (I.of .i64 1)) 12) (iter none (fun x3=>brn (I.ltb x3.1.1 (I.of .i64 12)) (brn (inB x3.1.1 12) (optF (.done none) (a7D K (((@Arr.sel U Z_U 12 x3.2.2.1 (I.nat x3.1.1)),()),())) fun y4=>brn (a5Q y4.1.2.1) (.done (some ((a5R,(I.of .i64 15,())),()))) (.again (((I.add x3.1.1 (I.of .i64 1)),()),(x3.2.1,(x3.2.2.1,()))))) (.done none)) (.done (optF none (a3L K (((x3.2.2.1.1.1,(x3.2.2.1.2.1.1,(x3.2.2.1.2.2.1.1,(x3.2.2.1.2.2.2.1,(x3.2.2.1.2.2.2.2.1.1,(x3.2.2.1.2.2.2.2.2.1,(x3.2.2.1.2.2.2.2.2.2.1.1,(x3.2.2.1.2.2.2.2.2.2.2.1,(x3.2.2.1.2.2.2.2.2.2.2.2.1.1,(x3.2.2.1.2.2.2.2.2.2.2.2.2.1.1,(x3.2.2.1.2.2.2.2.2.2.2.2.2.2.1.1,(x3.2.2.1.2.2.2.2.2.2.2.2.2.2.2.1.1,())))))))))))),()),())) fun y4=>brn (a5Q y4.1.1) (some ((a5R,(I.of .i64 15,())),())) (some (((x3.2.2.1.1.1,(x3.2.2.1.2.1.1,(x3.2.2.1.2.2.1.1,(x3.2.2.1.2.2.2.1,(x3.2.2.1.2.2.2.2.1.1,(x3.2.2.1.2.2.2.2.2.1,(x3.2.2.1.2.2.2.2.2.2.1.1,(x3.2.2.1.2.2.2.2.2.2.2.1,(x3.2.2.1.2.2.2.2.2.2.2.2.1.1,(x3.2.2.1.2.2.2.2.2.2.2.2.2.1.1,(x3.2.2.1.2.2.2.2.2.2.2.2.2.2.1.1,(x3.2.2.1.2.2.2.2.2.2.2.2.2.2.2.1.1,())))))))))))),(I.of .i64 0,())),()))))) K ((I.of .i64 0,()),(x0.2.2.2.1,((@Arr.upd U 12 y2.1.1 (I.nat (I.sub x0.1.1 (I.of .i64 1))) x0.2.2.1),())))) none)) fun j0=>brn (I.ltb b (I.of .i64 1)) (some ((a5R,(I.of .i64 17,())),())) (brn (I.ltb (I.of .i64 12) b) (some ((a5R,(I.of .i64 17,())),())) (j0 ((b,()),(a,(c,(a5R,()))))))
def a5W (K:Nat) (x:(⟨[.ptr 0 [],.pl a1T],a2P⟩:Tm).D):Option (⟨[.pl (.int .i64)],a2P⟩:Tm).D :=
 let a:U:=x.1.1
 let h0:a0U:=x.2.1
 let h1:(List a0G):=x.2.2.1
 let h2:(List (I .u64)):=x.2.2.2.1
 let h3:(List a0D):=x.2.2.2.2.1
 optF none (a2E K ((a,()),())) fun y0=>brn y0.1.1 (some ((I.of .i64 2,()),(h0,(h1,(h2,(h3,())))))) (optF none (a7C K ((h0.1,(a,())),())) fun y1=>brn (I.neb y1.1.2.1 (I.of .i64 0)) (some ((y1.1.2.1,()),(h0,(h1,(h2,(h3,())))))) (some ((I.of .i64 0,()),((y1.1.1,h0.2),(h1,(h2,(h3,())))))))
def a8Q (K:Nat) (x:(⟨[.pl (.sl (.int .i64)),.pl (.sl (.int .i64))],[]⟩:Tm).D):Option (⟨[.whole 0],[.row (.int .i64)]⟩:Tm).D :=
 let a:(List (I .i64)):=x.1.1
 let b:(List (I .i64)):=x.1.2.1
 iter none (fun (x0:(((List (I .i64)) × ((List (I .i64)) × ((I .i64) × ((I .i64) × Unit)))) × ((List (I .i64)) × Unit)))=>jn (fun (x1:(((List (I .i64)) × ((List (I .i64)) × ((I .i64) × ((I .i64) × Unit)))) × ((List (I .i64)) × Unit)))=>jn (fun (x2:(((List (I .i64)) × ((List (I .i64)) × ((I .i64) × ((I .i64) × Unit)))) × ((List (I .i64)) × Unit)))=>brn (I.ltb x2.1.2.2.2.1 (I.ofNat .i64 (@a0I (I .i64) x2.1.2.1))) (brn (inB x2.1.2.2.2.1 (@a0I (I .i64) x2.1.2.1)) (brn (a1G (@a0I (I .i64) (@a2B (I .i64) x2.2.1 ((I.and (I.add x2.1.2.2.1 (@rdL (I .i64) (I.of .i64 0) x2.1.2.1 (I.nat x2.1.2.2.2.1))) (I.of .i64 65535))::[])))) (.again ((x2.1.1,(x2.1.2.1,((I.shr (I.add x2.1.2.2.1 (@rdL (I .i64) (I.of .i64 0) x2.1.2.1 (I.nat x2.1.2.2.2.1))) (I.of .u64 16)),((I.add x2.1.2.2.2.1 (I.of .i64 1)),())))),((@a2B (I .i64) x2.2.1 ((I.and (I.add x2.1.2.2.1 (@rdL (I .i64) (I.of .i64 0) x2.1.2.1 (I.nat x2.1.2.2.2.1))) (I.of .i64 65535))::[])),()))) (.done none)) (.done none)) (brn (a1G (@a0I (I .i64) (@a2B (I .i64) x2.2.1 ((I.and x2.1.2.2.1 (I.of .i64 65535))::[])))) (.again ((x2.1.1,(x2.1.2.1,((I.shr x2.1.2.2.1 (I.of .u64 16)),((I.add x2.1.2.2.2.1 (I.of .i64 1)),())))),((@a2B (I .i64) x2.2.1 ((I.and x2.1.2.2.1 (I.of .i64 65535))::[])),()))) (.done none))) fun j2=>brn (I.ltb x1.1.2.2.2.1 (I.ofNat .i64 (@a0I (I .i64) x1.1.1))) (brn (inB x1.1.2.2.2.1 (@a0I (I .i64) x1.1.1)) (j2 ((x1.1.1,(x1.1.2.1,((I.add x1.1.2.2.1 (@rdL (I .i64) (I.of .i64 0) x1.1.1 (I.nat x1.1.2.2.2.1))),(x1.1.2.2.2.1,())))),(x1.2.1,()))) (.done none)) (j2 ((x1.1.1,(x1.1.2.1,(x1.1.2.2.1,(x1.1.2.2.2.1,())))),(x1.2.1,())))) fun j1=>brn (I.ltb x0.1.2.2.2.1 (I.ofNat .i64 (@a0I (I .i64) x0.1.1))) (j1 ((x0.1.1,(x0.1.2.1,(x0.1.2.2.1,(x0.1.2.2.2.1,())))),(x0.2.1,()))) (brn (I.ltb x0.1.2.2.2.1 (I.ofNat .i64 (@a0I (I .i64) x0.1.2.1))) (j1 ((x0.1.1,(x0.1.2.1,(x0.1.2.2.1,(x0.1.2.2.2.1,())))),(x0.2.1,()))) (brn (I.ltb (I.of .i64 0) x0.1.2.2.1) (j1 ((x0.1.1,(x0.1.2.1,(x0.1.2.2.1,(x0.1.2.2.2.1,())))),(x0.2.1,()))) (.done (some ((),(x0.2.1,()))))))) K ((a,(b,(I.of .i64 0,(I.of .i64 0,())))),([],()))
def a6F (K:Nat) (x:(⟨[.bp a0K],[]⟩:Tm).D):Option (⟨[.pl (.sl (.int .i64))],[]⟩:Tm).D :=
 let a:a2X:=x.1.1
 iter none (fun (x0:((a2X × ((I .i64) × Unit)) × ((List (I .i64)) × Unit)))=>brn (I.ltb x0.1.2.1 (I.ofNat .i64 (@a0I a0E x0.1.1.1))) (brn (inB x0.1.2.1 (@a0I a0E x0.1.1.1)) (optF (.done none) (a0C K (((@rdL a0E a5B x0.1.1.1 (I.nat x0.1.2.1)).2.1,()),())) fun y1=>optF (.done none) (a8Q K ((x0.2.1,(y1.1.1,())),())) fun y2=>.again ((x0.1.1,((I.add x0.1.2.1 (I.of .i64 1)),())),(y2.2.1,()))) (.done none)) (.done (iter none (fun x1=>brn (I.ltb x1.1.2.1 (I.of .i64 4)) (brn (inB x1.1.2.1 4) (optF (.done none) (a0C K (((@Arr.sel U Z_U 4 x1.1.1.2.1 (I.nat x1.1.2.1)),()),())) fun y2=>optF (.done none) (a8Q K ((x1.2.1,(y2.1.1,())),())) fun y3=>.again ((x1.1.1,((I.add x1.1.2.1 (I.of .i64 1)),())),(y3.2.1,()))) (.done none)) (.done (some ((x1.2.1,()),())))) K ((x0.1.1,(I.of .i64 0,())),(x0.2.1,()))))) K ((a,(I.of .i64 0,())),([],()))
def a7G (K:Nat) (x:(⟨[.ptr 0 [],.pl (.int .u64),.pl a1T],a0L⟩:Tm).D):Option (⟨[.pl (.int .i64)],a0L⟩:Tm).D :=
 let a:(I .u64):=x.1.1
 let b:U:=x.1.2.1
 let h0:a0N:=x.2.1
 let h1:(List a0E):=x.2.2.1
 brn (I.eqb a (I.of .u64 0)) (some ((I.of .i64 2,()),(h0,(h1,())))) (optF none (a6F K (((h1,h0.2),()),())) fun y0=>optF none (a0C K ((b,()),())) fun y1=>optF none (a1I K ((y0.1.1,(y1.1.1,())),())) fun y2=>optF none (a2C K ((y2.1.1,()),())) fun y3=>brn (a5Q y3.1.1) (some ((I.of .i64 4,()),(h0,(h1,())))) (optF none (a4T K ((a,(b,())),(h0,(h1,())))) fun y4=>some ((I.of .i64 0,()),(y4.2.1,(y4.2.2.1,())))))
def a4G (K:Nat) (x:(⟨[.bp a0R,.pl (.int .u64)],[]⟩:Tm).D):Option (⟨[.pl .bool],[]⟩:Tm).D :=
 let a:a6X:=x.1.1
 let b:(I .u64):=x.1.2.1
 iter none (fun x0=>brn (I.ltb x0.1.2.2.1 (I.ofNat .i64 (@a0I (I .u64) x0.1.1.2.2.1))) (brn (inB x0.1.2.2.1 (@a0I (I .u64) x0.1.1.2.2.1)) (brn (I.eqb (@rdL (I .u64) (I.of .u64 0) x0.1.1.2.2.1 (I.nat x0.1.2.2.1)) x0.1.2.1) (.done (some ((true,()),()))) (.again ((x0.1.1,(x0.1.2.1,((I.add x0.1.2.2.1 (I.of .i64 1)),()))),()))) (.done none)) (.done (some ((false,()),())))) K ((a,(b,(I.of .i64 0,()))),())
def a8V (K:Nat) (r0:(⟨[.pl (.int .i64),.pl (.int .i64),.pl (.arr 32 (.int .u8)),.pl (.sl (.arr 32 (.int .u8)))],[]⟩:Tm).D→Option (⟨[.pl (.arr 32 (.int .u8)),.pl .bool],[]⟩:Tm).D) (x:(⟨[.pl (.int .i64),.pl (.int .i64),.pl (.arr 32 (.int .u8)),.pl (.sl (.arr 32 (.int .u8)))],[]⟩:Tm).D):Option (⟨[.pl (.arr 32 (.int .u8)),.pl .bool],[]⟩:Tm).D :=
 let a:(I .i64):=x.1.1
 let b:(I .i64):=x.1.2.1
 let c:a0G:=x.1.2.2.1
 let d:(List a0G):=x.1.2.2.2.1
 brn (@I.eqb .i64 a (I.of .i64 1))
 (some ((c,((@I.eqb .i64 (I.ofNat .i64 (@a0I a0G d)) (I.of .i64 0)),())),()))
 (brn (@I.eqb .i64 (I.ofNat .i64 (@a0I a0G d)) (I.of .i64 0))
  (some ((c,(false,())),()))
  (brn (@inB .i64 (@I.sub .i64 (I.ofNat .i64 (@a0I a0G d)) (I.of .i64 1)) (@a0I a0G d))
  (optF (none) (a4Y K ((a,()),())) fun y0 =>
  brn (@I.ltb .i64 b y0.1.1)
   (brn (@inB' .i64 (@I.sub .i64 (I.ofNat .i64 (@a0I a0G d)) (I.of .i64 1)) (@a0I a0G d))
   (optF (none) (r0 ((y0.1.1,(b,(c,((@a4N a0G d 0 (@I.nat .i64 (@I.sub .i64 (I.ofNat .i64 (@a0I a0G d)) (I.of .i64 1)))),())))),())) fun y1 =>
   optF (none) (a8T K ((y1.1.1,((@rdL a0G a2J d (@I.nat .i64 (@I.sub .i64 (I.ofNat .i64 (@a0I a0G d)) (I.of .i64 1)))),())),())) fun y2 =>
   some ((y2.1.1,(y1.1.2.1,())),()))
   (none))
   (brn (@inB' .i64 (@I.sub .i64 (I.ofNat .i64 (@a0I a0G d)) (I.of .i64 1)) (@a0I a0G d))
   (optF (none) (r0 (((@I.sub .i64 a y0.1.1),((@I.sub .i64 b y0.1.1),(c,((@a4N a0G d 0 (@I.nat .i64 (@I.sub .i64 (I.ofNat .i64 (@a0I a0G d)) (I.of .i64 1)))),())))),())) fun y1 =>
   optF (none) (a8T K (((@rdL a0G a2J d (@I.nat .i64 (@I.sub .i64 (I.ofNat .i64 (@a0I a0G d)) (I.of .i64 1)))),(y1.1.1,())),())) fun y2 =>
   some ((y2.1.1,(y1.1.2.1,())),()))
   (none)))
  (none)))
def a4V (K:Nat):Nat→(⟨[.pl (.int .i64),.pl (.int .i64),.pl (.arr 32 (.int .u8)),.pl (.sl (.arr 32 (.int .u8)))],[]⟩:Tm).D→Option (⟨[.pl (.arr 32 (.int .u8)),.pl .bool],[]⟩:Tm).D
 | 0,_=>none
 | k0 + 1,x=>a8V K (a4V K k0) x
def b6M (K:Nat) (x:(⟨[.pl (.int .i64),.pl (.int .i64),.pl (.arr 32 (.int .u8)),.pl (.sl (.arr 32 (.int .u8)))],[]⟩:Tm).D):Option (⟨[.pl (.arr 32 (.int .u8)),.pl .bool],[]⟩:Tm).D:=a4V K K x
def a7F (K:Nat) (x:(⟨[.pl (.arr 32 (.int .u8)),.pl (.int .i64),.pl (.int .i64),.pl (.arr 32 (.int .u8)),.pl (.sl (.arr 32 (.int .u8)))],[]⟩:Tm).D):Option (⟨[.pl .bool],[]⟩:Tm).D :=
 let a:a0G:=x.1.1
 let b:(I .i64):=x.1.2.1
 let c:(I .i64):=x.1.2.2.1
 let d:a0G:=x.1.2.2.2.1
 let e:(List a0G):=x.1.2.2.2.2.1
 jn (fun (x0:(((I .i64) × ((I .i64) × ((List a0G) × Unit))) × (a0G × (a0G × Unit))))=>optF none (b6M K ((x0.1.1,(x0.1.2.1,(x0.2.2.1,(x0.1.2.2.1,())))),())) fun y1=>brn y1.1.2.1 (some (((Ty.eqb (.arr 32 (.int .u8)) y1.1.1 x0.2.1),()),())) (some ((false,()),()))) fun j0=>brn (I.ltb c (I.of .i64 0)) (some ((false,()),())) (brn (I.leb b c) (some ((false,()),())) (brn (I.ltb (I.of .i64 64) (I.ofNat .i64 (@a0I a0G e))) (some ((false,()),())) (j0 ((b,(c,(e,()))),(a,(d,()))))))
def a5C (K:Nat) (x:(⟨[.bp a0R,.pl (.int .u64)],[]⟩:Tm).D):Option (⟨[.pl a1T],[]⟩:Tm).D :=
 let a:a6X:=x.1.1
 let b:(I .u64):=x.1.2.1
 iter none (fun x0=>brn (I.ltb x0.1.2.2.1 (I.ofNat .i64 (@a0I a0D x0.1.1.2.2.2.1))) (brn (inB x0.1.2.2.1 (@a0I a0D x0.1.1.2.2.2.1)) (brn (I.eqb (@rdL a0D a1Y x0.1.1.2.2.2.1 (I.nat x0.1.2.2.1)).1 x0.1.2.1) (brn (inB x0.1.2.2.1 (@a0I a0D x0.1.1.2.2.2.1)) (.done (some (((@rdL a0D a1Y x0.1.1.2.2.2.1 (I.nat x0.1.2.2.1)).2.1,()),()))) (.done none)) (.again ((x0.1.1,(x0.1.2.1,((I.add x0.1.2.2.1 (I.of .i64 1)),()))),(x0.2.1,())))) (.done none)) (.done (some ((Z_U,()),())))) K ((a,(b,(I.of .i64 0,()))),(Z_U,()))
def a6V (K:Nat) (x:(⟨[.ptr 0 [],.pl a7K],a2P⟩:Tm).D):Option (⟨[.pl (.int .i64)],a2P⟩:Tm).D :=
 let a:b5T:=x.1.1
 let h0:a0U:=x.2.1
 let h1:(List a0G):=x.2.2.1
 let h2:(List (I .u64)):=x.2.2.2.1
 let h3:(List a0D):=x.2.2.2.2.1
 jn (fun (x0:(Unit × (a0U × ((List a0G) × ((List (I .u64)) × ((List a0D) × (b5T × Unit)))))))=>jn (fun (x1:(Unit × (a0U × ((List a0G) × ((List (I .u64)) × ((List a0D) × (b5T × Unit)))))))=>optF none (a4G K (((x1.2.1.1,(x1.2.2.1,(x1.2.2.2.1,(x1.2.2.2.2.1,x1.2.1.2.2.2.2)))),(x1.2.2.2.2.2.1.1,())),())) fun y2=>brn y2.1.1 (some ((I.of .i64 9,()),(x1.2.1,(x1.2.2.1,(x1.2.2.2.1,(x1.2.2.2.2.1,())))))) (brn (inB (I.sub x1.2.2.2.2.2.1.2.1 (I.of .u64 1)) (@a0I a0G x1.2.2.1)) (optF none (a6M K (((x1.2.2.2.2.2.1.1,(x1.2.2.2.2.2.1.2.2.1,(x1.2.2.2.2.2.1.2.2.2.1,()))),()),())) fun y3=>optF none (a7F K (((@rdL a0G a2J x1.2.2.1 (I.nat (I.sub x1.2.2.2.2.2.1.2.1 (I.of .u64 1)))),((I.conv (k:=.u64) .i64 x1.2.2.2.2.2.1.2.1),((I.conv (k:=.u64) .i64 x1.2.2.2.2.2.1.1),(y3.1.1,(x1.2.2.2.2.2.1.2.2.2.2.1,()))))),())) fun y4=>brn (a5Q y4.1.1) (some ((I.of .i64 16,()),(x1.2.1,(x1.2.2.1,(x1.2.2.2.1,(x1.2.2.2.2.1,())))))) (optF none (a4X K ((x1.2.1.1,(x1.2.2.2.2.2.1.2.2.2.1,())),())) fun y5=>brn (I.neb y5.1.2.1 (I.of .i64 0)) (some ((I.of .i64 10,()),(x1.2.1,(x1.2.2.1,(x1.2.2.2.1,(x1.2.2.2.2.1,())))))) (optF none (a5C K (((x1.2.1.1,(x1.2.2.1,(x1.2.2.2.1,(x1.2.2.2.2.1,x1.2.1.2.2.2.2)))),(x1.2.2.2.2.2.1.2.2.1,())),())) fun y6=>optF none (a7C K ((y6.1.1,(x1.2.2.2.2.2.1.2.2.2.1,())),())) fun y7=>brn (I.neb y7.1.2.1 (I.of .i64 0)) (some ((y7.1.2.1,()),(x1.2.1,(x1.2.2.1,(x1.2.2.2.1,(x1.2.2.2.2.1,())))))) (brn (a1G (@a0I (I .u64) (@a2B (I .u64) x1.2.2.2.1 (x1.2.2.2.2.2.1.1::[])))) (iter none (fun (x8:(((I .i64) × Unit) × (a0U × ((List a0G) × ((List (I .u64)) × ((List a0D) × (b5T × (U × Unit))))))))=>brn (I.ltb x8.1.1 (I.ofNat .i64 (@a0I a0D x8.2.2.2.2.1))) (brn (inB x8.1.1 (@a0I a0D x8.2.2.2.2.1)) (brn (I.eqb (@rdL a0D a1Y x8.2.2.2.2.1 (I.nat x8.1.1)).1 x8.2.2.2.2.2.1.2.2.1) (brn (inB x8.1.1 (@a0I a0D x8.2.2.2.2.1)) (.done (some ((I.of .i64 0,()),(x8.2.1,(x8.2.2.1,(x8.2.2.2.1,((@c1V a0D x8.2.2.2.2.1 (I.nat x8.1.1) ((@rdL a0D a1Y x8.2.2.2.2.1 (I.nat x8.1.1)).1,(x8.2.2.2.2.2.2.1,(@rdL a0D a1Y x8.2.2.2.2.1 (I.nat x8.1.1)).2.2))),()))))))) (.done none)) (.again (((I.add x8.1.1 (I.of .i64 1)),()),(x8.2.1,(x8.2.2.1,(x8.2.2.2.1,(x8.2.2.2.2.1,(x8.2.2.2.2.2.1,(x8.2.2.2.2.2.2.1,()))))))))) (.done none)) (.done (brn (a1G (@a0I a0D (@a2B a0D x8.2.2.2.2.1 ((x8.2.2.2.2.2.1.2.2.1,(x8.2.2.2.2.2.2.1,()))::[])))) (some ((I.of .i64 0,()),(x8.2.1,(x8.2.2.1,(x8.2.2.2.1,((@a2B a0D x8.2.2.2.2.1 ((x8.2.2.2.2.2.1.2.2.1,(x8.2.2.2.2.2.2.1,()))::[])),())))))) none))) K ((I.of .i64 0,()),((y5.1.1,x1.2.1.2),(x1.2.2.1,((@a2B (I .u64) x1.2.2.2.1 (x1.2.2.2.2.2.1.1::[])),(x1.2.2.2.2.1,(x1.2.2.2.2.2.1,(y7.1.1,())))))))) none)))) none)) fun j1=>brn (I.ltb x0.2.2.2.2.2.1.2.1 (I.of .u64 1)) (some ((I.of .i64 8,()),(x0.2.1,(x0.2.2.1,(x0.2.2.2.1,(x0.2.2.2.2.1,())))))) (brn (I.ltb (I.conv (k:=.i64) .u64 (I.ofNat .i64 (@a0I a0G x0.2.2.1))) x0.2.2.2.2.2.1.2.1) (some ((I.of .i64 8,()),(x0.2.1,(x0.2.2.1,(x0.2.2.2.1,(x0.2.2.2.2.1,())))))) (brn (I.leb x0.2.2.2.2.2.1.2.1 x0.2.2.2.2.2.1.1) (some ((I.of .i64 8,()),(x0.2.1,(x0.2.2.1,(x0.2.2.2.1,(x0.2.2.2.2.1,())))))) (j1 ((),(x0.2.1,(x0.2.2.1,(x0.2.2.2.1,(x0.2.2.2.2.1,(x0.2.2.2.2.2.1,())))))))))) fun j0=>brn (I.eqb a.2.2.1 (I.of .u64 0)) (some ((I.of .i64 2,()),(h0,(h1,(h2,(h3,())))))) (optF none (a2E K ((a.2.2.2.1,()),())) fun y1=>brn y1.1.1 (some ((I.of .i64 2,()),(h0,(h1,(h2,(h3,())))))) (brn (I.ltb (I.of .i64 64) (I.ofNat .i64 (@a0I a0G a.2.2.2.2.1))) (some ((I.of .i64 2,()),(h0,(h1,(h2,(h3,())))))) (j0 ((),(h0,(h1,(h2,(h3,(a,())))))))))
def a6C (K:Nat) (x:(⟨[.ptr 0 [],.pl a1H],a0F⟩:Tm).D):Option (⟨[.pl (.int .i64)],a0F⟩:Tm).D :=
 let a:a1D:=x.1.1
 let h0:a0W:=x.2.1
 let h1:a0N:=x.2.2.1
 let h2:a0U:=x.2.2.2.1
 let h3:(List a0B):=x.2.2.2.2.1
 let h4:(List a0E):=x.2.2.2.2.2.1
 let h5:(List a0G):=x.2.2.2.2.2.2.1
 let h6:(List (I .u64)):=x.2.2.2.2.2.2.2.1
 let h7:(List a0D):=x.2.2.2.2.2.2.2.2.1
 brn (I.eqb a.1 (I.of .i64 3)) (optF none (b1O K ((h0.2.2.2.1,(h0.2.1.1,(a.2.2.2.1,()))),())) fun y0=>optF none (b2S K ((h0.2.2.1,(a.2.2.2.1,(y0.1.1,(h0.2.1,())))),())) fun y1=>brn (I.eqb y1.1.2.1 (I.of .i64 0)) (some ((y1.1.2.1,()),((h0.1,(h0.2.1,(y1.1.1,(y0.1.1,h0.2.2.2.2)))),(h1,(h2,(h3,(h4,(h5,(h6,(h7,())))))))))) (some ((y1.1.2.1,()),(h0,(h1,(h2,(h3,(h4,(h5,(h6,(h7,()))))))))))) (brn (I.eqb a.1 (I.of .i64 4)) (optF none (a7L K ((h0.2.1,(a.2.2.2.2.1,(a.2.2.2.2.2.1,()))),())) fun y0=>brn (I.eqb y0.1.2.1 (I.of .i64 0)) (some ((y0.1.2.1,()),((h0.1,(y0.1.1,h0.2.2)),(h1,(h2,(h3,(h4,(h5,(h6,(h7,())))))))))) (some ((y0.1.2.1,()),(h0,(h1,(h2,(h3,(h4,(h5,(h6,(h7,()))))))))))) (brn (I.eqb a.1 (I.of .i64 5)) (optF none (a8F K ((h0.2.2.2.2.1,(a.2.2.2.2.2.2.1,())),())) fun y0=>brn (I.eqb y0.1.2.1 (I.of .i64 0)) (some ((y0.1.2.1,()),((h0.1,(h0.2.1,(h0.2.2.1,(h0.2.2.2.1,(y0.1.1,h0.2.2.2.2.2))))),(h1,(h2,(h3,(h4,(h5,(h6,(h7,())))))))))) (some ((y0.1.2.1,()),(h0,(h1,(h2,(h3,(h4,(h5,(h6,(h7,()))))))))))) (brn (I.eqb a.1 (I.of .i64 6)) (jn (fun (x0:(Unit × (a0W × (a0N × ((List a0E) × ((List a0B) × (a0U × ((List a0G) × ((List (I .u64)) × ((List a0D) × (a1D × Unit)))))))))))=>optF none (a0C K ((x0.2.2.2.2.2.1.1,()),())) fun y1=>optF none (a0C K ((x0.2.2.2.2.2.2.2.2.2.1.2.2.2.2.2.1,()),())) fun y2=>optF none (a1I K ((y1.1.1,(y2.1.1,())),())) fun y3=>optF none (a2C K ((y3.1.1,()),())) fun y4=>brn (a5Q y4.1.1) (some ((I.of .i64 4,()),(x0.2.1,(x0.2.2.1,(x0.2.2.2.2.2.1,(x0.2.2.2.2.1,(x0.2.2.2.1,(x0.2.2.2.2.2.2.1,(x0.2.2.2.2.2.2.2.1,(x0.2.2.2.2.2.2.2.2.1,())))))))))) (optF none (a5W K ((x0.2.2.2.2.2.2.2.2.2.1.2.2.2.2.2.1,()),(x0.2.2.2.2.2.1,(x0.2.2.2.2.2.2.1,(x0.2.2.2.2.2.2.2.1,(x0.2.2.2.2.2.2.2.2.1,())))))) fun y5=>optF none (a7G K ((x0.2.2.2.2.2.2.2.2.2.1.2.2.2.2.2.2.1,(x0.2.2.2.2.2.2.2.2.2.1.2.2.2.2.2.1,())),(x0.2.2.1,(x0.2.2.2.1,())))) fun y6=>some ((y6.1.1,()),(x0.2.1,(y6.2.1,(y5.2.1,(x0.2.2.2.2.1,(y6.2.2.1,(y5.2.2.1,(y5.2.2.2.1,(y5.2.2.2.2.1,()))))))))))) fun j0=>brn (I.eqb a.2.2.2.2.2.2.1 (I.of .u64 0)) (some ((I.of .i64 2,()),(h0,(h1,(h2,(h3,(h4,(h5,(h6,(h7,())))))))))) (brn (I.eqb a.2.2.2.2.2.2.1 (I.of .u64 18446744073709551615)) (some ((I.of .i64 2,()),(h0,(h1,(h2,(h3,(h4,(h5,(h6,(h7,())))))))))) (optF none (a2E K ((a.2.2.2.2.2.1,()),())) fun y1=>brn y1.1.1 (some ((I.of .i64 2,()),(h0,(h1,(h2,(h3,(h4,(h5,(h6,(h7,())))))))))) (j0 ((),(h0,(h1,(h4,(h3,(h2,(h5,(h6,(h7,(a,())))))))))))))) (optF none (a6V K ((a.2.2.2.2.2.2.2.1,()),(h2,(h5,(h6,(h7,())))))) fun y0=>some ((y0.1.1,()),(h0,(h1,(y0.2.1,(h3,(h4,(y0.2.2.1,(y0.2.2.2.1,(y0.2.2.2.2.1,())))))))))))))
def a3Y (K:Nat) (x:(⟨[.ptr 0 [],.pl a1H],a0F⟩:Tm).D):Option (⟨[.pl a1N],a0F⟩:Tm).D :=
 let a:a1D:=x.1.1
 let h0:a0W:=x.2.1
 let h1:a0N:=x.2.2.1
 let h2:a0U:=x.2.2.2.1
 let h3:(List a0B):=x.2.2.2.2.1
 let h4:(List a0E):=x.2.2.2.2.2.1
 let h5:(List a0G):=x.2.2.2.2.2.2.1
 let h6:(List (I .u64)):=x.2.2.2.2.2.2.2.1
 let h7:(List a0D):=x.2.2.2.2.2.2.2.2.1
 jn (fun (x0:(Unit × (a0W × (a0N × ((List a0E) × ((List a0B) × (a0U × ((List a0G) × ((List (I .u64)) × ((List a0D) × (a1D × (((I .i64) × ((I .i64) × (a9E × (U × (U × ((I .u64) × (U × (U × (Unit × Unit))))))))) × ((List a0B) × Unit)))))))))))))=>optF none (a8I K ((x0.2.2.2.2.2.2.2.2.2.1.1,()),())) fun y1=>brn (a5Q y1.1.1) (some (((I.of .i64 0,(I.of .i64 17,(a1S,(Z_U,(Z_U,(I.of .u64 0,(Z_U,(Z_U,([],()))))))))),()),(x0.2.1,(x0.2.2.1,(x0.2.2.2.2.2.1,(x0.2.2.2.2.1,(x0.2.2.2.1,(x0.2.2.2.2.2.2.1,(x0.2.2.2.2.2.2.2.1,(x0.2.2.2.2.2.2.2.2.1,())))))))))) (brn (I.eqb x0.2.2.2.2.2.2.2.2.2.1.1 (I.of .i64 1)) (optF none (a7O K ((x0.2.2.2.2.2.2.2.2.2.1.2.1,()),(x0.2.1,(x0.2.2.1,(x0.2.2.2.2.2.1,(x0.2.2.2.2.1,(x0.2.2.2.1,(x0.2.2.2.2.2.2.1,(x0.2.2.2.2.2.2.2.1,(x0.2.2.2.2.2.2.2.2.1,())))))))))) fun y2=>some (((x0.2.2.2.2.2.2.2.2.2.1.1,y2.1.1.2),()),y2.2)) (brn (I.eqb x0.2.2.2.2.2.2.2.2.2.1.1 (I.of .i64 2)) (optF none (a5V K ((x0.2.2.2.2.2.2.2.2.2.1.2.2.1,()),(x0.2.1,(x0.2.2.1,(x0.2.2.2.2.2.1,(x0.2.2.2.2.1,(x0.2.2.2.1,(x0.2.2.2.2.2.2.1,(x0.2.2.2.2.2.2.2.1,(x0.2.2.2.2.2.2.2.2.1,())))))))))) fun y2=>some (((x0.2.2.2.2.2.2.2.2.2.1.1,y2.1.1.2),()),y2.2)) (optF none (a6C K ((x0.2.2.2.2.2.2.2.2.2.1,()),(x0.2.1,(x0.2.2.1,(x0.2.2.2.2.2.1,(x0.2.2.2.2.1,(x0.2.2.2.1,(x0.2.2.2.2.2.2.1,(x0.2.2.2.2.2.2.2.1,(x0.2.2.2.2.2.2.2.2.1,())))))))))) fun y2=>some (((x0.2.2.2.2.2.2.2.2.2.1.1,(y2.1.1,(a1S,(Z_U,(Z_U,(I.of .u64 0,(Z_U,(Z_U,([],()))))))))),()),y2.2))))) fun j0=>brn (I.neb (I.add h0.1 (I.of .u64 1)) (I.of .u64 0)) (j0 ((),(((I.add h0.1 (I.of .u64 1)),h0.2),(h1,(h4,(h3,(h2,(h5,(h6,(h7,(a,((I.of .i64 0,(I.of .i64 0,(a1S,(Z_U,(Z_U,(I.of .u64 0,(Z_U,(Z_U,((),()))))))))),([],()))))))))))))) (j0 ((),(h0,(h1,(h4,(h3,(h2,(h5,(h6,(h7,(a,((I.of .i64 0,(I.of .i64 0,(a1S,(Z_U,(Z_U,(I.of .u64 0,(Z_U,(Z_U,((),()))))))))),([],())))))))))))))
def b0M (K:Nat) (x:(⟨[.pl (.int .i64),.pl (.int .u64),.pl .bool],[]⟩:Tm).D):Option (⟨[.pl a1H],[]⟩:Tm).D :=
 let a:(I .i64):=x.1.1
 let b:(I .u64):=x.1.2.1
 let c:Bool:=x.1.2.2.1
 brn (I.eqb (I.rem a (I.of .i64 13)) (I.of .i64 5)) (some (((I.of .i64 6,((I.of .u64 0,(I.of .u64 0,(I.of .u64 0,(Z_U,(I.of .u64 0,(Z_U,(Z_U,(I.of .u64 0,([],()))))))))),(a0M,(I.of .u64 0,(I.of .i64 0,(((I.add (I.of .u64 4503599627370496) (I.conv (k:=.i64) .u64 (I.rem a (I.of .i64 100000)))),(I.of .u64 0,(I.of .u64 0,(I.of .u64 0,())))),(I.of .u64 9,((I.of .u64 0,(I.of .u64 0,(I.of .u64 0,(Z_U,([],()))))),())))))))),()),())) (brn (I.eqb (I.rem a (I.of .i64 31)) (I.of .i64 6)) (some (((I.of .i64 6,((I.of .u64 0,(I.of .u64 0,(I.of .u64 0,(Z_U,(I.of .u64 0,(Z_U,(Z_U,(I.of .u64 0,([],()))))))))),(a0M,(I.of .u64 0,(I.of .i64 0,(((I.add (I.of .u64 4503599627370496) (I.conv (k:=.i64) .u64 (I.rem a (I.of .i64 100000)))),(I.of .u64 0,(I.of .u64 0,(I.of .u64 0,())))),(I.of .u64 0,((I.of .u64 0,(I.of .u64 0,(I.of .u64 0,(Z_U,([],()))))),())))))))),()),())) (brn (I.eqb (I.rem a (I.of .i64 37)) (I.of .i64 7)) (some (((I.of .i64 6,((I.of .u64 0,(I.of .u64 0,(I.of .u64 0,(Z_U,(I.of .u64 0,(Z_U,(Z_U,(I.of .u64 0,([],()))))))))),(a0M,(I.of .u64 0,(I.of .i64 0,(((I.add (I.of .u64 4503599627370496) (I.conv (k:=.i64) .u64 (I.rem a (I.of .i64 100000)))),(I.of .u64 0,(I.of .u64 0,(I.of .u64 0,())))),(I.of .u64 18446744073709551615,((I.of .u64 0,(I.of .u64 0,(I.of .u64 0,(Z_U,([],()))))),())))))))),()),())) (brn (I.eqb (I.rem a (I.of .i64 11)) (I.of .i64 3)) (some (((I.of .i64 6,((I.of .u64 0,(I.of .u64 0,(I.of .u64 0,(Z_U,(I.of .u64 0,(Z_U,(Z_U,(I.of .u64 0,([],()))))))))),(a0M,(I.of .u64 0,(I.of .i64 0,(((I.conv (k:=.i64) .u64 (I.rem a (I.of .i64 50))),(I.of .u64 0,(I.of .u64 0,(I.of .u64 0,())))),(b,((I.of .u64 0,(I.of .u64 0,(I.of .u64 0,(Z_U,([],()))))),())))))))),()),())) (brn (I.eqb (I.rem a (I.of .i64 61)) (I.of .i64 8)) (brn (a5Q c) (some (((I.of .i64 6,((I.of .u64 0,(I.of .u64 0,(I.of .u64 0,(Z_U,(I.of .u64 0,(Z_U,(Z_U,(I.of .u64 0,([],()))))))))),(a0M,(I.of .u64 0,(I.of .i64 0,((I.of .u64 0,(I.of .u64 0,(I.of .u64 0,(I.of .u64 4611686018427387904,())))),(b,((I.of .u64 0,(I.of .u64 0,(I.of .u64 0,(Z_U,([],()))))),())))))))),()),())) (some (((I.of .i64 6,((I.of .u64 0,(I.of .u64 0,(I.of .u64 0,(Z_U,(I.of .u64 0,(Z_U,(Z_U,(I.of .u64 0,([],()))))))))),(a0M,(I.of .u64 0,(I.of .i64 0,(((I.add (I.of .u64 4503599627370496) (I.conv (k:=.i64) .u64 (I.rem a (I.of .i64 100000)))),(I.of .u64 0,(I.of .u64 0,(I.of .u64 0,())))),(b,((I.of .u64 0,(I.of .u64 0,(I.of .u64 0,(Z_U,([],()))))),())))))))),()),()))) (some (((I.of .i64 6,((I.of .u64 0,(I.of .u64 0,(I.of .u64 0,(Z_U,(I.of .u64 0,(Z_U,(Z_U,(I.of .u64 0,([],()))))))))),(a0M,(I.of .u64 0,(I.of .i64 0,(((I.add (I.of .u64 4503599627370496) (I.conv (k:=.i64) .u64 (I.rem a (I.of .i64 100000)))),(I.of .u64 0,(I.of .u64 0,(I.of .u64 0,())))),(b,((I.of .u64 0,(I.of .u64 0,(I.of .u64 0,(Z_U,([],()))))),())))))))),()),()))))))
def b1K (K:Nat) (x:(⟨[.pl (.int .i64),.ptr 0 []],a0F⟩:Tm).D):Option (⟨[.pl a0O],a0F⟩:Tm).D :=
 let a:(I .i64):=x.1.1
 let h0:a0W:=x.2.1
 let h1:a0N:=x.2.2.1
 let h2:a0U:=x.2.2.2.1
 let h3:(List a0B):=x.2.2.2.2.1
 let h4:(List a0E):=x.2.2.2.2.2.1
 let h5:(List a0G):=x.2.2.2.2.2.2.1
 let h6:(List (I .u64)):=x.2.2.2.2.2.2.2.1
 let h7:(List a0D):=x.2.2.2.2.2.2.2.2.1
 brn (I.nz (I.add (I.mn (I.sub h0.2.2.1.2.1 h0.2.2.2.2.1.2.2.1) (I.of .u64 1099511627776)) (I.of .u64 2))) (brn (I.eqb (I.rem a (I.of .i64 19)) (I.of .i64 4)) (some ((((I.add (I.of .u64 5) (I.conv (k:=.i64) .u64 (I.rem a (I.of .i64 3)))),((I.add h0.2.2.2.2.1.2.2.1 (I.rem (I.conv (k:=.i64) .u64 (I.quo a (I.of .i64 3))) (I.add (I.mn (I.sub h0.2.2.1.2.1 h0.2.2.2.2.1.2.2.1) (I.of .u64 1099511627776)) (I.of .u64 2)))),((I.of .u64 0,(I.of .u64 0,(I.of .u64 1,(I.of .u64 0,())))),()))),()),(h0,(h1,(h2,(h3,(h4,(h5,(h6,(h7,())))))))))) (brn (I.eqb (I.rem a (I.of .i64 23)) (I.of .i64 5)) (some ((((I.add (I.of .u64 5) (I.conv (k:=.i64) .u64 (I.rem a (I.of .i64 3)))),((I.conv (k:=.i64) .u64 (I.rem a (I.of .i64 100))),(((I.mul (I.conv (k:=.i64) .u64 (I.rem (I.quo a (I.of .i64 9)) (I.of .i64 5000))) (I.of .u64 20000000)),(I.of .u64 0,(I.of .u64 0,(I.of .u64 0,())))),()))),()),(h0,(h1,(h2,(h3,(h4,(h5,(h6,(h7,())))))))))) (brn (I.eqb (I.rem a (I.of .i64 29)) (I.of .i64 6)) (some ((((I.add (I.of .u64 5) (I.conv (k:=.i64) .u64 (I.rem a (I.of .i64 3)))),((I.add h0.2.2.2.2.1.2.2.1 (I.rem (I.conv (k:=.i64) .u64 (I.quo a (I.of .i64 3))) (I.add (I.mn (I.sub h0.2.2.1.2.1 h0.2.2.2.2.1.2.2.1) (I.of .u64 1099511627776)) (I.of .u64 2)))),((I.of .u64 0,((I.conv (k:=.i64) .u64 (I.rem a (I.of .i64 1000))),(I.of .u64 0,(I.of .u64 0,())))),()))),()),(h0,(h1,(h2,(h3,(h4,(h5,(h6,(h7,())))))))))) (some ((((I.add (I.of .u64 5) (I.conv (k:=.i64) .u64 (I.rem a (I.of .i64 3)))),((I.add h0.2.2.2.2.1.2.2.1 (I.rem (I.conv (k:=.i64) .u64 (I.quo a (I.of .i64 3))) (I.add (I.mn (I.sub h0.2.2.1.2.1 h0.2.2.2.2.1.2.2.1) (I.of .u64 1099511627776)) (I.of .u64 2)))),(((I.mul (I.conv (k:=.i64) .u64 (I.rem (I.quo a (I.of .i64 9)) (I.of .i64 5000))) (I.of .u64 20000000)),(I.of .u64 0,(I.of .u64 0,(I.of .u64 0,())))),()))),()),(h0,(h1,(h2,(h3,(h4,(h5,(h6,(h7,()))))))))))))) none
def b2Y (K:Nat) (x:(⟨[.pl (.int .i64)],[]⟩:Tm).D):Option (⟨[.pl a1H],[]⟩:Tm).D :=
 let a:(I .i64):=x.1.1
 brn (inB (I.rem a (I.of .i64 12)) 12) (jn (fun (x0:(((I .i64) × Unit) × (a1D × (a1D × Unit))))=>brn (I.eqb (I.rem x0.1.1 (I.of .i64 31)) (I.of .i64 4)) (some (((x0.2.2.1.1,(x0.2.2.1.2.1,(x0.2.2.1.2.2.1,(x0.2.2.1.2.2.2.1,((I.rem x0.1.1 (I.of .i64 40)),x0.2.2.1.2.2.2.2.2))))),()),())) (some ((x0.2.2.1,()),()))) fun j0=>brn (I.eqb (I.rem a (I.of .i64 17)) (I.of .i64 3)) (j0 ((a,()),((I.of .i64 0,((I.of .u64 0,(I.of .u64 0,(I.of .u64 0,(Z_U,(I.of .u64 0,(Z_U,(Z_U,(I.of .u64 0,([],()))))))))),(a0M,(I.of .u64 0,(I.of .i64 0,(Z_U,(I.of .u64 0,((I.of .u64 0,(I.of .u64 0,(I.of .u64 0,(Z_U,([],()))))),())))))))),((I.of .i64 4,((I.of .u64 0,(I.of .u64 0,(I.of .u64 0,(Z_U,(I.of .u64 0,(Z_U,(Z_U,(I.of .u64 0,([],()))))))))),(a0M,(I.of .u64 0,((I.add (I.rem a (I.of .i64 12)) (I.of .i64 1)),(Z_U,(I.of .u64 0,((I.of .u64 0,(I.of .u64 0,(I.of .u64 0,(Z_U,([],()))))),())))))))),())))) (j0 ((a,()),((I.of .i64 0,((I.of .u64 0,(I.of .u64 0,(I.of .u64 0,(Z_U,(I.of .u64 0,(Z_U,(Z_U,(I.of .u64 0,([],()))))))))),(a0M,(I.of .u64 0,(I.of .i64 0,(Z_U,(I.of .u64 0,((I.of .u64 0,(I.of .u64 0,(I.of .u64 0,(Z_U,([],()))))),())))))))),((I.of .i64 4,((I.of .u64 0,(I.of .u64 0,(I.of .u64 0,(Z_U,(I.of .u64 0,(Z_U,(Z_U,(I.of .u64 0,([],()))))))))),(a0M,(I.of .u64 0,((I.add (I.rem a (I.of .i64 12)) (I.of .i64 1)),(((@Arr.sel (I .u64) (I.of .u64 0) 12 ((I.add (I.of .u64 1000000) (I.rem (I.conv (k:=.i64) .u64 (I.quo a (I.of .i64 12))) (I.of .u64 10000000))),((I.rem (I.conv (k:=.i64) .u64 (I.quo a (I.of .i64 12))) (I.of .u64 20)),((I.add (I.of .u64 1) (I.rem (I.conv (k:=.i64) .u64 (I.quo a (I.of .i64 12))) (I.of .u64 200))),((I.add (I.of .u64 10000000) (I.rem (I.conv (k:=.i64) .u64 (I.quo a (I.of .i64 12))) (I.of .u64 1000000000))),((I.add (I.of .u64 1000000) (I.rem (I.conv (k:=.i64) .u64 (I.quo a (I.of .i64 12))) (I.of .u64 100000000))),((I.rem (I.conv (k:=.i64) .u64 (I.quo a (I.of .i64 12))) (I.of .u64 200000000)),((I.rem (I.conv (k:=.i64) .u64 (I.quo a (I.of .i64 12))) (I.of .u64 10300)),((I.rem (I.conv (k:=.i64) .u64 (I.quo a (I.of .i64 12))) (I.of .u64 1000)),((I.add (I.of .u64 1000) (I.rem (I.conv (k:=.i64) .u64 (I.quo a (I.of .i64 12))) (I.of .u64 1000000000))),((I.add (I.of .u64 1) (I.rem (I.conv (k:=.i64) .u64 (I.quo a (I.of .i64 12))) (I.of .u64 100))),((I.rem (I.conv (k:=.i64) .u64 (I.quo a (I.of .i64 12))) (I.of .u64 250)),((I.add (I.of .u64 200) (I.rem (I.conv (k:=.i64) .u64 (I.quo a (I.of .i64 12))) (I.of .u64 100000))),())))))))))))) (I.nat (I.rem a (I.of .i64 12)))),(I.of .u64 0,(I.of .u64 0,(I.of .u64 0,())))),(I.of .u64 0,((I.of .u64 0,(I.of .u64 0,(I.of .u64 0,(Z_U,([],()))))),())))))))),()))))) none
def a6Z (K:Nat) (r0:(⟨[.pl (.sl (.arr 32 (.int .u8))),.pl (.int .i64)],[]⟩:Tm).D→Option (⟨[.whole 0],[.row (.arr 32 (.int .u8))]⟩:Tm).D) (x:(⟨[.pl (.sl (.arr 32 (.int .u8))),.pl (.int .i64)],[]⟩:Tm).D):Option (⟨[.whole 0],[.row (.arr 32 (.int .u8))]⟩:Tm).D :=
 let a:(List a0G):=x.1.1
 let b:(I .i64):=x.1.2.1
 brn (@I.ltb .i64 (I.ofNat .i64 (@a0I a0G a)) (I.of .i64 2))
 (some ((),([],())))
 (optF (none) (a4Y K (((I.ofNat .i64 (@a0I a0G a)),()),())) fun y0 =>
 brn (@I.ltb .i64 b y0.1.1)
  (brn (@inB' .i64 y0.1.1 (@a0I a0G a))
  (optF (none) (r0 (((@a4N a0G a 0 (@I.nat .i64 y0.1.1)),(b,())),())) fun y1 =>
  brn (@inB' .i64 y0.1.1 (@a0I a0G a))
   (optF (none) (a4W K (((@a4N a0G a (@I.nat .i64 y0.1.1) ((@a0I a0G a) - (@I.nat .i64 y0.1.1))),()),())) fun y2 =>
   brn (a1G (@a0I a0G (@a2B a0G y1.2.1 (y2.1.1 :: []))))
   (some ((),((@a2B a0G y1.2.1 (y2.1.1 :: [])),())))
   (none))
   (none))
  (none))
  (brn (@inB' .i64 y0.1.1 (@a0I a0G a))
  (optF (none) (r0 (((@a4N a0G a (@I.nat .i64 y0.1.1) ((@a0I a0G a) - (@I.nat .i64 y0.1.1))),((@I.sub .i64 b y0.1.1),())),())) fun y1 =>
  brn (@inB' .i64 y0.1.1 (@a0I a0G a))
   (optF (none) (a4W K (((@a4N a0G a 0 (@I.nat .i64 y0.1.1)),()),())) fun y2 =>
   brn (a1G (@a0I a0G (@a2B a0G y1.2.1 (y2.1.1 :: []))))
   (some ((),((@a2B a0G y1.2.1 (y2.1.1 :: [])),())))
   (none))
   (none))
  (none)))
def a3O (K:Nat):Nat→(⟨[.pl (.sl (.arr 32 (.int .u8))),.pl (.int .i64)],[]⟩:Tm).D→Option (⟨[.whole 0],[.row (.arr 32 (.int .u8))]⟩:Tm).D
 | 0,_=>none
 | k0 + 1,x=>a6Z K (a3O K k0) x
def b3B (K:Nat) (x:(⟨[.pl (.sl (.arr 32 (.int .u8))),.pl (.int .i64)],[]⟩:Tm).D):Option (⟨[.whole 0],[.row (.arr 32 (.int .u8))]⟩:Tm).D:=a3O K K x
def b1R (K:Nat) (x:(⟨[.pl (.sl a0O),.pl (.int .i64),.pl (.int .i64)],[]⟩:Tm).D):Option (⟨[.whole 0,.pl .bool],[.row (.arr 32 (.int .u8))]⟩:Tm).D :=
 let a:(List a0B):=x.1.1
 let b:(I .i64):=x.1.2.1
 let c:(I .i64):=x.1.2.2.1
 jn (fun (x0:(((List a0B) × ((I .i64) × ((I .i64) × Unit))) × Unit))=>optF none (a7Y K ((x0.1.1,(x0.1.2.2.1,())),())) fun y1=>optF none (b3B K ((y1.1.1,(x0.1.2.1,())),())) fun y2=>some ((true,()),(y2.2.1,()))) fun j0=>brn (I.ltb b (I.of .i64 0)) (some ((false,()),([],()))) (brn (I.leb c b) (some ((false,()),([],()))) (brn (I.ltb (I.ofNat .i64 (@a0I a0B a)) c) (some ((false,()),([],()))) (j0 ((a,(b,(c,()))),()))))
def b1V (K:Nat) (x:(⟨[],[]⟩:Tm).D):Option (⟨[.pl a1T],[]⟩:Tm).D :=
 some (((I.of .u64 18446744073709551615,(I.of .u64 18446744073709551615,(I.of .u64 18446744073709551615,(I.of .u64 18446744073709551615,())))),()),())
def b1U (K:Nat) (x:(⟨[.pl (.int .i64)],[]⟩:Tm).D):Option (⟨[.pl (.arr 32 (.int .u8))],[]⟩:Tm).D :=
 let a:(I .i64):=x.1.1
 iter none (fun x0=>brn (I.ltb x0.1.2.1 (I.of .i64 8)) (brn (I.nn (I.conv (k:=.i64) .u64 (I.mul (I.of .i64 8) x0.1.2.1))) (brn (inB x0.1.2.1 32) (.again ((x0.1.1,((I.add x0.1.2.1 (I.of .i64 1)),())),(x0.2.1,((@Arr.upd (I .u8) 32 x0.2.2.1 (I.nat x0.1.2.1) (I.conv (k:=.u64) .u8 (I.shr (I.conv (k:=.i64) .u64 x0.1.1) (I.conv (k:=.i64) .u64 (I.mul (I.of .i64 8) x0.1.2.1))))),())))) (.done none)) (.done none)) (.done (some ((x0.2.2.1,()),())))) K ((a,(I.of .i64 0,())),(a2J,(a2J,())))
def b2R (K:Nat) (x:(⟨[.pl (.int .i64),.ptr 0 []],a0F⟩:Tm).D):Option (⟨[.pl a7K],a0F⟩:Tm).D :=
 let a:(I .i64):=x.1.1
 let h0:a0W:=x.2.1
 let h1:a0N:=x.2.2.1
 let h2:a0U:=x.2.2.2.1
 let h3:(List a0B):=x.2.2.2.2.1
 let h4:(List a0E):=x.2.2.2.2.2.1
 let h5:(List a0G):=x.2.2.2.2.2.2.1
 let h6:(List (I .u64)):=x.2.2.2.2.2.2.2.1
 let h7:(List a0D):=x.2.2.2.2.2.2.2.2.1
 brn (I.eqb (I.ofNat .i64 (@a0I a0B h3)) (I.of .i64 0)) (some ((((I.conv (k:=.i64) .u64 (I.rem a (I.of .i64 3))),((I.conv (k:=.i64) .u64 (I.rem a (I.of .i64 2))),(I.of .u64 5,((I.of .u64 1,(I.of .u64 0,(I.of .u64 0,(I.of .u64 0,())))),([],()))))),()),(h0,(h1,(h2,(h3,(h4,(h5,(h6,(h7,())))))))))) (brn (I.nz (I.ofNat .i64 (@a0I a0B h3))) (brn (I.nz (I.sub (I.ofNat .i64 (@a0I a0B h3)) (I.rem a (I.ofNat .i64 (@a0I a0B h3))))) (optF none (b1R K ((h3,((I.rem a (I.ofNat .i64 (@a0I a0B h3))),((I.add (I.add (I.rem a (I.ofNat .i64 (@a0I a0B h3))) (I.of .i64 1)) (I.rem (I.quo a (I.of .i64 7)) (I.sub (I.ofNat .i64 (@a0I a0B h3)) (I.rem a (I.ofNat .i64 (@a0I a0B h3)))))),()))),())) fun y0=>brn (inB (I.rem a (I.ofNat .i64 (@a0I a0B h3))) (@a0I a0B h3)) (brn (inB (I.rem a (I.ofNat .i64 (@a0I a0B h3))) (@a0I a0B h3)) (brn (I.eqb (I.rem (I.quo a (I.of .i64 3)) (I.of .i64 12)) (I.of .i64 0)) (optF none (a0C K (((@rdL a0B a0M h3 (I.nat (I.rem a (I.ofNat .i64 (@a0I a0B h3))))).2.2.1,()),())) fun y1=>optF none (a0H K ((I.of .u64 1,()),())) fun y2=>optF none (a1I K ((y1.1.1,(y2.1.1,())),())) fun y3=>optF none (b1V K ((),())) fun y4=>optF none (a0C K ((y4.1.1,()),())) fun y5=>optF none (a4J K ((y3.1.1,(y5.1.1,())),())) fun y6=>optF none (a0Q K ((y6.1.1,()),())) fun y7=>some ((((I.conv (k:=.i64) .u64 (I.rem a (I.ofNat .i64 (@a0I a0B h3)))),((I.conv (k:=.i64) .u64 (I.add (I.add (I.rem a (I.ofNat .i64 (@a0I a0B h3))) (I.of .i64 1)) (I.rem (I.quo a (I.of .i64 7)) (I.sub (I.ofNat .i64 (@a0I a0B h3)) (I.rem a (I.ofNat .i64 (@a0I a0B h3))))))),((@rdL a0B a0M h3 (I.nat (I.rem a (I.ofNat .i64 (@a0I a0B h3))))).2.1,(y7.1.1,(y0.2.1,()))))),()),(h0,(h1,(h2,(h3,(h4,(h5,(h6,(h7,())))))))))) (brn (I.eqb (I.rem (I.quo a (I.of .i64 3)) (I.of .i64 12)) (I.of .i64 1)) (some ((((I.conv (k:=.i64) .u64 (I.rem a (I.ofNat .i64 (@a0I a0B h3)))),((I.conv (k:=.i64) .u64 (I.add (I.add (I.rem a (I.ofNat .i64 (@a0I a0B h3))) (I.of .i64 1)) (I.rem (I.quo a (I.of .i64 7)) (I.sub (I.ofNat .i64 (@a0I a0B h3)) (I.rem a (I.ofNat .i64 (@a0I a0B h3))))))),((I.add (@rdL a0B a0M h3 (I.nat (I.rem a (I.ofNat .i64 (@a0I a0B h3))))).2.1 (I.of .u64 1)),((@rdL a0B a0M h3 (I.nat (I.rem a (I.ofNat .i64 (@a0I a0B h3))))).2.2.1,(y0.2.1,()))))),()),(h0,(h1,(h2,(h3,(h4,(h5,(h6,(h7,())))))))))) (brn (I.eqb (I.rem (I.quo a (I.of .i64 3)) (I.of .i64 12)) (I.of .i64 2)) (optF none (b1U K ((a,()),())) fun y1=>brn (a1G (@a0I a0G (@a2B a0G y0.2.1 (y1.1.1::[])))) (some ((((I.conv (k:=.i64) .u64 (I.rem a (I.ofNat .i64 (@a0I a0B h3)))),((I.conv (k:=.i64) .u64 (I.add (I.add (I.rem a (I.ofNat .i64 (@a0I a0B h3))) (I.of .i64 1)) (I.rem (I.quo a (I.of .i64 7)) (I.sub (I.ofNat .i64 (@a0I a0B h3)) (I.rem a (I.ofNat .i64 (@a0I a0B h3))))))),((@rdL a0B a0M h3 (I.nat (I.rem a (I.ofNat .i64 (@a0I a0B h3))))).2.1,((@rdL a0B a0M h3 (I.nat (I.rem a (I.ofNat .i64 (@a0I a0B h3))))).2.2.1,((@a2B a0G y0.2.1 (y1.1.1::[])),()))))),()),(h0,(h1,(h2,(h3,(h4,(h5,(h6,(h7,())))))))))) none) (brn (I.eqb (I.rem (I.quo a (I.of .i64 3)) (I.of .i64 12)) (I.of .i64 3)) (brn (I.nz (I.add (I.ofNat .i64 (@a0I a0B h3)) (I.of .i64 3))) (some ((((I.conv (k:=.i64) .u64 (I.rem a (I.ofNat .i64 (@a0I a0B h3)))),((I.conv (k:=.i64) .u64 (I.rem a (I.add (I.ofNat .i64 (@a0I a0B h3)) (I.of .i64 3)))),((@rdL a0B a0M h3 (I.nat (I.rem a (I.ofNat .i64 (@a0I a0B h3))))).2.1,((@rdL a0B a0M h3 (I.nat (I.rem a (I.ofNat .i64 (@a0I a0B h3))))).2.2.1,(y0.2.1,()))))),()),(h0,(h1,(h2,(h3,(h4,(h5,(h6,(h7,())))))))))) none) (some ((((I.conv (k:=.i64) .u64 (I.rem a (I.ofNat .i64 (@a0I a0B h3)))),((I.conv (k:=.i64) .u64 (I.add (I.add (I.rem a (I.ofNat .i64 (@a0I a0B h3))) (I.of .i64 1)) (I.rem (I.quo a (I.of .i64 7)) (I.sub (I.ofNat .i64 (@a0I a0B h3)) (I.rem a (I.ofNat .i64 (@a0I a0B h3))))))),((@rdL a0B a0M h3 (I.nat (I.rem a (I.ofNat .i64 (@a0I a0B h3))))).2.1,((@rdL a0B a0M h3 (I.nat (I.rem a (I.ofNat .i64 (@a0I a0B h3))))).2.2.1,(y0.2.1,()))))),()),(h0,(h1,(h2,(h3,(h4,(h5,(h6,(h7,())))))))))))))) none) none) none) none)
def a7R (K:Nat) (x:(⟨[.pl (.int .i64),.pl (.int .u64),.ptr 0 []],a0F⟩:Tm).D):Option (⟨[.pl a1R],a0F⟩:Tm).D :=
 let a:(I .i64):=x.1.1
 let b:(I .u64):=x.1.2.1
 let h0:a0W:=x.2.1
 let h1:a0N:=x.2.2.1
 let h2:a0U:=x.2.2.2.1
 let h3:(List a0B):=x.2.2.2.2.1
 let h4:(List a0E):=x.2.2.2.2.2.1
 let h5:(List a0G):=x.2.2.2.2.2.2.1
 let h6:(List (I .u64)):=x.2.2.2.2.2.2.2.1
 let h7:(List a0D):=x.2.2.2.2.2.2.2.2.1
 optF none (a2Y K (((h4,h1.2),(b,())),())) fun y0=>brn (inB (I.rem a (I.of .i64 6)) 6) (optF none (a0C K ((h0.2.2.1.2.2.2.1,()),())) fun y1=>optF none (a0H K (((I.conv (k:=.i64) .u64 (I.add (I.of .i64 1) (I.rem a (I.of .i64 3)))),()),())) fun y2=>optF none (a1W K ((y1.1.1,(y2.1.1,())),())) fun y3=>optF none (a0Q K ((y3.1.1,()),())) fun y4=>brn (inB' (I.rem (I.quo a (I.of .i64 5)) (I.of .i64 5)) 4) (optF none (a4K K (((@a4N (I .i64) (a::((I.quo a (I.of .i64 3))::((I.quo a (I.of .i64 7))::((I.quo a (I.of .i64 11))::[])))) 0 (I.nat (I.rem (I.quo a (I.of .i64 5)) (I.of .i64 5)))),()),())) fun y5=>brn (I.eqb (I.rem a (I.of .i64 29)) (I.of .i64 1)) (some (((b,((I.add y0.1.1.2.2.1 (I.of .u64 1)),((@Arr.sel (I .u64) (I.of .u64 0) 6 (I.of .u64 1,(I.of .u64 2,(I.of .u64 3,(I.of .u64 4,(I.of .u64 9,(I.of .u64 18446744073709551615,())))))) (I.nat (I.rem a (I.of .i64 6)))),(((I.mul (I.conv (k:=.i64) .u64 (I.rem (I.quo a (I.of .i64 6)) (I.of .i64 1000))) (I.of .u64 1000003)),(I.of .u64 0,(I.of .u64 0,(I.of .u64 0,())))),((I.add (I.of .u64 40000) (I.mul (I.conv (k:=.i64) .u64 (I.rem (I.quo a (I.of .i64 6000)) (I.of .i64 64))) (I.of .u64 5000))),(y4.1.1,(((I.mul (I.conv (k:=.i64) .u64 (I.rem a (I.of .i64 7))) (I.of .u64 100000)),(I.of .u64 0,(I.of .u64 0,(I.of .u64 0,())))),((I.mul (I.conv (k:=.i64) .u64 (I.rem (I.quo a (I.of .i64 11)) (I.of .i64 50))) (I.of .u64 3000)),(y5.1.1,()))))))))),()),(h0,(h1,(h2,(h3,(h4,(h5,(h6,(h7,())))))))))) (brn (I.eqb (I.rem a (I.of .i64 31)) (I.of .i64 2)) (some (((b,(y0.1.1.2.2.1,((@Arr.sel (I .u64) (I.of .u64 0) 6 (I.of .u64 1,(I.of .u64 2,(I.of .u64 3,(I.of .u64 4,(I.of .u64 9,(I.of .u64 18446744073709551615,())))))) (I.nat (I.rem a (I.of .i64 6)))),((I.of .u64 0,(I.of .u64 0,(I.of .u64 1,(I.of .u64 0,())))),((I.add (I.of .u64 40000) (I.mul (I.conv (k:=.i64) .u64 (I.rem (I.quo a (I.of .i64 6000)) (I.of .i64 64))) (I.of .u64 5000))),(y4.1.1,(((I.mul (I.conv (k:=.i64) .u64 (I.rem a (I.of .i64 7))) (I.of .u64 100000)),(I.of .u64 0,(I.of .u64 0,(I.of .u64 0,())))),((I.mul (I.conv (k:=.i64) .u64 (I.rem (I.quo a (I.of .i64 11)) (I.of .i64 50))) (I.of .u64 3000)),(y5.1.1,()))))))))),()),(h0,(h1,(h2,(h3,(h4,(h5,(h6,(h7,())))))))))) (brn (I.eqb (I.rem a (I.of .i64 37)) (I.of .i64 3)) (some (((b,(y0.1.1.2.2.1,((@Arr.sel (I .u64) (I.of .u64 0) 6 (I.of .u64 1,(I.of .u64 2,(I.of .u64 3,(I.of .u64 4,(I.of .u64 9,(I.of .u64 18446744073709551615,())))))) (I.nat (I.rem a (I.of .i64 6)))),(((I.mul (I.conv (k:=.i64) .u64 (I.rem (I.quo a (I.of .i64 6)) (I.of .i64 1000))) (I.of .u64 1000003)),(I.of .u64 0,(I.of .u64 0,(I.of .u64 0,())))),(I.of .u64 35184372088832,(y4.1.1,(((I.mul (I.conv (k:=.i64) .u64 (I.rem a (I.of .i64 7))) (I.of .u64 100000)),(I.of .u64 0,(I.of .u64 0,(I.of .u64 0,())))),((I.mul (I.conv (k:=.i64) .u64 (I.rem (I.quo a (I.of .i64 11)) (I.of .i64 50))) (I.of .u64 3000)),(y5.1.1,()))))))))),()),(h0,(h1,(h2,(h3,(h4,(h5,(h6,(h7,())))))))))) (brn (I.eqb (I.rem a (I.of .i64 41)) (I.of .i64 4)) (some (((b,(y0.1.1.2.2.1,((@Arr.sel (I .u64) (I.of .u64 0) 6 (I.of .u64 1,(I.of .u64 2,(I.of .u64 3,(I.of .u64 4,(I.of .u64 9,(I.of .u64 18446744073709551615,())))))) (I.nat (I.rem a (I.of .i64 6)))),(((I.mul (I.conv (k:=.i64) .u64 (I.rem (I.quo a (I.of .i64 6)) (I.of .i64 1000))) (I.of .u64 1000003)),(I.of .u64 0,(I.of .u64 0,(I.of .u64 0,())))),((I.add (I.of .u64 40000) (I.mul (I.conv (k:=.i64) .u64 (I.rem (I.quo a (I.of .i64 6000)) (I.of .i64 64))) (I.of .u64 5000))),((I.of .u64 1,(I.of .u64 0,(I.of .u64 0,(I.of .u64 0,())))),(((I.mul (I.conv (k:=.i64) .u64 (I.rem a (I.of .i64 7))) (I.of .u64 100000)),(I.of .u64 0,(I.of .u64 0,(I.of .u64 0,())))),((I.mul (I.conv (k:=.i64) .u64 (I.rem (I.quo a (I.of .i64 11)) (I.of .i64 50))) (I.of .u64 3000)),(y5.1.1,()))))))))),()),(h0,(h1,(h2,(h3,(h4,(h5,(h6,(h7,())))))))))) (brn (I.eqb (I.rem a (I.of .i64 43)) (I.of .i64 5)) (some (((b,(y0.1.1.2.2.1,(I.of .u64 0,(((I.mul (I.conv (k:=.i64) .u64 (I.rem (I.quo a (I.of .i64 6)) (I.of .i64 1000))) (I.of .u64 1000003)),(I.of .u64 0,(I.of .u64 0,(I.of .u64 0,())))),((I.add (I.of .u64 40000) (I.mul (I.conv (k:=.i64) .u64 (I.rem (I.quo a (I.of .i64 6000)) (I.of .i64 64))) (I.of .u64 5000))),(y4.1.1,(((I.mul (I.conv (k:=.i64) .u64 (I.rem a (I.of .i64 7))) (I.of .u64 100000)),(I.of .u64 0,(I.of .u64 0,(I.of .u64 0,())))),((I.mul (I.conv (k:=.i64) .u64 (I.rem (I.quo a (I.of .i64 11)) (I.of .i64 50))) (I.of .u64 3000)),(y5.1.1,()))))))))),()),(h0,(h1,(h2,(h3,(h4,(h5,(h6,(h7,())))))))))) (brn (I.eqb (I.rem a (I.of .i64 47)) (I.of .i64 6)) (optF none (b1V K ((),())) fun y6=>optF none (b1V K ((),())) fun y7=>some (((b,(y0.1.1.2.2.1,((@Arr.sel (I .u64) (I.of .u64 0) 6 (I.of .u64 1,(I.of .u64 2,(I.of .u64 3,(I.of .u64 4,(I.of .u64 9,(I.of .u64 18446744073709551615,())))))) (I.nat (I.rem a (I.of .i64 6)))),(((I.mul (I.conv (k:=.i64) .u64 (I.rem (I.quo a (I.of .i64 6)) (I.of .i64 1000))) (I.of .u64 1000003)),(I.of .u64 0,(I.of .u64 0,(I.of .u64 0,())))),((I.add (I.of .u64 40000) (I.mul (I.conv (k:=.i64) .u64 (I.rem (I.quo a (I.of .i64 6000)) (I.of .i64 64))) (I.of .u64 5000))),(y7.1.1,(y6.1.1,((I.mul (I.conv (k:=.i64) .u64 (I.rem (I.quo a (I.of .i64 11)) (I.of .i64 50))) (I.of .u64 3000)),(y5.1.1,()))))))))),()),(h0,(h1,(h2,(h3,(h4,(h5,(h6,(h7,())))))))))) (brn (I.eqb (I.rem a (I.of .i64 53)) (I.of .i64 7)) (some (((b,(y0.1.1.2.2.1,((@Arr.sel (I .u64) (I.of .u64 0) 6 (I.of .u64 1,(I.of .u64 2,(I.of .u64 3,(I.of .u64 4,(I.of .u64 9,(I.of .u64 18446744073709551615,())))))) (I.nat (I.rem a (I.of .i64 6)))),(((I.mul (I.conv (k:=.i64) .u64 (I.rem (I.quo a (I.of .i64 6)) (I.of .i64 1000))) (I.of .u64 1000003)),(I.of .u64 0,(I.of .u64 0,(I.of .u64 0,())))),((I.conv (k:=.i64) .u64 (I.rem a (I.of .i64 300))),(y4.1.1,(((I.mul (I.conv (k:=.i64) .u64 (I.rem a (I.of .i64 7))) (I.of .u64 100000)),(I.of .u64 0,(I.of .u64 0,(I.of .u64 0,())))),((I.mul (I.conv (k:=.i64) .u64 (I.rem (I.quo a (I.of .i64 11)) (I.of .i64 50))) (I.of .u64 3000)),(y5.1.1,()))))))))),()),(h0,(h1,(h2,(h3,(h4,(h5,(h6,(h7,())))))))))) (some (((b,(y0.1.1.2.2.1,((@Arr.sel (I .u64) (I.of .u64 0) 6 (I.of .u64 1,(I.of .u64 2,(I.of .u64 3,(I.of .u64 4,(I.of .u64 9,(I.of .u64 18446744073709551615,())))))) (I.nat (I.rem a (I.of .i64 6)))),(((I.mul (I.conv (k:=.i64) .u64 (I.rem (I.quo a (I.of .i64 6)) (I.of .i64 1000))) (I.of .u64 1000003)),(I.of .u64 0,(I.of .u64 0,(I.of .u64 0,())))),((I.add (I.of .u64 40000) (I.mul (I.conv (k:=.i64) .u64 (I.rem (I.quo a (I.of .i64 6000)) (I.of .i64 64))) (I.of .u64 5000))),(y4.1.1,(((I.mul (I.conv (k:=.i64) .u64 (I.rem a (I.of .i64 7))) (I.of .u64 100000)),(I.of .u64 0,(I.of .u64 0,(I.of .u64 0,())))),((I.mul (I.conv (k:=.i64) .u64 (I.rem (I.quo a (I.of .i64 11)) (I.of .i64 50))) (I.of .u64 3000)),(y5.1.1,()))))))))),()),(h0,(h1,(h2,(h3,(h4,(h5,(h6,(h7,()))))))))))))))))) none) none
def a9O (K:Nat) (x:(⟨[.pl (.int .i64),.ptr 0 [],.pl .bool],a0F⟩:Tm).D):Option (⟨[.pl a1H],a0F⟩:Tm).D :=
 let a:(I .i64):=x.1.1
 let b:Bool:=x.1.2.1
 let h0:a0W:=x.2.1
 let h1:a0N:=x.2.2.1
 let h2:a0U:=x.2.2.2.1
 let h3:(List a0B):=x.2.2.2.2.1
 let h4:(List a0E):=x.2.2.2.2.2.1
 let h5:(List a0G):=x.2.2.2.2.2.2.1
 let h6:(List (I .u64)):=x.2.2.2.2.2.2.2.1
 let h7:(List a0D):=x.2.2.2.2.2.2.2.2.1
 optF none (a7X K ((a,(I.of .i64 4611686018427387904,())),())) fun y0=>jn (fun (x1:((Bool × ((I .u64) × ((I .i64) × ((I .i64) × (Bool × Unit))))) × (a0W × (a0N × ((List a0E) × ((List a0B) × (a0U × ((List a0G) × ((List (I .u64)) × ((List a0D) × (a1D × Unit)))))))))))=>brn x1.1.2.2.2.2.1 (optF none (b0M K ((x1.1.2.2.1,(x1.1.2.1,(x1.1.1,()))),())) fun y2=>some ((y2.1.1,()),(x1.2.1,(x1.2.2.1,(x1.2.2.2.2.2.1,(x1.2.2.2.2.1,(x1.2.2.2.1,(x1.2.2.2.2.2.2.1,(x1.2.2.2.2.2.2.2.1,(x1.2.2.2.2.2.2.2.2.1,())))))))))) (jn (fun (x2:(((I .u64) × ((I .i64) × ((I .i64) × (Bool × Unit)))) × (a0W × (a0N × ((List a0E) × ((List a0B) × (a0U × ((List a0G) × ((List (I .u64)) × ((List a0D) × (a1D × Unit)))))))))))=>brn x2.1.2.2.2.1 (optF none (b1K K ((x2.1.2.1,()),(x2.2.1,(x2.2.2.1,(x2.2.2.2.2.2.1,(x2.2.2.2.2.1,(x2.2.2.2.1,(x2.2.2.2.2.2.2.1,(x2.2.2.2.2.2.2.2.1,(x2.2.2.2.2.2.2.2.2.1,())))))))))) fun y3=>some (((I.of .i64 2,((I.of .u64 0,(I.of .u64 0,(I.of .u64 0,(Z_U,(I.of .u64 0,(Z_U,(Z_U,(I.of .u64 0,([],()))))))))),(y3.1.1,(I.of .u64 0,(I.of .i64 0,(Z_U,(I.of .u64 0,((I.of .u64 0,(I.of .u64 0,(I.of .u64 0,(Z_U,([],()))))),())))))))),()),y3.2)) (brn (I.eqb x2.1.2.2.1 (I.of .i64 10)) (brn (I.eqb (I.rem x2.1.2.1 (I.of .i64 5)) (I.of .i64 0)) (some (((I.of .i64 3,((I.of .u64 0,(I.of .u64 0,(I.of .u64 0,(Z_U,(I.of .u64 0,(Z_U,(Z_U,(I.of .u64 0,([],()))))))))),(a0M,((I.conv (k:=.i64) .u64 (I.rem x2.1.2.1 (I.of .i64 3000))),(I.of .i64 0,(Z_U,(I.of .u64 0,((I.of .u64 0,(I.of .u64 0,(I.of .u64 0,(Z_U,([],()))))),())))))))),()),(x2.2.1,(x2.2.2.1,(x2.2.2.2.2.2.1,(x2.2.2.2.2.1,(x2.2.2.2.1,(x2.2.2.2.2.2.2.1,(x2.2.2.2.2.2.2.2.1,(x2.2.2.2.2.2.2.2.2.1,())))))))))) (some (((I.of .i64 3,((I.of .u64 0,(I.of .u64 0,(I.of .u64 0,(Z_U,(I.of .u64 0,(Z_U,(Z_U,(I.of .u64 0,([],()))))))))),(a0M,((I.conv (k:=.i64) .u64 (I.add (I.of .i64 1) (I.rem x2.1.2.1 (I.of .i64 30)))),(I.of .i64 0,(Z_U,(I.of .u64 0,((I.of .u64 0,(I.of .u64 0,(I.of .u64 0,(Z_U,([],()))))),())))))))),()),(x2.2.1,(x2.2.2.1,(x2.2.2.2.2.2.1,(x2.2.2.2.2.1,(x2.2.2.2.1,(x2.2.2.2.2.2.2.1,(x2.2.2.2.2.2.2.2.1,(x2.2.2.2.2.2.2.2.2.1,()))))))))))) (brn (I.eqb x2.1.2.2.1 (I.of .i64 11)) (optF none (b2Y K ((x2.1.2.1,()),())) fun y3=>some ((y3.1.1,()),(x2.2.1,(x2.2.2.1,(x2.2.2.2.2.2.1,(x2.2.2.2.2.1,(x2.2.2.2.1,(x2.2.2.2.2.2.2.1,(x2.2.2.2.2.2.2.2.1,(x2.2.2.2.2.2.2.2.2.1,())))))))))) (brn (I.eqb x2.1.2.2.1 (I.of .i64 12)) (brn (I.eqb (I.rem x2.1.2.1 (I.of .i64 13)) (I.of .i64 0)) (some (((I.of .i64 5,((I.of .u64 0,(I.of .u64 0,(I.of .u64 0,(Z_U,(I.of .u64 0,(Z_U,(Z_U,(I.of .u64 0,([],()))))))))),(a0M,(I.of .u64 0,(I.of .i64 0,(Z_U,((I.conv (k:=.i64) .u64 (I.rem x2.1.2.1 (I.of .i64 9))),((I.of .u64 0,(I.of .u64 0,(I.of .u64 0,(Z_U,([],()))))),())))))))),()),(x2.2.1,(x2.2.2.1,(x2.2.2.2.2.2.1,(x2.2.2.2.2.1,(x2.2.2.2.1,(x2.2.2.2.2.2.2.1,(x2.2.2.2.2.2.2.2.1,(x2.2.2.2.2.2.2.2.2.1,())))))))))) (some (((I.of .i64 5,((I.of .u64 0,(I.of .u64 0,(I.of .u64 0,(Z_U,(I.of .u64 0,(Z_U,(Z_U,(I.of .u64 0,([],()))))))))),(a0M,(I.of .u64 0,(I.of .i64 0,(Z_U,((I.conv (k:=.i64) .u64 (I.add (I.of .i64 5) (I.rem x2.1.2.1 (I.of .i64 3)))),((I.of .u64 0,(I.of .u64 0,(I.of .u64 0,(Z_U,([],()))))),())))))))),()),(x2.2.1,(x2.2.2.1,(x2.2.2.2.2.2.1,(x2.2.2.2.2.1,(x2.2.2.2.1,(x2.2.2.2.2.2.2.1,(x2.2.2.2.2.2.2.2.1,(x2.2.2.2.2.2.2.2.2.1,()))))))))))) (jn (fun (x3:(((I .u64) × ((I .i64) × (Bool × Unit))) × (a0W × (a0N × ((List a0E) × ((List a0B) × (a0U × ((List a0G) × ((List (I .u64)) × ((List a0D) × (a1D × Unit)))))))))))=>brn x3.1.2.2.1 (optF none (b2R K ((x3.1.2.1,()),(x3.2.1,(x3.2.2.1,(x3.2.2.2.2.2.1,(x3.2.2.2.2.1,(x3.2.2.2.1,(x3.2.2.2.2.2.2.1,(x3.2.2.2.2.2.2.2.1,(x3.2.2.2.2.2.2.2.2.1,())))))))))) fun y4=>some (((I.of .i64 7,((I.of .u64 0,(I.of .u64 0,(I.of .u64 0,(Z_U,(I.of .u64 0,(Z_U,(Z_U,(I.of .u64 0,([],()))))))))),(a0M,(I.of .u64 0,(I.of .i64 0,(Z_U,(I.of .u64 0,(y4.1.1,())))))))),()),y4.2)) (optF none (a7R K ((x3.1.2.1,(x3.1.1,())),(x3.2.1,(x3.2.2.1,(x3.2.2.2.2.2.1,(x3.2.2.2.2.1,(x3.2.2.2.1,(x3.2.2.2.2.2.2.1,(x3.2.2.2.2.2.2.2.1,(x3.2.2.2.2.2.2.2.2.1,())))))))))) fun y4=>some (((I.of .i64 1,(y4.1.1,(a0M,(I.of .u64 0,(I.of .i64 0,(Z_U,(I.of .u64 0,((I.of .u64 0,(I.of .u64 0,(I.of .u64 0,(Z_U,([],()))))),())))))))),()),y4.2))) fun j3=>brn (I.eqb x2.1.2.2.1 (I.of .i64 13)) (j3 ((x2.1.1,(x2.1.2.1,((I.eqb x2.1.2.2.1 (I.of .i64 13)),()))),(x2.2.1,(x2.2.2.1,(x2.2.2.2.1,(x2.2.2.2.2.1,(x2.2.2.2.2.2.1,(x2.2.2.2.2.2.2.1,(x2.2.2.2.2.2.2.2.1,(x2.2.2.2.2.2.2.2.2.1,(x2.2.2.2.2.2.2.2.2.2.1,()))))))))))) (j3 ((x2.1.1,(x2.1.2.1,((I.eqb x2.1.2.2.1 (I.of .i64 14)),()))),(x2.2.1,(x2.2.2.1,(x2.2.2.2.1,(x2.2.2.2.2.1,(x2.2.2.2.2.2.1,(x2.2.2.2.2.2.2.1,(x2.2.2.2.2.2.2.2.1,(x2.2.2.2.2.2.2.2.2.1,(x2.2.2.2.2.2.2.2.2.2.1,())))))))))))))))) fun j2=>brn (I.eqb x1.1.2.2.2.1 (I.of .i64 8)) (j2 ((x1.1.2.1,(x1.1.2.2.1,(x1.1.2.2.2.1,((I.eqb x1.1.2.2.2.1 (I.of .i64 8)),())))),(x1.2.1,(x1.2.2.1,(x1.2.2.2.1,(x1.2.2.2.2.1,(x1.2.2.2.2.2.1,(x1.2.2.2.2.2.2.1,(x1.2.2.2.2.2.2.2.1,(x1.2.2.2.2.2.2.2.2.1,(x1.2.2.2.2.2.2.2.2.2.1,()))))))))))) (j2 ((x1.1.2.1,(x1.1.2.2.1,(x1.1.2.2.2.1,((I.eqb x1.1.2.2.2.1 (I.of .i64 9)),())))),(x1.2.1,(x1.2.2.1,(x1.2.2.2.1,(x1.2.2.2.2.1,(x1.2.2.2.2.2.1,(x1.2.2.2.2.2.2.1,(x1.2.2.2.2.2.2.2.1,(x1.2.2.2.2.2.2.2.2.1,(x1.2.2.2.2.2.2.2.2.2.1,()))))))))))))) fun j1=>brn (I.eqb (I.rem y0.1.1 (I.of .i64 16)) (I.of .i64 0)) (j1 ((b,((I.conv (k:=.i64) .u64 (I.add (I.of .i64 1) (I.rem (I.quo y0.1.1 (I.of .i64 16)) (I.of .i64 4)))),((I.quo y0.1.1 (I.of .i64 64)),((I.rem y0.1.1 (I.of .i64 16)),((I.eqb (I.rem y0.1.1 (I.of .i64 16)) (I.of .i64 0)),()))))),(h0,(h1,(h4,(h3,(h2,(h5,(h6,(h7,((I.of .i64 0,((I.of .u64 0,(I.of .u64 0,(I.of .u64 0,(Z_U,(I.of .u64 0,(Z_U,(Z_U,(I.of .u64 0,([],()))))))))),(a0M,(I.of .u64 0,(I.of .i64 0,(Z_U,(I.of .u64 0,((I.of .u64 0,(I.of .u64 0,(I.of .u64 0,(Z_U,([],()))))),())))))))),()))))))))))) (j1 ((b,((I.conv (k:=.i64) .u64 (I.add (I.of .i64 1) (I.rem (I.quo y0.1.1 (I.of .i64 16)) (I.of .i64 4)))),((I.quo y0.1.1 (I.of .i64 64)),((I.rem y0.1.1 (I.of .i64 16)),((I.eqb (I.rem y0.1.1 (I.of .i64 16)) (I.of .i64 1)),()))))),(h0,(h1,(h4,(h3,(h2,(h5,(h6,(h7,((I.of .i64 0,((I.of .u64 0,(I.of .u64 0,(I.of .u64 0,(Z_U,(I.of .u64 0,(Z_U,(Z_U,(I.of .u64 0,([],()))))))))),(a0M,(I.of .u64 0,(I.of .i64 0,(Z_U,(I.of .u64 0,((I.of .u64 0,(I.of .u64 0,(I.of .u64 0,(Z_U,([],()))))),())))))))),())))))))))))
def a7M (K:Nat) (x:(⟨[.pl (.sl (.int .i64)),.pl .bool],[]⟩:Tm).D):Option (⟨[.ptr 0 [],.whole 8,.whole 9],[.box a1J (.pair (.pl (.int .u64)) (.pair (.pl a0P) (.pair (.pl a1Q) (.pair (.pl (.int .u64)) (.pair (.pl a1A) (.pair (.ptr 1 []) (.pair (.whole 3) (.pair (.ptr 2 []) (.pl .nil))))))))),.box a0K (.pair (.whole 4) (.pl (.cons (.arr 4 a1T) .nil))),.box a0R (.pair (.pl a1T) (.pair (.whole 5) (.pair (.whole 6) (.pair (.whole 7) (.pl .nil))))),.row a0O,.row a0X,.row (.arr 32 (.int .u8)),.row (.int .u64),.row a0Y,.row a1H,.row a1N]⟩:Tm).D :=
 let a:(List (I .i64)):=x.1.1
 let b:Bool:=x.1.2.1
 optF none (b4F K ((),())) fun y0=>optF none (b1G K ((),())) fun y1=>iter none (fun (x2:(((List (I .i64)) × (Bool × ((I .i64) × Unit))) × (a0W × (a0N × ((List a0E) × ((List a0B) × (a0U × ((List a0G) × ((List (I .u64)) × ((List a0D) × ((List a1D) × ((List a1C) × Unit))))))))))))=>brn (I.ltb x2.1.2.2.1 (I.ofNat .i64 (@a0I a1D x2.2.2.2.2.2.2.2.2.2.1))) (brn (inB x2.1.2.2.1 (@a0I a1D x2.2.2.2.2.2.2.2.2.2.1)) (optF (.done none) (a3Y K (((@rdL a1D (I.of .i64 0,((I.of .u64 0,(I.of .u64 0,(I.of .u64 0,(Z_U,(I.of .u64 0,(Z_U,(Z_U,(I.of .u64 0,([],()))))))))),(a0M,(I.of .u64 0,(I.of .i64 0,(Z_U,(I.of .u64 0,((I.of .u64 0,(I.of .u64 0,(I.of .u64 0,(Z_U,([],()))))),())))))))) x2.2.2.2.2.2.2.2.2.2.1 (I.nat x2.1.2.2.1)),()),(x2.2.1,(x2.2.2.1,(x2.2.2.2.2.2.1,(x2.2.2.2.2.1,(x2.2.2.2.1,(x2.2.2.2.2.2.2.1,(x2.2.2.2.2.2.2.2.1,(x2.2.2.2.2.2.2.2.2.1,())))))))))) fun y3=>brn (a1G (@a0I a1C (@a2B a1C x2.2.2.2.2.2.2.2.2.2.2.1 (y3.1.1::[])))) (.again ((x2.1.1,(x2.1.2.1,((I.add x2.1.2.2.1 (I.of .i64 1)),()))),(y3.2.1,(y3.2.2.1,(y3.2.2.2.2.2.1,(y3.2.2.2.2.1,(y3.2.2.2.1,(y3.2.2.2.2.2.2.1,(y3.2.2.2.2.2.2.2.1,(y3.2.2.2.2.2.2.2.2.1,(x2.2.2.2.2.2.2.2.2.2.1,((@a2B a1C x2.2.2.2.2.2.2.2.2.2.2.1 (y3.1.1::[])),())))))))))))) (.done none)) (.done none)) (.done (iter none (fun x3=>brn (I.ltb x3.1.2.2.1 (I.ofNat .i64 (@a0I (I .i64) x3.1.1))) (brn (inB x3.1.2.2.1 (@a0I (I .i64) x3.1.1)) (optF (.done none) (a9O K (((@rdL (I .i64) (I.of .i64 0) x3.1.1 (I.nat x3.1.2.2.1)),(x3.1.2.1,())),(x3.2.1,(x3.2.2.1,(x3.2.2.2.2.2.1,(x3.2.2.2.2.1,(x3.2.2.2.1,(x3.2.2.2.2.2.2.1,(x3.2.2.2.2.2.2.2.1,(x3.2.2.2.2.2.2.2.2.1,())))))))))) fun y4=>brn (a1G (@a0I a1D (@a2B a1D x3.2.2.2.2.2.2.2.2.2.1 (y4.1.1::[])))) (optF (.done none) (a3Y K ((y4.1.1,()),y4.2)) fun y5=>brn (a1G (@a0I a1C (@a2B a1C x3.2.2.2.2.2.2.2.2.2.2.1 (y5.1.1::[])))) (.again ((x3.1.1,(x3.1.2.1,((I.add x3.1.2.2.1 (I.of .i64 1)),()))),(y5.2.1,(y5.2.2.1,(y5.2.2.2.2.2.1,(y5.2.2.2.2.1,(y5.2.2.2.1,(y5.2.2.2.2.2.2.1,(y5.2.2.2.2.2.2.2.1,(y5.2.2.2.2.2.2.2.2.1,((@a2B a1D x3.2.2.2.2.2.2.2.2.2.1 (y4.1.1::[])),((@a2B a1C x3.2.2.2.2.2.2.2.2.2.2.1 (y5.1.1::[])),())))))))))))) (.done none)) (.done none)) (.done none)) (.done (some ((),(x3.2.1,(x3.2.2.1,(x3.2.2.2.2.2.1,(x3.2.2.2.2.1,(x3.2.2.2.1,(x3.2.2.2.2.2.2.1,(x3.2.2.2.2.2.2.2.1,(x3.2.2.2.2.2.2.2.2.1,(x3.2.2.2.2.2.2.2.2.2.1,(x3.2.2.2.2.2.2.2.2.2.2.1,())))))))))))))) K ((x2.1.1,(x2.1.2.1,(I.of .i64 0,()))),(x2.2.1,(x2.2.2.1,(x2.2.2.2.1,(x2.2.2.2.2.1,(x2.2.2.2.2.2.1,(x2.2.2.2.2.2.2.1,(x2.2.2.2.2.2.2.2.1,(x2.2.2.2.2.2.2.2.2.1,(x2.2.2.2.2.2.2.2.2.2.1,(x2.2.2.2.2.2.2.2.2.2.2.1,())))))))))))))) K ((a,(b,(I.of .i64 0,()))),(y0.2.1,(y0.2.2.1,(y0.2.2.2.2.2.1,(y0.2.2.2.2.1,(y0.2.2.2.1,(y0.2.2.2.2.2.2.1,(y0.2.2.2.2.2.2.2.1,(y0.2.2.2.2.2.2.2.2.1,(y1.2.1,([],())))))))))))
def b2P (K:Nat) (x:(⟨[.pl (.sl a1H),.pl (.sl a1N)],[]⟩:Tm).D):Option (⟨[.pl a2H,.pl (.int .i64)],[]⟩:Tm).D :=
 let a:(List a1D):=x.1.1
 let b:(List a1C):=x.1.2.1
 brn (I.neb (I.ofNat .i64 (@a0I a1D a)) (I.ofNat .i64 (@a0I a1C b))) (some ((a2W,(I.of .i64 2,())),())) (iter none (fun x0=>brn (I.ltb x0.1.2.2.2.2.1 x0.1.2.2.2.1) (brn (inB x0.1.2.2.2.2.1 (@a0I a1C x0.1.2.2.1)) (brn (I.eqb (@rdL a1C (I.of .i64 0,(I.of .i64 0,(a1S,(Z_U,(Z_U,(I.of .u64 0,(Z_U,(Z_U,([],()))))))))) x0.1.2.2.1 (I.nat x0.1.2.2.2.2.1)).2.1 (I.of .i64 0)) (brn (inB x0.1.2.2.2.2.1 (@a0I a1D x0.1.1)) (brn (I.neb (@rdL a1C (I.of .i64 0,(I.of .i64 0,(a1S,(Z_U,(Z_U,(I.of .u64 0,(Z_U,(Z_U,([],()))))))))) x0.1.2.2.1 (I.nat x0.1.2.2.2.2.1)).1 (@rdL a1D (I.of .i64 0,((I.of .u64 0,(I.of .u64 0,(I.of .u64 0,(Z_U,(I.of .u64 0,(Z_U,(Z_U,(I.of .u64 0,([],()))))))))),(a0M,(I.of .u64 0,(I.of .i64 0,(Z_U,(I.of .u64 0,((I.of .u64 0,(I.of .u64 0,(I.of .u64 0,(Z_U,([],()))))),())))))))) x0.1.1 (I.nat x0.1.2.2.2.2.1)).1) (.done (some ((a2W,(I.of .i64 2,())),()))) (.again ((x0.1.1,(x0.1.2.1,(x0.1.2.2.1,(x0.1.2.2.2.1,((I.add x0.1.2.2.2.2.1 (I.of .i64 1)),()))))),(x0.2.1,())))) (.done none)) (.again ((x0.1.1,(x0.1.2.1,(x0.1.2.2.1,(x0.1.2.2.2.1,((I.add x0.1.2.2.2.2.1 (I.of .i64 1)),()))))),(x0.2.1,())))) (.done none)) (.done (iter none (fun x1=>brn (I.ltb x1.1.2.2.2.1 x1.1.2.2.1) (brn (inB x1.1.2.2.2.1 (@a0I a1C x1.1.2.1)) (brn (I.eqb (@rdL a1C (I.of .i64 0,(I.of .i64 0,(a1S,(Z_U,(Z_U,(I.of .u64 0,(Z_U,(Z_U,([],()))))))))) x1.1.2.1 (I.nat x1.1.2.2.2.1)).2.1 (I.of .i64 0)) (brn (inB x1.1.2.2.2.1 (@a0I a1D x1.1.1)) (iter (.done none) (fun (x2:(((List a0B) × ((I .i64) × ((I .i64) × ((List a1D) × ((List a1C) × ((I .i64) × ((I .i64) × Unit))))))) × ((Bool × Unit) × (b4T × (a1D × (a1C × (b4T × Unit)))))))=>brn (I.ltb x2.1.2.2.1 x2.1.2.1) (brn (inB x2.1.2.2.1 (@a0I a0B x2.1.1)) (optF (.done (.done none)) (a3W ((x2.2.2.1.2.1,((@rdL a0B a0M x2.1.1 (I.nat x2.1.2.2.1)).2.2.1,())),())) fun y3=>brn x2.2.1.1 (.again ((x2.1.1,(x2.1.2.1,((I.add x2.1.2.2.1 (I.of .i64 1)),(x2.1.2.2.2.1,(x2.1.2.2.2.2.1,(x2.1.2.2.2.2.2.1,(x2.1.2.2.2.2.2.2.1,()))))))),((true,x2.2.1.2),((x2.2.2.1.1,(y3.1.1,x2.2.2.1.2.2)),(x2.2.2.2.1,(x2.2.2.2.2.1,(x2.2.2.2.2.2.1,()))))))) (.again ((x2.1.1,(x2.1.2.1,((I.add x2.1.2.2.1 (I.of .i64 1)),(x2.1.2.2.2.1,(x2.1.2.2.2.2.1,(x2.1.2.2.2.2.2.1,(x2.1.2.2.2.2.2.2.1,()))))))),(((I.neb y3.1.2.1 (I.of .i64 0)),x2.2.1.2),((x2.2.2.1.1,(y3.1.1,x2.2.2.1.2.2)),(x2.2.2.2.1,(x2.2.2.2.2.1,(x2.2.2.2.2.2.1,())))))))) (.done (.done none))) (.done (brn (I.eqb x2.2.2.2.1.1 (I.of .i64 1)) (optF (.done none) (a3W ((x2.2.2.1.2.2.2.1,(x2.2.2.2.2.1.2.2.1.2.2.2.2.2.2.1,())),())) fun y3=>brn x2.2.1.1 (optF (.done none) (a3W ((x2.2.2.1.2.2.2.2.1,(x2.2.2.2.2.1.2.2.1.2.2.2.2.2.2.2.1,())),())) fun y4=>optF (.done none) (a3W ((x2.2.2.1.2.2.2.2.2.1,(x2.2.2.2.2.1.2.2.1.2.2.2.2.2.2.2.2.1,())),())) fun y5=>optF (.done none) (a3W ((x2.2.2.1.2.2.2.2.2.2.1,(x2.2.2.2.2.1.2.2.1.2.2.2.2.2.2.2.2.2.1,())),())) fun y6=>.again ((x2.1.2.2.2.1,(x2.1.2.2.2.2.1,(x2.1.2.2.2.2.2.1,((I.add x2.1.2.2.2.2.2.2.1 (I.of .i64 1)),())))),(x2.2.2.2.2.2.1,((x2.2.2.1.1,(x2.2.2.1.2.1,(x2.2.2.1.2.2.1,(y3.1.1,(y4.1.1,(y5.1.1,(y6.1.1,x2.2.2.1.2.2.2.2.2.2.2))))))),((true,x2.2.1.2),()))))) (optF (.done none) (a3W ((x2.2.2.1.2.2.2.2.1,(x2.2.2.2.2.1.2.2.1.2.2.2.2.2.2.2.1,())),())) fun y4=>brn (I.neb y3.1.2.1 (I.of .i64 0)) (optF (.done none) (a3W ((x2.2.2.1.2.2.2.2.2.1,(x2.2.2.2.2.1.2.2.1.2.2.2.2.2.2.2.2.1,())),())) fun y5=>optF (.done none) (a3W ((x2.2.2.1.2.2.2.2.2.2.1,(x2.2.2.2.2.1.2.2.1.2.2.2.2.2.2.2.2.2.1,())),())) fun y6=>.again ((x2.1.2.2.2.1,(x2.1.2.2.2.2.1,(x2.1.2.2.2.2.2.1,((I.add x2.1.2.2.2.2.2.2.1 (I.of .i64 1)),())))),(x2.2.2.2.2.2.1,((x2.2.2.1.1,(x2.2.2.1.2.1,(x2.2.2.1.2.2.1,(y3.1.1,(y4.1.1,(y5.1.1,(y6.1.1,x2.2.2.1.2.2.2.2.2.2.2))))))),((true,x2.2.1.2),()))))) (optF (.done none) (a3W ((x2.2.2.1.2.2.2.2.2.1,(x2.2.2.2.2.1.2.2.1.2.2.2.2.2.2.2.2.1,())),())) fun y5=>brn (I.neb y4.1.2.1 (I.of .i64 0)) (optF (.done none) (a3W ((x2.2.2.1.2.2.2.2.2.2.1,(x2.2.2.2.2.1.2.2.1.2.2.2.2.2.2.2.2.2.1,())),())) fun y6=>.again ((x2.1.2.2.2.1,(x2.1.2.2.2.2.1,(x2.1.2.2.2.2.2.1,((I.add x2.1.2.2.2.2.2.2.1 (I.of .i64 1)),())))),(x2.2.2.2.2.2.1,((x2.2.2.1.1,(x2.2.2.1.2.1,(x2.2.2.1.2.2.1,(y3.1.1,(y4.1.1,(y5.1.1,(y6.1.1,x2.2.2.1.2.2.2.2.2.2.2))))))),((true,x2.2.1.2),()))))) (optF (.done none) (a3W ((x2.2.2.1.2.2.2.2.2.2.1,(x2.2.2.2.2.1.2.2.1.2.2.2.2.2.2.2.2.2.1,())),())) fun y6=>brn (I.neb y5.1.2.1 (I.of .i64 0)) (.again ((x2.1.2.2.2.1,(x2.1.2.2.2.2.1,(x2.1.2.2.2.2.2.1,((I.add x2.1.2.2.2.2.2.2.1 (I.of .i64 1)),())))),(x2.2.2.2.2.2.1,((x2.2.2.1.1,(x2.2.2.1.2.1,(x2.2.2.1.2.2.1,(y3.1.1,(y4.1.1,(y5.1.1,(y6.1.1,x2.2.2.1.2.2.2.2.2.2.2))))))),((true,x2.2.1.2),()))))) (.again ((x2.1.2.2.2.1,(x2.1.2.2.2.2.1,(x2.1.2.2.2.2.2.1,((I.add x2.1.2.2.2.2.2.2.1 (I.of .i64 1)),())))),(x2.2.2.2.2.2.1,((x2.2.2.1.1,(x2.2.2.1.2.1,(x2.2.2.1.2.2.1,(y3.1.1,(y4.1.1,(y5.1.1,(y6.1.1,x2.2.2.1.2.2.2.2.2.2.2))))))),(((I.neb y6.1.2.1 (I.of .i64 0)),x2.2.1.2),()))))))))) (brn (I.eqb x2.2.2.2.1.1 (I.of .i64 2)) (optF (.done none) (a3W ((x2.2.2.1.2.2.2.2.2.2.2.1,(x2.2.2.2.2.1.2.2.2.2.2.2.2.1,())),())) fun y3=>brn x2.2.1.1 (.again ((x2.1.2.2.2.1,(x2.1.2.2.2.2.1,(x2.1.2.2.2.2.2.1,((I.add x2.1.2.2.2.2.2.2.1 (I.of .i64 1)),())))),(x2.2.2.2.2.2.1,((x2.2.2.1.1,(x2.2.2.1.2.1,(x2.2.2.1.2.2.1,(x2.2.2.1.2.2.2.1,(x2.2.2.1.2.2.2.2.1,(x2.2.2.1.2.2.2.2.2.1,(x2.2.2.1.2.2.2.2.2.2.1,(y3.1.1,x2.2.2.1.2.2.2.2.2.2.2.2)))))))),((true,x2.2.1.2),()))))) (.again ((x2.1.2.2.2.1,(x2.1.2.2.2.2.1,(x2.1.2.2.2.2.2.1,((I.add x2.1.2.2.2.2.2.2.1 (I.of .i64 1)),())))),(x2.2.2.2.2.2.1,((x2.2.2.1.1,(x2.2.2.1.2.1,(x2.2.2.1.2.2.1,(x2.2.2.1.2.2.2.1,(x2.2.2.1.2.2.2.2.1,(x2.2.2.1.2.2.2.2.2.1,(x2.2.2.1.2.2.2.2.2.2.1,(y3.1.1,x2.2.2.1.2.2.2.2.2.2.2.2)))))))),(((I.neb y3.1.2.1 (I.of .i64 0)),x2.2.1.2),())))))) (brn (I.eqb x2.2.2.2.1.1 (I.of .i64 6)) (optF (.done none) (a3W ((x2.2.2.1.1,(x2.2.2.2.1.2.2.2.2.2.1,())),())) fun y3=>brn x2.2.1.1 (.again ((x2.1.2.2.2.1,(x2.1.2.2.2.2.1,(x2.1.2.2.2.2.2.1,((I.add x2.1.2.2.2.2.2.2.1 (I.of .i64 1)),())))),(x2.2.2.2.2.2.1,((y3.1.1,x2.2.2.1.2),((true,x2.2.1.2),()))))) (.again ((x2.1.2.2.2.1,(x2.1.2.2.2.2.1,(x2.1.2.2.2.2.2.1,((I.add x2.1.2.2.2.2.2.2.1 (I.of .i64 1)),())))),(x2.2.2.2.2.2.1,((y3.1.1,x2.2.2.1.2),(((I.neb y3.1.2.1 (I.of .i64 0)),x2.2.1.2),())))))) (brn (I.eqb x2.2.2.2.1.1 (I.of .i64 7)) (optF (.done none) (a3W ((x2.2.2.1.2.2.1,(x2.2.2.2.1.2.2.2.2.2.2.2.1.2.2.2.1,())),())) fun y3=>brn x2.2.1.1 (.again ((x2.1.2.2.2.1,(x2.1.2.2.2.2.1,(x2.1.2.2.2.2.2.1,((I.add x2.1.2.2.2.2.2.2.1 (I.of .i64 1)),())))),(x2.2.2.2.2.2.1,((x2.2.2.1.1,(x2.2.2.1.2.1,(y3.1.1,x2.2.2.1.2.2.2))),((true,x2.2.1.2),()))))) (.again ((x2.1.2.2.2.1,(x2.1.2.2.2.2.1,(x2.1.2.2.2.2.2.1,((I.add x2.1.2.2.2.2.2.2.1 (I.of .i64 1)),())))),(x2.2.2.2.2.2.1,((x2.2.2.1.1,(x2.2.2.1.2.1,(y3.1.1,x2.2.2.1.2.2.2))),(((I.neb y3.1.2.1 (I.of .i64 0)),x2.2.1.2),())))))) (.again ((x2.1.2.2.2.1,(x2.1.2.2.2.2.1,(x2.1.2.2.2.2.2.1,((I.add x2.1.2.2.2.2.2.2.1 (I.of .i64 1)),())))),(x2.2.2.2.2.2.1,(x2.2.2.1,(x2.2.1,()))))))))))) K (((@rdL a1C (I.of .i64 0,(I.of .i64 0,(a1S,(Z_U,(Z_U,(I.of .u64 0,(Z_U,(Z_U,([],()))))))))) x1.1.2.1 (I.nat x1.1.2.2.2.1)).2.2.2.2.2.2.2.2.1,((I.ofNat .i64 (@a0I a0B (@rdL a1C (I.of .i64 0,(I.of .i64 0,(a1S,(Z_U,(Z_U,(I.of .u64 0,(Z_U,(Z_U,([],()))))))))) x1.1.2.1 (I.nat x1.1.2.2.2.1)).2.2.2.2.2.2.2.2.1)),(I.of .i64 0,(x1.1.1,(x1.1.2.1,(x1.1.2.2.1,(x1.1.2.2.2.1,()))))))),(x1.2.2.2.1,(x1.2.2.1,((@rdL a1D (I.of .i64 0,((I.of .u64 0,(I.of .u64 0,(I.of .u64 0,(Z_U,(I.of .u64 0,(Z_U,(Z_U,(I.of .u64 0,([],()))))))))),(a0M,(I.of .u64 0,(I.of .i64 0,(Z_U,(I.of .u64 0,((I.of .u64 0,(I.of .u64 0,(I.of .u64 0,(Z_U,([],()))))),())))))))) x1.1.1 (I.nat x1.1.2.2.2.1)),((@rdL a1C (I.of .i64 0,(I.of .i64 0,(a1S,(Z_U,(Z_U,(I.of .u64 0,(Z_U,(Z_U,([],()))))))))) x1.1.2.1 (I.nat x1.1.2.2.2.1)),(x1.2.1,()))))))) (.done none)) (.again ((x1.1.1,(x1.1.2.1,(x1.1.2.2.1,((I.add x1.1.2.2.2.1 (I.of .i64 1)),())))),(x1.2.1,(x1.2.2.1,(x1.2.2.2.1,())))))) (.done none)) (.done (brn x1.2.2.2.1.1 (some ((a2W,(I.of .i64 4,())),())) (some ((x1.2.2.1,(I.of .i64 0,())),()))))) K ((x0.1.1,(x0.1.2.1,((I.ofNat .i64 (@a0I a1C x0.1.2.1)),(I.of .i64 0,())))),(x0.2.1,(a2W,((false,()),()))))))) K ((a,(b,(b,((I.ofNat .i64 (@a0I a1C b)),(I.of .i64 0,()))))),(a2W,())))
def b1S (K:Nat) (x:(⟨[.bp a0K],[]⟩:Tm).D):Option (⟨[.whole 0],[.row a0X]⟩:Tm).D :=
 let a:a2X:=x.1.1
 iter none (fun (x0:((a2X × ((I .i64) × Unit)) × ((List a0E) × Unit)))=>brn (I.ltb x0.1.2.1 (I.ofNat .i64 (@a0I a0E x0.1.1.1))) (brn (inB x0.1.2.1 (@a0I a0E x0.1.1.1)) (jn (fun (x1:((a2X × ((I .i64) × Unit)) × ((List a0E) × (a0E × Unit))))=>jn (fun (x2:((a2X × ((I .i64) × ((I .i64) × Unit))) × ((List a0E) × (a0E × Unit))))=>brn (inB' x2.1.2.2.1 (@a0I a0E x2.2.1)) (brn (eqV x2.1.2.2.1 x2.1.2.2.1) (brn (inB' x2.1.2.2.1 (@a0I a0E x2.2.1)) (brn (a1G (@a0I a0E (@a2B a0E (x2.2.2.1::[]) (@a4N a0E x2.2.1 (I.nat x2.1.2.2.1) ((@a0I a0E x2.2.1) - (I.nat x2.1.2.2.1)))))) (brn (a1G (@a0I a0E (@a2B a0E (@a4N a0E x2.2.1 0 (I.nat x2.1.2.2.1)) (@a2B a0E (x2.2.2.1::[]) (@a4N a0E x2.2.1 (I.nat x2.1.2.2.1) ((@a0I a0E x2.2.1) - (I.nat x2.1.2.2.1))))))) (brn (c9R (@a0I a0E (@a2B a0E (x2.2.2.1::[]) (@a4N a0E x2.2.1 (I.nat x2.1.2.2.1) ((@a0I a0E x2.2.1) - (I.nat x2.1.2.2.1)))))) (.done none) (.again ((x2.1.1,((I.add x2.1.2.1 (I.of .i64 1)),())),((@a2B a0E (@a4N a0E x2.2.1 0 (I.nat x2.1.2.2.1)) (@a2B a0E (x2.2.2.1::[]) (@a4N a0E x2.2.1 (I.nat x2.1.2.2.1) ((@a0I a0E x2.2.1) - (I.nat x2.1.2.2.1))))),())))) (.done none)) (.done none)) (.done none)) (.done none)) (.done none)) fun j2=>iter (.done none) (fun x3=>brn (I.ltb (I.of .i64 0) x3.1.2.2.1) (brn (inB (I.sub x3.1.2.2.1 (I.of .i64 1)) (@a0I a0E x3.2.1)) (brn (I.ltb x3.2.2.1.1 (@rdL a0E a5B x3.2.1 (I.nat (I.sub x3.1.2.2.1 (I.of .i64 1)))).1) (.again ((x3.1.1,(x3.1.2.1,((I.sub x3.1.2.2.1 (I.of .i64 1)),()))),(x3.2.1,(x3.2.2.1,())))) (.done (j2 ((x3.1.1,(x3.1.2.1,(x3.1.2.2.1,()))),(x3.2.1,(x3.2.2.1,())))))) (.done (.done none))) (.done (j2 ((x3.1.1,(x3.1.2.1,(x3.1.2.2.1,()))),(x3.2.1,(x3.2.2.1,())))))) K ((x1.1.1,(x1.1.2.1,((I.ofNat .i64 (@a0I a0E x1.2.1)),()))),(x1.2.1,(x1.2.2.1,())))) fun j1=>optF (.done none) (a2E K (((@rdL a0E a5B x0.1.1.1 (I.nat x0.1.2.1)).2.1,()),())) fun y2=>brn y2.1.1 (brn (I.eqb (@rdL a0E a5B x0.1.1.1 (I.nat x0.1.2.1)).2.2.1 (I.of .u64 0)) (.again ((x0.1.1,((I.add x0.1.2.1 (I.of .i64 1)),())),(x0.2.1,()))) (j1 ((x0.1.1,(x0.1.2.1,())),(x0.2.1,((@rdL a0E a5B x0.1.1.1 (I.nat x0.1.2.1)),()))))) (j1 ((x0.1.1,(x0.1.2.1,())),(x0.2.1,((@rdL a0E a5B x0.1.1.1 (I.nat x0.1.2.1)),()))))) (.done none)) (.done (some ((),(x0.2.1,()))))) K ((a,(I.of .i64 0,())),([],()))
def b0B (K:Nat) (x:(⟨[.bp a0R],[]⟩:Tm).D):Option (⟨[.whole 0],[.row a0Y]⟩:Tm).D :=
 let a:a6X:=x.1.1
 iter none (fun (x0:((a6X × ((I .i64) × Unit)) × ((List a0D) × Unit)))=>brn (I.ltb x0.1.2.1 (I.ofNat .i64 (@a0I a0D x0.1.1.2.2.2.1))) (jn (fun (x1:((a6X × ((I .i64) × ((I .i64) × Unit))) × ((List a0D) × Unit)))=>brn (inB' x1.1.2.2.1 (@a0I a0D x1.2.1)) (brn (eqV x1.1.2.2.1 x1.1.2.2.1) (brn (inB x1.1.2.1 (@a0I a0D x1.1.1.2.2.2.1)) (brn (inB' x1.1.2.2.1 (@a0I a0D x1.2.1)) (brn (a1G (@a0I a0D (@a2B a0D ((@rdL a0D a1Y x1.1.1.2.2.2.1 (I.nat x1.1.2.1))::[]) (@a4N a0D x1.2.1 (I.nat x1.1.2.2.1) ((@a0I a0D x1.2.1) - (I.nat x1.1.2.2.1)))))) (brn (a1G (@a0I a0D (@a2B a0D (@a4N a0D x1.2.1 0 (I.nat x1.1.2.2.1)) (@a2B a0D ((@rdL a0D a1Y x1.1.1.2.2.2.1 (I.nat x1.1.2.1))::[]) (@a4N a0D x1.2.1 (I.nat x1.1.2.2.1) ((@a0I a0D x1.2.1) - (I.nat x1.1.2.2.1))))))) (brn (c9R (@a0I a0D (@a2B a0D ((@rdL a0D a1Y x1.1.1.2.2.2.1 (I.nat x1.1.2.1))::[]) (@a4N a0D x1.2.1 (I.nat x1.1.2.2.1) ((@a0I a0D x1.2.1) - (I.nat x1.1.2.2.1)))))) (.done none) (.again ((x1.1.1,((I.add x1.1.2.1 (I.of .i64 1)),())),((@a2B a0D (@a4N a0D x1.2.1 0 (I.nat x1.1.2.2.1)) (@a2B a0D ((@rdL a0D a1Y x1.1.1.2.2.2.1 (I.nat x1.1.2.1))::[]) (@a4N a0D x1.2.1 (I.nat x1.1.2.2.1) ((@a0I a0D x1.2.1) - (I.nat x1.1.2.2.1))))),())))) (.done none)) (.done none)) (.done none)) (.done none)) (.done none)) (.done none)) fun j1=>iter (.done none) (fun x2=>brn (I.ltb (I.of .i64 0) x2.1.2.2.1) (brn (inB (I.sub x2.1.2.2.1 (I.of .i64 1)) (@a0I a0D x2.2.1)) (brn (inB x2.1.2.1 (@a0I a0D x2.1.1.2.2.2.1)) (brn (I.ltb (@rdL a0D a1Y x2.1.1.2.2.2.1 (I.nat x2.1.2.1)).1 (@rdL a0D a1Y x2.2.1 (I.nat (I.sub x2.1.2.2.1 (I.of .i64 1)))).1) (.again ((x2.1.1,(x2.1.2.1,((I.sub x2.1.2.2.1 (I.of .i64 1)),()))),(x2.2.1,()))) (.done (j1 ((x2.1.1,(x2.1.2.1,(x2.1.2.2.1,()))),(x2.2.1,()))))) (.done (.done none))) (.done (.done none))) (.done (j1 ((x2.1.1,(x2.1.2.1,(x2.1.2.2.1,()))),(x2.2.1,()))))) K ((x0.1.1,(x0.1.2.1,((I.ofNat .i64 (@a0I a0D x0.2.1)),()))),(x0.2.1,()))) (.done (some ((),(x0.2.1,()))))) K ((a,(I.of .i64 0,())),([],()))
def a6G (K:Nat) (x:(⟨[.ptr 0 []],a0F⟩:Tm).D):Option (⟨[.pair (.pl (.int .u64)) (.pair (.pl a0P) (.pair (.pl a1Q) (.pair (.pl (.int .u64)) (.pair (.pair (.pl a1T) (.pair (.pl (.int .u64)) (.pair (.pl (.int .u64)) (.pair (.pl (.int .u64)) (.pair (.pl a1U) (.pair (.whole 8) (.pl .nil))))))) (.pair (.whole 9) (.pair (.pl (.arr 4 a1T)) (.pair (.whole 10) (.pair (.whole 11) (.pair (.pl a1T) (.pair (.whole 12) (.pl .nil)))))))))))],[.box a1J (.pair (.pl (.int .u64)) (.pair (.pl a0P) (.pair (.pl a1Q) (.pair (.pl (.int .u64)) (.pair (.pl a1A) (.pair (.ptr 1 []) (.pair (.whole 3) (.pair (.ptr 2 []) (.pl .nil))))))))),.box a0K (.pair (.whole 4) (.pl (.cons (.arr 4 a1T) .nil))),.box a0R (.pair (.pl a1T) (.pair (.whole 5) (.pair (.whole 6) (.pair (.whole 7) (.pl .nil))))),.row a0O,.row a0X,.row (.arr 32 (.int .u8)),.row (.int .u64),.row a0Y,.row a0Z,.row a0X,.row a0O,.row .bool,.row a0Y]⟩:Tm).D :=
 let h0:a0W:=x.2.1
 let h1:a0N:=x.2.2.1
 let h2:a0U:=x.2.2.2.1
 let h3:(List a0B):=x.2.2.2.2.1
 let h4:(List a0E):=x.2.2.2.2.2.1
 let h5:(List a0G):=x.2.2.2.2.2.2.1
 let h6:(List (I .u64)):=x.2.2.2.2.2.2.2.1
 let h7:(List a0D):=x.2.2.2.2.2.2.2.2.1
 optF none (b1S K (((h4,h1.2),()),())) fun y0=>brn (a1G (@a0I a0B (@a2B a0B [] h3))) (optF none (b0B K (((h2.1,(h5,(h6,(h7,h2.2.2.2.2)))),()),())) fun y1=>brn (a1G (@a0I a0A (@a2B a0A [] h0.2.2.2.2.1.2.2.2.2.2.1))) (iter none (fun (x2:(((I .i64) × Unit) × (a0W × (a0N × ((List a0E) × ((List a0B) × (a0U × ((List a0G) × ((List (I .u64)) × ((List a0D) × (((I .u64) × (a3E × (a9K × ((I .u64) × ((U × ((I .u64) × ((I .u64) × ((I .u64) × (c0N × (Unit × Unit)))))) × (Unit × (c7V × (Unit × (Unit × (U × (Unit × Unit))))))))))) × ((List a0A) × ((List a0E) × ((List a0B) × ((List Bool) × ((List a0D) × (((I .u64) × (a3E × (a9K × ((I .u64) × ((U × ((I .u64) × ((I .u64) × ((I .u64) × (c0N × (Unit × Unit)))))) × (Unit × (c7V × (Unit × (Unit × (U × (Unit × Unit))))))))))) × ((List a0A) × ((List a0E) × ((List a0B) × ((List Bool) × ((List a0D) × Unit))))))))))))))))))))))=>brn (I.ltb x2.1.1 (I.ofNat .i64 (@a0I a0B x2.2.2.2.2.1))) (optF (.done none) (a4G K (((x2.2.2.2.2.2.1.1,(x2.2.2.2.2.2.2.1,(x2.2.2.2.2.2.2.2.1,(x2.2.2.2.2.2.2.2.2.1,x2.2.2.2.2.2.1.2.2.2.2)))),((I.conv (k:=.i64) .u64 x2.1.1),())),())) fun y3=>brn (a1G (@a0I Bool (@a2B Bool x2.2.2.2.2.2.2.2.2.2.2.2.2.2.2.2.2.2.2.2.1 (y3.1.1::[])))) (.again (((I.add x2.1.1 (I.of .i64 1)),()),((x2.2.1.1,(x2.2.1.2.1,(x2.2.1.2.2.1,(x2.2.1.2.2.2.1,(x2.2.1.2.2.2.2.1,((),((),((),x2.2.1.2.2.2.2.2.2.2.2)))))))),(((),x2.2.2.1.2),(x2.2.2.2.1,(x2.2.2.2.2.1,((x2.2.2.2.2.2.1.1,((),((),((),x2.2.2.2.2.2.1.2.2.2.2)))),(x2.2.2.2.2.2.2.1,(x2.2.2.2.2.2.2.2.1,(x2.2.2.2.2.2.2.2.2.1,((x2.2.2.2.2.2.2.2.2.2.1.1,(x2.2.2.2.2.2.2.2.2.2.1.2.1,(x2.2.2.2.2.2.2.2.2.2.1.2.2.1,(x2.2.2.2.2.2.2.2.2.2.1.2.2.2.1,((x2.2.2.2.2.2.2.2.2.2.1.2.2.2.2.1.1,(x2.2.2.2.2.2.2.2.2.2.1.2.2.2.2.1.2.1,(x2.2.2.2.2.2.2.2.2.2.1.2.2.2.2.1.2.2.1,(x2.2.2.2.2.2.2.2.2.2.1.2.2.2.2.1.2.2.2.1,(x2.2.2.2.2.2.2.2.2.2.1.2.2.2.2.1.2.2.2.2.1,((),x2.2.2.2.2.2.2.2.2.2.1.2.2.2.2.1.2.2.2.2.2.2)))))),((),(x2.2.2.2.2.2.2.2.2.2.1.2.2.2.2.2.2.1,((),((),(x2.2.2.2.2.2.2.2.2.2.1.2.2.2.2.2.2.2.2.2.1,((),x2.2.2.2.2.2.2.2.2.2.1.2.2.2.2.2.2.2.2.2.2.2))))))))))),(x2.2.2.2.2.2.2.2.2.2.2.1,(x2.2.2.2.2.2.2.2.2.2.2.2.1,(x2.2.2.2.2.2.2.2.2.2.2.2.2.1,(x2.2.2.2.2.2.2.2.2.2.2.2.2.2.1,(x2.2.2.2.2.2.2.2.2.2.2.2.2.2.2.1,((x2.2.2.2.2.2.2.2.2.2.2.2.2.2.2.2.1.1,(x2.2.2.2.2.2.2.2.2.2.2.2.2.2.2.2.1.2.1,(x2.2.2.2.2.2.2.2.2.2.2.2.2.2.2.2.1.2.2.1,(x2.2.2.2.2.2.2.2.2.2.2.2.2.2.2.2.1.2.2.2.1,((x2.2.2.2.2.2.2.2.2.2.2.2.2.2.2.2.1.2.2.2.2.1.1,(x2.2.2.2.2.2.2.2.2.2.2.2.2.2.2.2.1.2.2.2.2.1.2.1,(x2.2.2.2.2.2.2.2.2.2.2.2.2.2.2.2.1.2.2.2.2.1.2.2.1,(x2.2.2.2.2.2.2.2.2.2.2.2.2.2.2.2.1.2.2.2.2.1.2.2.2.1,(x2.2.2.2.2.2.2.2.2.2.2.2.2.2.2.2.1.2.2.2.2.1.2.2.2.2.1,((),x2.2.2.2.2.2.2.2.2.2.2.2.2.2.2.2.1.2.2.2.2.1.2.2.2.2.2.2)))))),((),(x2.2.2.2.2.2.2.2.2.2.2.2.2.2.2.2.1.2.2.2.2.2.2.1,((),((),(x2.2.2.2.2.2.2.2.2.2.2.2.2.2.2.2.1.2.2.2.2.2.2.2.2.2.1,((),x2.2.2.2.2.2.2.2.2.2.2.2.2.2.2.2.1.2.2.2.2.2.2.2.2.2.2.2))))))))))),(x2.2.2.2.2.2.2.2.2.2.2.2.2.2.2.2.2.1,(x2.2.2.2.2.2.2.2.2.2.2.2.2.2.2.2.2.2.1,(x2.2.2.2.2.2.2.2.2.2.2.2.2.2.2.2.2.2.2.1,((@a2B Bool x2.2.2.2.2.2.2.2.2.2.2.2.2.2.2.2.2.2.2.2.1 (y3.1.1::[])),(x2.2.2.2.2.2.2.2.2.2.2.2.2.2.2.2.2.2.2.2.2.1,())))))))))))))))))))))) (.done none)) (.done (some (((x2.2.2.2.2.2.2.2.2.2.2.2.2.2.2.2.1.1,(x2.2.2.2.2.2.2.2.2.2.2.2.2.2.2.2.1.2.1,(x2.2.2.2.2.2.2.2.2.2.2.2.2.2.2.2.1.2.2.1,(x2.2.2.2.2.2.2.2.2.2.2.2.2.2.2.2.1.2.2.2.1,((x2.2.2.2.2.2.2.2.2.2.2.2.2.2.2.2.1.2.2.2.2.1.1,(x2.2.2.2.2.2.2.2.2.2.2.2.2.2.2.2.1.2.2.2.2.1.2.1,(x2.2.2.2.2.2.2.2.2.2.2.2.2.2.2.2.1.2.2.2.2.1.2.2.1,(x2.2.2.2.2.2.2.2.2.2.2.2.2.2.2.2.1.2.2.2.2.1.2.2.2.1,(x2.2.2.2.2.2.2.2.2.2.2.2.2.2.2.2.1.2.2.2.2.1.2.2.2.2.1,((),x2.2.2.2.2.2.2.2.2.2.2.2.2.2.2.2.1.2.2.2.2.1.2.2.2.2.2.2)))))),((),(x2.2.2.2.2.2.2.2.2.2.2.2.2.2.2.2.1.2.2.2.2.2.2.1,((),((),(x2.2.2.2.2.2.2.2.2.2.2.2.2.2.2.2.1.2.2.2.2.2.2.2.2.2.1,((),x2.2.2.2.2.2.2.2.2.2.2.2.2.2.2.2.1.2.2.2.2.2.2.2.2.2.2.2))))))))))),()),((x2.2.1.1,(x2.2.1.2.1,(x2.2.1.2.2.1,(x2.2.1.2.2.2.1,(x2.2.1.2.2.2.2.1,((),((),((),x2.2.1.2.2.2.2.2.2.2.2)))))))),(((),x2.2.2.1.2),((x2.2.2.2.2.2.1.1,((),((),((),x2.2.2.2.2.2.1.2.2.2.2)))),(x2.2.2.2.2.1,(x2.2.2.2.1,(x2.2.2.2.2.2.2.1,(x2.2.2.2.2.2.2.2.1,(x2.2.2.2.2.2.2.2.2.1,(x2.2.2.2.2.2.2.2.2.2.2.2.2.2.2.2.2.1,(x2.2.2.2.2.2.2.2.2.2.2.2.2.2.2.2.2.2.1,(x2.2.2.2.2.2.2.2.2.2.2.2.2.2.2.2.2.2.2.1,(x2.2.2.2.2.2.2.2.2.2.2.2.2.2.2.2.2.2.2.2.1,(x2.2.2.2.2.2.2.2.2.2.2.2.2.2.2.2.2.2.2.2.2.1,()))))))))))))))))) K ((I.of .i64 0,()),((h0.1,(h0.2.1,(h0.2.2.1,(h0.2.2.2.1,(h0.2.2.2.2.1,((),((),((),h0.2.2.2.2.2.2.2.2)))))))),(((),h1.2),(h4,(h3,((h2.1,((),((),((),h2.2.2.2.2)))),(h5,(h6,(h7,((I.of .u64 0,(a5R,(a4R,(I.of .u64 0,((Z_U,(I.of .u64 0,(I.of .u64 0,(I.of .u64 0,(a2V,((),())))))),((),(c5G,((),((),(Z_U,((),()))))))))))),([],([],([],([],([],((h0.1,(h0.2.1,(h0.2.2.1,(h0.2.2.2.1,((h0.2.2.2.2.1.1,(h0.2.2.2.2.1.2.1,(h0.2.2.2.2.1.2.2.1,(h0.2.2.2.2.1.2.2.2.1,(h0.2.2.2.2.1.2.2.2.2.1,((),h0.2.2.2.2.1.2.2.2.2.2.2)))))),((),(h1.2.1,((),((),(h2.1,((),()))))))))))),((@a2B a0A [] h0.2.2.2.2.1.2.2.2.2.2.1),(y0.2.1,((@a2B a0B [] h3),([],(y1.2.1,())))))))))))))))))))))) none) none
def b1D (K:Nat) (x:(⟨[.pl (.arr 5 (.int .u64)),.pl a1T],[]⟩:Tm).D):Option (⟨[.pl (.arr 5 (.int .u64))],[]⟩:Tm).D :=
 let a:((I .u64) × U):=x.1.1
 let b:U:=x.1.2.1
 iter none (fun x0=>brn (I.ltb x0.1.2.1 (I.of .i64 4)) (brn (inB x0.1.2.1 5) (brn (inB x0.1.2.1 4) (optF (.done none) (c7T (((@Arr.sel (I .u64) (I.of .u64 0) 5 x0.2.1 (I.nat x0.1.2.1)),((@Arr.sel (I .u64) (I.of .u64 0) 4 x0.2.2.1 (I.nat x0.1.2.1)),(x0.1.1,()))),())) fun y1=>brn (inB x0.1.2.1 5) (.again ((y1.1.2.1,((I.add x0.1.2.1 (I.of .i64 1)),())),((@Arr.upd (I .u64) 5 x0.2.1 (I.nat x0.1.2.1) y1.1.1),(x0.2.2.1,(x0.2.2.2.1,()))))) (.done none)) (.done none)) (.done none)) (.done (some (((x0.2.1.1,(x0.2.1.2.1,(x0.2.1.2.2.1,(x0.2.1.2.2.2.1,((I.add x0.2.1.2.2.2.2.1 x0.1.1),()))))),()),())))) K ((I.of .u64 0,(I.of .i64 0,())),(a,(b,((I.of .u64 0,Z_U),()))))
def b2I (K:Nat) (x:(⟨[.pl (.sl a1T)],[]⟩:Tm).D):Option (⟨[.pl (.arr 5 (.int .u64))],[]⟩:Tm).D :=
 let a:(List U):=x.1.1
 iter none (fun x0=>brn (I.ltb x0.1.2.2.1 x0.1.2.1) (brn (inB x0.1.2.2.1 (@a0I U x0.1.1)) (optF (.done none) (b1D K ((x0.2.2.1,((@rdL U Z_U x0.1.1 (I.nat x0.1.2.2.1)),())),())) fun y1=>.again ((x0.1.1,(x0.1.2.1,((I.add x0.1.2.2.1 (I.of .i64 1)),()))),(x0.2.1,(y1.1.1,())))) (.done none)) (.done (some ((x0.2.2.1,()),())))) K ((a,((I.ofNat .i64 (@a0I U a)),(I.of .i64 0,()))),((I.of .u64 0,Z_U),((I.of .u64 0,Z_U),())))
def c9C (K:Nat) (x:(⟨[.pl a8D],[]⟩:Tm).D):Option (⟨[.pl (.arr 5 (.int .u64))],[]⟩:Tm).D :=
 let a:c2Z:=x.1.1
 optF none (b2I K (((@a4N U (@Arr.list U 4 a.2.2.2.2.2.2.1) 0 4),()),())) fun y0=>iter none (fun x1=>brn (I.ltb x1.1.2.2.1 x1.1.2.1) (brn (inB x1.1.2.2.1 (@a0I a0E x1.1.1)) (optF (.done none) (b1D K ((x1.2.2.1,((@rdL a0E a5B x1.1.1 (I.nat x1.1.2.2.1)).2.1,())),())) fun y2=>.again ((x1.1.1,(x1.1.2.1,((I.add x1.1.2.2.1 (I.of .i64 1)),()))),(x1.2.1,(y2.1.1,())))) (.done none)) (.done (some ((x1.2.2.1,()),())))) K ((a.2.2.2.2.2.1,((I.ofNat .i64 (@a0I a0E a.2.2.2.2.2.1)),(I.of .i64 0,()))),((I.of .u64 0,Z_U),(y0.1.1,())))
def b9Q (K:Nat) (x:(⟨[.pl a8D],[]⟩:Tm).D):Option (⟨[.pl (.arr 5 (.int .u64))],[]⟩:Tm).D :=
 let a:c2Z:=x.1.1
 iter none (fun x0=>brn (I.ltb x0.1.2.2.1 x0.1.2.1) (brn (inB x0.1.2.2.1 (@a0I a0B x0.1.1)) (optF (.done none) (b1D K ((x0.2.2.1,((@rdL a0B a0M x0.1.1 (I.nat x0.1.2.2.1)).2.2.1,())),())) fun y1=>.again ((x0.1.1,(x0.1.2.1,((I.add x0.1.2.2.1 (I.of .i64 1)),()))),(x0.2.1,(y1.1.1,())))) (.done none)) (.done (some ((x0.2.2.1,()),())))) K ((a.2.2.2.2.2.2.2.1,((I.ofNat .i64 (@a0I a0B a.2.2.2.2.2.2.2.1)),(I.of .i64 0,()))),((I.of .u64 0,Z_U),((I.of .u64 0,Z_U),())))
def b9A (K:Nat) (x:(⟨[.pl (.sl a0Z)],[]⟩:Tm).D):Option (⟨[.pl .bool],[]⟩:Tm).D :=
 let a:(List a0A):=x.1.1
 iter none (fun x0=>brn (I.ltb x0.1.2.2.1 x0.1.2.1) (brn (inB x0.1.2.2.1 (@a0I a0A x0.1.1)) (optF (.done none) (b2I K ((((@rdL a0A a0S x0.1.1 (I.nat x0.1.2.2.1)).2.1::((@rdL a0A a0S x0.1.1 (I.nat x0.1.2.2.1)).2.2.2.2.1::[])),()),())) fun y1=>optF (.done none) (b2I K ((((@rdL a0A a0S x0.1.1 (I.nat x0.1.2.2.1)).2.2.1::((@rdL a0A a0S x0.1.1 (I.nat x0.1.2.2.1)).2.2.2.1::[])),()),())) fun y2=>brn (a5Q (Ty.eqb (.arr 5 (.int .u64)) y1.1.1 y2.1.1)) (.done (some ((false,()),()))) (.again ((x0.1.1,(x0.1.2.1,((I.add x0.1.2.2.1 (I.of .i64 1)),()))),()))) (.done none)) (.done (some ((true,()),())))) K ((a,((I.ofNat .i64 (@a0I a0A a)),(I.of .i64 0,()))),())
def c4I (K:Nat) (x:(⟨[.pl (.sl a0Z)],[]⟩:Tm).D):Option (⟨[.pl (.arr 5 (.int .u64))],[]⟩:Tm).D :=
 let a:(List a0A):=x.1.1
 iter none (fun x0=>brn (I.ltb x0.1.2.2.1 x0.1.2.1) (brn (inB x0.1.2.2.1 (@a0I a0A x0.1.1)) (optF (.done none) (b1D K ((x0.2.2.1,((@rdL a0A a0S x0.1.1 (I.nat x0.1.2.2.1)).2.2.2.2.1,())),())) fun y1=>.again ((x0.1.1,(x0.1.2.1,((I.add x0.1.2.2.1 (I.of .i64 1)),()))),(x0.2.1,(y1.1.1,())))) (.done none)) (.done (some ((x0.2.2.1,()),())))) K ((a,((I.ofNat .i64 (@a0I a0A a)),(I.of .i64 0,()))),((I.of .u64 0,Z_U),((I.of .u64 0,Z_U),())))
def c2K (K:Nat) (x:(⟨[.pl a8D,.pl a2H],[]⟩:Tm).D):Option (⟨[.pl (.int .i64)],[]⟩:Tm).D :=
 let a:c2Z:=x.1.1
 let b:b4T:=x.1.2.1
 optF none (c9C K ((a,()),())) fun y0=>optF none (b1D K ((y0.1.1,(b.2.1,())),())) fun y1=>optF none (b2I K (((b.1::[]),()),())) fun y2=>brn (a5Q (Ty.eqb (.arr 5 (.int .u64)) y1.1.1 y2.1.1)) (some ((I.of .i64 1,()),())) (jn (fun (x3:((Bool × Unit) × (c2Z × (b4T × Unit))))=>brn x3.1.1 (some ((I.of .i64 2,()),())) (optF none (b2I K (((x3.2.1.2.2.2.2.2.2.2.2.2.1::(x3.2.2.1.2.2.1::[])),()),())) fun y4=>optF none (b2I K (((x3.2.2.1.1::[]),()),())) fun y5=>brn (a5Q (Ty.eqb (.arr 5 (.int .u64)) y4.1.1 y5.1.1)) (some ((I.of .i64 3,()),())) (optF none (b9Q K ((x3.2.1,()),())) fun y6=>optF none (b2I K (((x3.2.2.1.2.1::[]),()),())) fun y7=>brn (a5Q (Ty.eqb (.arr 5 (.int .u64)) y6.1.1 y7.1.1)) (some ((I.of .i64 4,()),())) (optF none (b9A K ((x3.2.1.2.2.2.2.1.2.2.2.2.2.1,()),())) fun y8=>brn (a5Q y8.1.1) (some ((I.of .i64 5,()),())) (optF none (c4I K ((x3.2.1.2.2.2.2.1.2.2.2.2.2.1,()),())) fun y9=>optF none (b2I K (((x3.2.2.1.2.2.2.2.2.2.2.1::[]),()),())) fun y10=>brn (a5Q (Ty.eqb (.arr 5 (.int .u64)) y9.1.1 y10.1.1)) (some ((I.of .i64 6,()),())) (some ((I.of .i64 0,()),()))))))) fun j3=>brn (a5Q (Ty.eqb a1T a.2.2.2.2.2.2.1.1 b.2.2.2.2.2.1)) (j3 ((true,()),(a,(b,())))) (brn (a5Q (Ty.eqb a1T a.2.2.2.2.2.2.1.2.1 b.2.2.2.2.1)) (j3 ((true,()),(a,(b,())))) (brn (a5Q (Ty.eqb a1T a.2.2.2.2.2.2.1.2.2.2.1 b.2.2.2.2.2.2.1)) (j3 ((true,()),(a,(b,())))) (optF none (b2I K (((a.2.2.2.2.2.2.1.2.2.1::(b.2.2.2.2.2.2.2.1::[])),()),())) fun y4=>optF none (b2I K (((b.2.2.2.1::[]),()),())) fun y5=>j3 (((a5Q (Ty.eqb (.arr 5 (.int .u64)) y4.1.1 y5.1.1)),()),(a,(b,())))))))
def b1T (K:Nat) (x:(⟨[],[]⟩:Tm).D):Option (⟨[.pl .bool],[]⟩:Tm).D :=
 optF none (a7M K (([],(true,())),())) fun y0=>optF none (b2P K (([],([],())),())) fun y1=>optF none (b4F K ((),())) fun y2=>brn (I.eqb y1.1.2.1 (I.of .i64 0)) (brn (Ty.eqb a2H y1.1.1 a2W) (optF none (a6G K ((),(y2.2.1,(y2.2.2.1,(y2.2.2.2.1,(y2.2.2.2.2.1,(y2.2.2.2.2.2.1,(y2.2.2.2.2.2.2.1,(y2.2.2.2.2.2.2.2.1,(y2.2.2.2.2.2.2.2.2.1,())))))))))) fun y3=>optF none (c2K K (((y3.1.1.1,(y3.1.1.2.1,(y3.1.1.2.2.1,(y3.1.1.2.2.2.1,((y3.1.1.2.2.2.2.1.1,(y3.1.1.2.2.2.2.1.2.1,(y3.1.1.2.2.2.2.1.2.2.1,(y3.1.1.2.2.2.2.1.2.2.2.1,(y3.1.1.2.2.2.2.1.2.2.2.2.1,(y3.2.2.2.2.2.2.2.2.2.1,y3.1.1.2.2.2.2.1.2.2.2.2.2.2)))))),(y3.2.2.2.2.2.2.2.2.2.2.1,(y3.1.1.2.2.2.2.2.2.1,(y3.2.2.2.2.2.2.2.2.2.2.2.1,(y3.2.2.2.2.2.2.2.2.2.2.2.2.1,(y3.1.1.2.2.2.2.2.2.2.2.2.1,(y3.2.2.2.2.2.2.2.2.2.2.2.2.2.1,y3.1.1.2.2.2.2.2.2.2.2.2.2.2))))))))))),(y1.1.1,())),())) fun y4=>brn (I.eqb y4.1.1 (I.of .i64 0)) (optF none (a6G K ((),(y3.2.1,(y3.2.2.1,(y3.2.2.2.1,(y3.2.2.2.2.1,(y3.2.2.2.2.2.1,(y3.2.2.2.2.2.2.1,(y3.2.2.2.2.2.2.2.1,(y3.2.2.2.2.2.2.2.2.1,())))))))))) fun y5=>optF none (c2K K (((y5.1.1.1,(y5.1.1.2.1,(y5.1.1.2.2.1,(y5.1.1.2.2.2.1,((y5.1.1.2.2.2.2.1.1,(y5.1.1.2.2.2.2.1.2.1,(y5.1.1.2.2.2.2.1.2.2.1,(y5.1.1.2.2.2.2.1.2.2.2.1,(y5.1.1.2.2.2.2.1.2.2.2.2.1,(y5.2.2.2.2.2.2.2.2.2.1,y5.1.1.2.2.2.2.1.2.2.2.2.2.2)))))),(y5.2.2.2.2.2.2.2.2.2.2.1,(y5.1.1.2.2.2.2.2.2.1,(y5.2.2.2.2.2.2.2.2.2.2.2.1,(y5.2.2.2.2.2.2.2.2.2.2.2.2.1,(y5.1.1.2.2.2.2.2.2.2.2.2.1,(y5.2.2.2.2.2.2.2.2.2.2.2.2.2.1,y5.1.1.2.2.2.2.2.2.2.2.2.2.2))))))))))),(((I.of .u64 1,(I.of .u64 0,(I.of .u64 0,(I.of .u64 0,())))),(Z_U,(Z_U,(Z_U,c5G)))),())),())) fun y6=>brn (I.eqb y6.1.1 (I.of .i64 1)) (optF none (a6G K ((),(y0.2.1,(y0.2.2.1,(y0.2.2.2.1,(y0.2.2.2.2.1,(y0.2.2.2.2.2.1,(y0.2.2.2.2.2.2.1,(y0.2.2.2.2.2.2.2.1,(y0.2.2.2.2.2.2.2.2.1,())))))))))) fun y7=>optF none (c2K K (((y7.1.1.1,(y7.1.1.2.1,(y7.1.1.2.2.1,(y7.1.1.2.2.2.1,((y7.1.1.2.2.2.2.1.1,(y7.1.1.2.2.2.2.1.2.1,(y7.1.1.2.2.2.2.1.2.2.1,(y7.1.1.2.2.2.2.1.2.2.2.1,(y7.1.1.2.2.2.2.1.2.2.2.2.1,(y7.2.2.2.2.2.2.2.2.2.1,y7.1.1.2.2.2.2.1.2.2.2.2.2.2)))))),(y7.2.2.2.2.2.2.2.2.2.2.1,(y7.1.1.2.2.2.2.2.2.1,(y7.2.2.2.2.2.2.2.2.2.2.2.1,(y7.2.2.2.2.2.2.2.2.2.2.2.2.1,(y7.1.1.2.2.2.2.2.2.2.2.2.1,(y7.2.2.2.2.2.2.2.2.2.2.2.2.2.1,y7.1.1.2.2.2.2.2.2.2.2.2.2.2))))))))))),(y1.1.1,())),())) fun y8=>some (((I.eqb y8.1.1 (I.of .i64 1)),()),())) (some ((false,()),()))) (some ((false,()),()))) (some ((false,()),()))) (some ((false,()),()))
def a5X (K:Nat) (x:(⟨[.pl (.sl (.int .i64))],[]⟩:Tm).D):Option (⟨[.pl .bool],[]⟩:Tm).D :=
 let a:(List (I .i64)):=x.1.1
 brn (I.ltb (I.of .i64 30) (I.ofNat .i64 (@a0I (I .i64) a))) (optF none (b1T K ((),())) fun y0=>some ((y0.1.1,()),())) (optF none (a7M K ((a,(true,())),())) fun y0=>iter none (fun (x1:(((I .i64) × Unit) × ((List a1D) × ((List a1C) × ((List a1D) × ((List a1D) × ((List a1C) × ((List a1C) × Unit))))))))=>brn (I.ltb x1.1.1 (I.ofNat .i64 (@a0I a1D x1.2.1))) (brn (inB x1.1.1 (@a0I a1C x1.2.2.1)) (brn (I.eqb (@rdL a1C (I.of .i64 0,(I.of .i64 0,(a1S,(Z_U,(Z_U,(I.of .u64 0,(Z_U,(Z_U,([],()))))))))) x1.2.2.1 (I.nat x1.1.1)).2.1 (I.of .i64 0)) (brn (inB x1.1.1 (@a0I a1D x1.2.1)) (brn (a1G (@a0I a1D (@a2B a1D x1.2.2.2.1 ((@rdL a1D (I.of .i64 0,((I.of .u64 0,(I.of .u64 0,(I.of .u64 0,(Z_U,(I.of .u64 0,(Z_U,(Z_U,(I.of .u64 0,([],()))))))))),(a0M,(I.of .u64 0,(I.of .i64 0,(Z_U,(I.of .u64 0,((I.of .u64 0,(I.of .u64 0,(I.of .u64 0,(Z_U,([],()))))),())))))))) x1.2.1 (I.nat x1.1.1))::[])))) (brn (inB x1.1.1 (@a0I a1C x1.2.2.1)) (brn (a1G (@a0I a1C (@a2B a1C x1.2.2.2.2.2.1 ((@rdL a1C (I.of .i64 0,(I.of .i64 0,(a1S,(Z_U,(Z_U,(I.of .u64 0,(Z_U,(Z_U,([],()))))))))) x1.2.2.1 (I.nat x1.1.1))::[])))) (.again (((I.add x1.1.1 (I.of .i64 1)),()),(x1.2.1,(x1.2.2.1,((@a2B a1D x1.2.2.2.1 ((@rdL a1D (I.of .i64 0,((I.of .u64 0,(I.of .u64 0,(I.of .u64 0,(Z_U,(I.of .u64 0,(Z_U,(Z_U,(I.of .u64 0,([],()))))))))),(a0M,(I.of .u64 0,(I.of .i64 0,(Z_U,(I.of .u64 0,((I.of .u64 0,(I.of .u64 0,(I.of .u64 0,(Z_U,([],()))))),())))))))) x1.2.1 (I.nat x1.1.1))::[])),(x1.2.2.2.2.1,((@a2B a1C x1.2.2.2.2.2.1 ((@rdL a1C (I.of .i64 0,(I.of .i64 0,(a1S,(Z_U,(Z_U,(I.of .u64 0,(Z_U,(Z_U,([],()))))))))) x1.2.2.1 (I.nat x1.1.1))::[])),(x1.2.2.2.2.2.2.1,())))))))) (.done none)) (.done none)) (.done none)) (.done none)) (.again (((I.add x1.1.1 (I.of .i64 1)),()),(x1.2.1,(x1.2.2.1,(x1.2.2.2.1,(x1.2.2.2.2.1,(x1.2.2.2.2.2.1,(x1.2.2.2.2.2.2.1,()))))))))) (.done none)) (.done (iter none (fun x2=>brn (I.leb (I.of .i64 0) x2.1.1) (brn (inB x2.1.1 (@a0I a1D x2.2.1)) (brn (a1G (@a0I a1D (@a2B a1D x2.2.2.2.2.1 ((@rdL a1D (I.of .i64 0,((I.of .u64 0,(I.of .u64 0,(I.of .u64 0,(Z_U,(I.of .u64 0,(Z_U,(Z_U,(I.of .u64 0,([],()))))))))),(a0M,(I.of .u64 0,(I.of .i64 0,(Z_U,(I.of .u64 0,((I.of .u64 0,(I.of .u64 0,(I.of .u64 0,(Z_U,([],()))))),())))))))) x2.2.1 (I.nat x2.1.1))::[])))) (brn (inB x2.1.1 (@a0I a1C x2.2.2.1)) (brn (a1G (@a0I a1C (@a2B a1C x2.2.2.2.2.2.2.1 ((@rdL a1C (I.of .i64 0,(I.of .i64 0,(a1S,(Z_U,(Z_U,(I.of .u64 0,(Z_U,(Z_U,([],()))))))))) x2.2.2.1 (I.nat x2.1.1))::[])))) (.again (((I.sub x2.1.1 (I.of .i64 1)),()),(x2.2.1,(x2.2.2.1,(x2.2.2.2.1,((@a2B a1D x2.2.2.2.2.1 ((@rdL a1D (I.of .i64 0,((I.of .u64 0,(I.of .u64 0,(I.of .u64 0,(Z_U,(I.of .u64 0,(Z_U,(Z_U,(I.of .u64 0,([],()))))))))),(a0M,(I.of .u64 0,(I.of .i64 0,(Z_U,(I.of .u64 0,((I.of .u64 0,(I.of .u64 0,(I.of .u64 0,(Z_U,([],()))))),())))))))) x2.2.1 (I.nat x2.1.1))::[])),(x2.2.2.2.2.2.1,((@a2B a1C x2.2.2.2.2.2.2.1 ((@rdL a1C (I.of .i64 0,(I.of .i64 0,(a1S,(Z_U,(Z_U,(I.of .u64 0,(Z_U,(Z_U,([],()))))))))) x2.2.2.1 (I.nat x2.1.1))::[])),())))))))) (.done none)) (.done none)) (.done none)) (.done none)) (.done (optF none (b2P K ((x2.2.1,(x2.2.2.1,())),())) fun y3=>optF none (b2P K ((x2.2.2.2.1,(x2.2.2.2.2.2.1,())),())) fun y4=>optF none (b2P K ((x2.2.2.2.2.1,(x2.2.2.2.2.2.2.1,())),())) fun y5=>brn (I.eqb y3.1.2.1 (I.of .i64 0)) (brn (I.eqb y4.1.2.1 (I.of .i64 0)) (brn (I.eqb y5.1.2.1 (I.of .i64 0)) (brn (Ty.eqb a2H y3.1.1 y4.1.1) (brn (Ty.eqb a2H y3.1.1 y5.1.1) (optF none (b1T K ((),())) fun y6=>some ((y6.1.1,()),())) (some ((false,()),()))) (some ((false,()),()))) (some ((false,()),()))) (some ((false,()),()))) (some ((false,()),()))))) K (((I.sub (I.ofNat .i64 (@a0I a1D x1.2.1)) (I.of .i64 1)),()),(x1.2.1,(x1.2.2.1,(x1.2.2.2.1,(x1.2.2.2.2.1,(x1.2.2.2.2.2.1,(x1.2.2.2.2.2.2.1,())))))))))) K ((I.of .i64 0,()),(y0.2.2.2.2.2.2.2.2.2.1,(y0.2.2.2.2.2.2.2.2.2.2.1,([],([],([],([],()))))))))
end
end Sym

/- The contracts of the given functions. -/
namespace Sym
open Go Go.Proofs
set_option maxRecDepth 100000
noncomputable abbrev tp:Program:=Tryz.prog
def tys:List (Nat × Ty):=[(2,(.int .i64)),(3,(.int .i64)),(4,.bool),(5,(.int .u8)),(6,(.int .u8)),(7,a9D),(8,a9D),(9,.str),(10,.str),(11,.str),(22,(.sl a1H)),(23,(.sl a1N)),(24,(.sl (.int .i64))),(25,(.int .u64)),(27,a1T),(29,(.int .i64)),(31,a3P),(32,(.sl a0O)),(34,a1N),(35,.opq),(40,a2H),(45,a0P),(47,a1Q),(49,a1U),(50,(.sl a0Z)),(52,a1A),(53,(.sl a0X)),(54,(.arr 4 a1T)),(55,(.sl .bool)),(56,(.sl a0Y)),(58,a8D),(60,(.int .u64)),(62,a0O),(64,a0Z),(68,(.sl (.int .u8))),(70,a1R),(72,a0O),(73,(.sl (.arr 32 (.int .u8)))),(75,a7K),(77,a1H),(78,(.arr 5 (.int .u64))),(86,(.int .u64)),(88,(.cons .bool .nil)),(90,.opq),(91,.opq),(92,(.sl (.int .i64))),(93,(.arr 8 (.sl (.int .i64)))),(95,c4J),(98,.opq),(99,.opq),(101,a1J),(104,a0K),(105,(.sl (.int .u64))),(107,a0R),(110,(.arr 5 (.int .u64))),(121,(.sl a1T)),(123,.opq),(140,.opq),(143,a0X),(146,a0Y),(165,a1Z),(178,(.arr 12 (.int .u64))),(184,(.arr 32 (.int .u8))),(187,(.arr 6 (.int .u64))),(219,(.arr 12 a1T)),(237,.opq),(243,a1B),(261,(.arr 12 .bool)),(267,(.int .u32)),(268,(.arr 8 (.int .u32))),(272,(.arr 64 (.int .u32)))]
def eqs:List (Nat × Ty):=[(2,(.int .i64)),(3,(.int .i64)),(4,.bool),(5,(.int .u8)),(6,(.int .u8)),(7,a9D),(8,a9D),(25,(.int .u64)),(27,a1T),(29,(.int .i64)),(31,a3P),(35,.opq),(40,a2H),(45,a0P),(47,a1Q),(49,a1U),(54,(.arr 4 a1T)),(60,(.int .u64)),(62,a0O),(64,a0Z),(72,a0O),(78,(.arr 5 (.int .u64))),(86,(.int .u64)),(88,(.cons .bool .nil)),(90,.opq),(91,.opq),(98,.opq),(99,.opq),(110,(.arr 5 (.int .u64))),(123,.opq),(140,.opq),(143,a0X),(146,a0Y),(178,(.arr 12 (.int .u64))),(184,(.arr 32 (.int .u8))),(187,(.arr 6 (.int .u64))),(219,(.arr 12 a1T)),(237,.opq),(261,(.arr 12 .bool)),(267,(.int .u32)),(268,(.arr 8 (.int .u32))),(272,(.arr 64 (.int .u32)))]
theorem g6K:tys.all (fun x=>tiB tp x.1 x.2) = true:=by kernel_rfl
theorem g4B:eqs.all (fun x=>g7N tp x.1 x.2) = true:=by kernel_rfl
theorem follows:tp.follows .mixedOrders = true:=by kernel_rfl
theorem f9H:f0I tp:=f7H (by kernel_rfl)
def owns:List Nat:=[34,58,101,104,107]
def meths:List (Nat × String × FuncId × Option Nat):=[]
theorem f3Y:meths.all (fun x=>f0Q tp x.1 x.2.1 x.2.2.1 x.2.2.2) = true:=by kernel_rfl
theorem a4D {C:Con} {n k:Nat} {hs:List (Nat × How)} {A:g2Y} (h:HowsOk tp hs) (e:∀ x,f0W (f1S tp tys eqs hs owns meths) A n C.In C.Out k K0 x = C.F x) (hko:c6J C.In.heap C.Out.heap = true:=by rfl):a1L tp n C:=f1W (E:=f1S tp tys eqs hs owns meths) (g6U g6K g4B h follows f3Y) f9H (fun x _ h=>⟨A,k,K0,(e x).trans h⟩) hko
theorem f0K {C:Con} {n k:Nat} {hs:List (Nat × How)} {A:g2Y} (h:HowsOk tp hs) (e:∀ x,d1C (f1S tp tys eqs hs owns meths) A n C.In C.Out k K0 x = C.F x):c0B tp n C:=e2N (E:=f1S tp tys eqs hs owns meths) (g6U g6K g4B h follows f3Y) f9H fun x _ h=>⟨A,k,K0,(e x).trans h⟩
noncomputable section
def b6X:Con:=⟨⟨[],[]⟩,⟨[.pl a0P],[]⟩,b7L K0⟩
theorem h2E:a1L tp 41 b6X:=a4D (n:=41) (k:=60) (hs:=[]) (A:=fun _ _=>none) trivial (by intro x; kernel_rfl)
def a1M:Con:=⟨⟨[.pl (.sl (.int .i64))],[]⟩,⟨[.pl a1T],[]⟩,a0Q K0⟩
theorem e1T:a1L tp 24 a1M:=a4D (n:=24) (k:=60) (hs:=[]) (A:=b1F [([1000000,24],6,.join ⟨(.pl (.sl (.int .i64))::dd 1 (.ptr 0 []::.ptr 1 []::.pl (.int .i64)::dd 5 (.pl (.int .i64)::.pl .bool::dd 22 []))),[.box a1T (.pl a1T),.box a1T (.pl a1T)]⟩),([24],0,.tmpl ⟨(.pl (.sl (.int .i64))::dd 1 (.ptr 0 []::.ptr 1 []::.pl (.int .i64)::dd 29 [])),[.box a1T (.pl a1T),.box a1T (.pl a1T)]⟩)]) trivial (by intro x; kernel_rfl)
def a4L:Con:=⟨⟨[.pl (.sl (.int .i64)),.pl (.sl (.int .i64))],[]⟩,⟨[.pl (.int .i64)],[]⟩,a2S K0⟩
theorem f6K:a1L tp 36 a4L:=a4D (n:=36) (k:=60) (hs:=[]) (A:=b1F [([36],0,.tmpl ⟨(.pl (.sl (.int .i64))::.pl (.sl (.int .i64))::dd 3 (.pl (.int .i64)::dd 35 [])),[]⟩)]) trivial (by intro x; kernel_rfl)
def a8S:Con:=⟨⟨[.pl (.sl (.int .i64)),.pl (.sl (.int .i64))],[]⟩,⟨[.pl (.sl (.int .i64))],[]⟩,a4J K0⟩
theorem g5Z:a1L tp 83 a8S:=a4D (n:=83) (k:=60) (hs:=[(36,.con a4L)]) (A:=fun _ _=>none) ⟨f6K,trivial⟩ (by intro x; kernel_rfl)
def b2Z:Con:=⟨⟨[.pl (.sl (.int .i64))],[]⟩,⟨[.pl (.sl (.int .i64))],[]⟩,a6B K0⟩
theorem g8J:a1L tp 58 b2Z:=a4D (n:=58) (k:=60) (hs:=[]) (A:=b1F [([58],0,.tmpl ⟨(.pl (.sl (.int .i64))::dd 2 (.pl (.int .i64)::dd 17 [])),[]⟩)]) trivial (by intro x; kernel_rfl)
def a0T:Con:=⟨⟨[.pl a1T],[]⟩,⟨[.pl (.sl (.int .i64))],[]⟩,a0C K0⟩
theorem c9Z:a1L tp 35 a0T:=a4D (n:=35) (k:=60) (hs:=[(58,.con b2Z)]) (A:=b1F [([35],0,.tmpl ⟨(dd 1 (.ptr 0 []::dd 1 (.whole 1::.pl (.int .i64)::dd 21 []))),[.box a1T (.pl a1T),.row (.int .i64)]⟩)]) ⟨g8J,trivial⟩ (by intro x; kernel_rfl)
def a1P:Con:=⟨⟨[.pl (.int .u64)],[]⟩,⟨[.pl (.sl (.int .i64))],[]⟩,a0H K0⟩
theorem e8Z:a1L tp 84 a1P:=a4D (n:=84) (k:=60) (hs:=[(35,.con a0T)]) (A:=fun _ _=>none) ⟨c9Z,trivial⟩ (by intro x; kernel_rfl)
def a3G:Con:=⟨⟨[.pl (.sl (.int .i64)),.pl (.sl (.int .i64))],[]⟩,⟨[.pl (.sl (.int .i64))],[]⟩,a1W K0⟩
theorem f2D:a1L tp 88 a3G:=a4D (n:=88) (k:=60) (hs:=[(58,.con b2Z)]) (A:=b1F [([88],0,.tmpl ⟨(.pl (.sl (.int .i64))::.pl (.sl (.int .i64))::dd 3 (.whole 0::.pl (.int .i64)::dd 56 [])),[.row (.int .i64)]⟩),([88],2,.tmpl ⟨(.pl (.sl (.int .i64))::.pl (.sl (.int .i64))::dd 3 (.whole 0::.pl (.int .i64)::.pl (.int .i64)::.pl (.int .i64)::dd 54 [])),[.row (.int .i64)]⟩)]) ⟨g8J,trivial⟩ (by intro x; kernel_rfl)
def a6A:Con:=⟨⟨[.pl (.sl (.int .i64)),.pl (.sl (.int .i64))],[]⟩,⟨[.pl (.sl (.int .i64))],[]⟩,a2M K0⟩
theorem e2E:c0B tp 97 a6A:=f0K (n:=97) (k:=80) (hs:=[(58,.inl)]) (A:=b1F [([1000000,97],10,.join ⟨(.pl (.sl (.int .i64)) :: .pl (.sl (.int .i64)) :: dd 3 (.whole 0 :: dd 1 (.pl (.int .i64) :: .pl (.int .i64) :: dd 35 []))),[.row (.int .i64)]⟩),([58,14,1,97],0,.tmpl ⟨(.whole 0 :: dd 2 (.pl (.int .i64) :: dd 61 [])),[.row (.int .i64)]⟩),([97],0,.tmpl ⟨(.pl (.sl (.int .i64)) :: .pl (.sl (.int .i64)) :: dd 3 (.whole 0 :: .pl (.int .i64) :: .pl (.int .i64) :: dd 36 [])),[.row (.int .i64)]⟩)]) trivial (by intro x; kernel_rfl)
def c0G:Con:=⟨⟨[.pl (.sl (.int .i64)),.pl (.int .i64)],[]⟩,⟨[.pl (.sl (.int .i64)),.pl (.sl (.int .i64))],[]⟩,a9Z K0⟩
theorem g9F:a1L tp 131 c0G:=a4D (n:=131) (k:=60) (hs:=[(58,.con b2Z)]) (A:=b1F [([131],0,.tmpl ⟨(.pl (.sl (.int .i64))::.pl (.int .i64)::dd 4 (.whole 0::.pl (.int .i64)::.pl (.int .i64)::dd 32 [])),[.row (.int .i64)]⟩)]) ⟨g8J,trivial⟩ (by intro x; kernel_rfl)
def a5D:Con:=⟨⟨[.pl (.sl (.int .i64)),.pl (.sl (.int .i64))],[]⟩,⟨[.pl (.sl (.int .i64)),.pl (.sl (.int .i64))],[]⟩,a3J K0⟩
theorem f8G:a1L tp 98 a5D:=a4D (n:=98) (k:=90) (hs:=[(36,.con a4L),(58,.inl),(97,.fresh a6A),(131,.con c0G)]) (A:=b1F [([58,18,1,98],0,.tmpl ⟨(.whole 0::dd 2 (.pl (.int .i64)::dd 17 (.pl (.sl (.int .i64))::.pl (.sl (.int .i64))::dd 4 (.whole 1::.whole 0::.pl (.int .i64)::.pl (.int .i64)::dd 104 [])))),[.row (.int .i64),.row (.int .i64)]⟩),([58,19,1,98],0,.tmpl ⟨(.whole 0::dd 2 (.pl (.int .i64)::dd 17 (.pl (.sl (.int .i64))::.pl (.sl (.int .i64))::dd 4 (.whole 1::.whole 0::.pl (.int .i64)::.pl (.int .i64)::dd 104 [])))),[.row (.int .i64),.row (.int .i64)]⟩),([58,27,1,98],0,.tmpl ⟨(.whole 0::dd 2 (.pl (.int .i64)::dd 24 (.whole 1::dd 106 []))),[.row (.int .i64),.row (.int .i64)]⟩),([58,27,3,98],0,.tmpl ⟨(.whole 0::dd 2 (.pl (.int .i64)::dd 128 (.pl (.sl (.int .i64))::dd 2 []))),[.row (.int .i64)]⟩),([98],0,.tmpl ⟨(.pl (.sl (.int .i64))::.pl (.sl (.int .i64))::dd 4 (.whole 0::.whole 1::.pl (.int .i64)::dd 105 [])),[.row (.int .i64),.row (.int .i64)]⟩),([98],2,.tmpl ⟨(.pl (.sl (.int .i64))::.pl (.sl (.int .i64))::dd 4 (.whole 0::.whole 1::.pl (.int .i64)::.pl (.int .i64)::dd 104 [])),[.row (.int .i64),.row (.int .i64)]⟩),([98],4,.tmpl ⟨(.pl (.sl (.int .i64))::.pl (.sl (.int .i64))::dd 4 (.whole 0::.whole 1::.pl (.int .i64)::.pl (.int .i64)::.pl (.int .i64)::.pl (.int .i64)::dd 102 [])),[.row (.int .i64),.row (.int .i64)]⟩),([98],6,.tmpl ⟨(.pl (.sl (.int .i64))::.pl (.sl (.int .i64))::dd 4 (.whole 0::.whole 1::.pl (.int .i64)::.pl (.int .i64)::dd 2 (.pl (.sl (.int .i64))::.pl (.int .i64)::dd 100 []))),[.row (.int .i64),.row (.int .i64)]⟩)]) ⟨f6K,e2E,g9F,trivial⟩ (by intro x; kernel_rfl)
def c3K:Con:=⟨⟨[.pl (.int .u64),.pl (.int .u64),.pl (.int .u64)],[]⟩,⟨[.pl .bool],[]⟩,a3K K0⟩
theorem g7P:a1L tp 157 c3K:=a4D (n:=157) (k:=60) (hs:=[]) (A:=fun _ _=>none) trivial (by intro x; kernel_rfl)
def b0P:Con:=⟨⟨[.pl a1T],[]⟩,⟨[.pl (.int .u64),.pl .bool],[]⟩,a7D K0⟩
theorem g1U:a1L tp 102 b0P:=a4D (n:=102) (k:=60) (hs:=[]) (A:=fun _ _=>none) trivial (by intro x; kernel_rfl)
def b6V:Con:=⟨⟨[.pl a1T,.pl (.int .u64)],[]⟩,⟨[.pl .bool],[]⟩,a5Y K0⟩
theorem h0I:a1L tp 158 b6V:=a4D (n:=158) (k:=60) (hs:=[(102,.con b0P)]) (A:=fun _ _=>none) ⟨g1U,trivial⟩ (by intro x; kernel_rfl)
def b3K:Con:=⟨⟨[.pl a0P],[]⟩,⟨[.pl (.int .i64)],[]⟩,a6T K0⟩
theorem h0N:a1L tp 144 b3K:=a4D (n:=144) (k:=90) (hs:=[(157,.con c3K),(158,.con b6V)]) (A:=fun p _=>match p with | 1000000::_=>none | _=>some (.unroll 14)) ⟨g7P,h0I,trivial⟩ (by intro x; kernel_rfl)
def a5E:Con:=⟨⟨[.pl a0P],[]⟩,⟨[.pl .bool],[]⟩,a3L K0⟩
theorem e7Z:a1L tp 116 a5E:=a4D (n:=116) (k:=60) (hs:=[(144,.con b3K)]) (A:=fun _ _=>none) ⟨h0N,trivial⟩ (by intro x; kernel_rfl)
def b5K:Con:=⟨⟨[.pl (.int .u64),.pl (.int .u64),.pl (.int .u64)],[]⟩,⟨[.pl (.int .u64)],[]⟩,a9Y K0⟩
theorem g5J:a1L tp 115 b5K:=a4D (n:=115) (k:=60) (hs:=[(24,.con a1M),(36,.con a4L),(84,.con a1P),(88,.con a3G),(97,.fresh a6A)]) (A:=fun _ _=>none) ⟨e1T,f6K,e8Z,f2D,e2E,trivial⟩ (by intro x; kernel_rfl)
def b7P:Con:=⟨⟨[.pl (.int .u64),.pl (.int .u64),.pl (.int .u64)],[]⟩,⟨[.pl (.int .u64)],[]⟩,b0U K0⟩
theorem g7W:a1L tp 127 b7P:=a4D (n:=127) (k:=60) (hs:=[(115,.con b5K)]) (A:=fun _ _=>none) ⟨g5J,trivial⟩ (by intro x; kernel_rfl)
def b5M:Con:=⟨⟨[.pl (.int .u64),.pl a0P],[]⟩,⟨[.pl (.int .u64),.pl (.int .i64)],[]⟩,a8W K0⟩
theorem h2X:a1L tp 90 b5M:=a4D (n:=90) (k:=60) (hs:=[(24,.con a1M),(83,.con a8S),(84,.con a1P),(88,.con a3G),(98,.con a5D),(116,.con a5E),(127,.con b7P)]) (A:=fun _ _=>none) ⟨e1T,g5Z,e8Z,f2D,f8G,e7Z,g7W,trivial⟩ (by intro x; kernel_rfl)
def a1X:Con:=⟨⟨[.pl (.sl (.int .i64)),.pl (.sl (.int .i64))],[]⟩,⟨[.pl (.sl (.int .i64))],[]⟩,a1I K0⟩
theorem d8U:a1L tp 34 a1X:=a4D (n:=34) (k:=60) (hs:=[]) (A:=b1F [([1000000,34],7,.join ⟨(.pl (.sl (.int .i64))::.pl (.sl (.int .i64))::dd 3 (.whole 0::.pl (.int .i64)::.pl (.int .i64)::dd 44 [])),[.row (.int .i64)]⟩),([1000000,34],9,.join ⟨(.pl (.sl (.int .i64))::.pl (.sl (.int .i64))::dd 3 (.whole 0::.pl (.int .i64)::.pl (.int .i64)::dd 44 [])),[.row (.int .i64)]⟩),([34],0,.tmpl ⟨(.pl (.sl (.int .i64))::.pl (.sl (.int .i64))::dd 3 (.whole 0::.pl (.int .i64)::.pl (.int .i64)::dd 44 [])),[.row (.int .i64)]⟩)]) trivial (by intro x; kernel_rfl)
def c3L:Con:=⟨⟨[.pl (.int .u64),.pl (.int .i64)],[]⟩,⟨[.pl (.int .u64),.pl (.int .i64)],[]⟩,b4X K0⟩
theorem h0H:a1L tp 128 c3L:=a4D (n:=128) (k:=60) (hs:=[(24,.con a1M),(34,.con a1X),(84,.con a1P),(88,.con a3G),(98,.con a5D)]) (A:=b1F [([1000000,128],4,.join ⟨(.pl (.int .u64)::.pl (.int .i64)::dd 43 []),[]⟩),([128],0,.tmpl ⟨(.pl (.int .u64)::dd 5 (.pl (.sl (.int .i64))::.pl (.int .i64)::dd 37 [])),[]⟩)]) ⟨e1T,d8U,e8Z,f2D,f8G,trivial⟩ (by intro x; kernel_rfl)
def a5H:Con:=⟨⟨[.pl (.sl (.int .i64))],[]⟩,⟨[.pl .bool],[]⟩,a2C K0⟩
theorem g2U:a1L tp 60 a5H:=a4D (n:=60) (k:=60) (hs:=[]) (A:=fun _ _=>none) trivial (by intro x; kernel_rfl)
def a3F:Con:=⟨⟨[.pl (.sl (.int .i64))],[]⟩,⟨[.pl a1T,.pl (.int .i64)],[]⟩,a2K K0⟩
theorem f8E:a1L tp 40 a3F:=a4D (n:=40) (k:=60) (hs:=[(24,.con a1M),(60,.con a5H)]) (A:=fun _ _=>none) ⟨e1T,g2U,trivial⟩ (by intro x; kernel_rfl)
def c0K:Con:=⟨⟨[.pl a1T,.pl (.int .u64)],[]⟩,⟨[.pl a1T,.pl (.int .i64)],[]⟩,b2U K0⟩
theorem g9L:a1L tp 129 c0K:=a4D (n:=129) (k:=60) (hs:=[(35,.con a0T),(40,.con a3F),(84,.con a1P),(88,.con a3G),(98,.con a5D)]) (A:=fun _ _=>none) ⟨c9Z,f8E,e8Z,f2D,f8G,trivial⟩ (by intro x; kernel_rfl)
def b6T:Con:=⟨⟨[.pl a1T,.pl (.int .u64),.pl (.int .i64)],[]⟩,⟨[.pl a1T,.pl (.int .i64)],[]⟩,a9Q K0⟩
theorem h3L:a1L tp 91 b6T:=a4D (n:=91) (k:=60) (hs:=[(128,.con c3L),(129,.con c0K)]) (A:=fun _ _=>none) ⟨h0H,g9L,trivial⟩ (by intro x; kernel_rfl)
def b6E:Con:=⟨⟨[.pl (.int .u64),.pl a0P],[]⟩,⟨[.pl a1T,.pl (.int .i64)],[]⟩,b0W K0⟩
theorem h0Z:a1L tp 61 b6E:=a4D (n:=61) (k:=60) (hs:=[(90,.con b5M),(91,.con b6T)]) (A:=fun _ _=>none) ⟨h2X,h3L,trivial⟩ (by intro x; kernel_rfl)
def b6Z:Con:=⟨⟨[.pl a0P],[]⟩,⟨[.pl a1Q,.pl (.int .i64)],[]⟩,b7N K0⟩
theorem h3K:a1L tp 42 b6Z:=a4D (n:=42) (k:=60) (hs:=[(61,.con b6E)]) (A:=fun _ _=>none) ⟨h0Z,trivial⟩ (by intro x; kernel_rfl)
def b6U:Con:=⟨⟨[],[]⟩,⟨[.pl a1A],[]⟩,b7V K0⟩
theorem h2U:a1L tp 43 b6U:=a4D (n:=43) (k:=60) (hs:=[]) (A:=fun _ _=>none) trivial (by intro x; kernel_rfl)
def c1M:Con:=⟨⟨[],[]⟩,⟨[.ptr 0 []],a0L⟩,c3C K0⟩
theorem h2L:a1L tp 44 c1M:=a4D (n:=44) (k:=140) (hs:=[]) (A:=fun _ _=>none) trivial (by intro x; kernel_rfl)
def c1Y:Con:=⟨⟨[],[]⟩,⟨[.ptr 0 []],a2P⟩,c3D K0⟩
theorem h1T:a1L tp 45 c1Y:=a4D (n:=45) (k:=140) (hs:=[]) (A:=fun _ _=>none) trivial (by intro x; kernel_rfl)
def b5Y:Con:=⟨⟨[],[]⟩,⟨[.ptr 0 []],a0F⟩,b4F K0⟩
theorem h1B:a1L tp 18 b5Y:=a4D (n:=18) (k:=140) (hs:=[(41,.con b6X),(42,.con b6Z),(43,.con b6U),(44,.con c1M),(45,.con c1Y)]) (A:=fun _ _=>none) ⟨h2E,h3K,h2U,h2L,h1T,trivial⟩ (by intro x; kernel_rfl)
def b5B:Con:=⟨⟨[],[]⟩,⟨[.whole 0],[.row a1H]⟩,b1G K0⟩
theorem h2R:a1L tp 19 b5B:=a4D (n:=19) (k:=140) (hs:=[]) (A:=b1F [([19],0,.tmpl ⟨(dd 1 (.whole 0::.pl (.int .u64)::dd 24 [])),[.row a1H]⟩),([19],2,.tmpl ⟨(dd 1 (.whole 0::dd 1 (.pl (.int .u64)::dd 23 []))),[.row a1H]⟩)]) trivial (by intro x; kernel_rfl)
def b4Y:Con:=⟨⟨[.pl (.int .i64)],[]⟩,⟨[.pl .bool],[]⟩,a8I K0⟩
theorem h3E:a1L tp 46 b4Y:=a4D (n:=46) (k:=60) (hs:=[]) (A:=fun _ _=>none) trivial (by intro x; kernel_rfl)
def a2T:Con:=⟨⟨[.pl a1T],[]⟩,⟨[.pl .bool],[]⟩,a2E K0⟩
theorem f4E:a1L tp 56 a2T:=a4D (n:=56) (k:=60) (hs:=[]) (A:=fun _ _=>none) trivial (by intro x; kernel_rfl)
def b0N:Con:=⟨⟨[.bp a0K,.pl (.int .u64)],[]⟩,⟨[.pl (.int .i64)],[]⟩,a6H K0⟩
theorem g4N:a1L tp 126 b0N:=a4D (n:=126) (k:=140) (hs:=[]) (A:=b1F [([126],0,.tmpl ⟨(.bp a0K::.pl (.int .u64)::dd 3 (.pl (.int .i64)::dd 20 [])),[]⟩)]) trivial (by intro x; kernel_rfl)
def a4E:Con:=⟨⟨[.bp a0K,.pl (.int .u64)],[]⟩,⟨[.pl a0X],[]⟩,a2Y K0⟩
theorem g6V:a1L tp 87 a4E:=a4D (n:=87) (k:=140) (hs:=[(126,.con b0N)]) (A:=fun _ _=>none) ⟨g4N,trivial⟩ (by intro x; kernel_rfl)
def b6C:Con:=⟨⟨[.pl a1R,.pl a1T],[]⟩,⟨[.pl (.sl (.int .i64))],[]⟩,a8U K0⟩
theorem h0S:a1L tp 96 b6C:=a4D (n:=96) (k:=60) (hs:=[(35,.con a0T),(83,.con a8S),(97,.fresh a6A)]) (A:=fun _ _=>none) ⟨c9Z,g5Z,e2E,trivial⟩ (by intro x; kernel_rfl)
def b5Q:Con:=⟨⟨[.pl a1R,.pl a1T],[]⟩,⟨[.pl a1T,.pl (.int .i64)],[]⟩,a8X K0⟩
theorem h1I:a1L tp 92 b5Q:=a4D (n:=92) (k:=60) (hs:=[(34,.con a1X),(35,.con a0T),(36,.con a4L),(40,.con a3F),(96,.con b6C)]) (A:=fun _ _=>none) ⟨d8U,c9Z,f6K,f8E,h0S,trivial⟩ (by intro x; kernel_rfl)
def b3H:Con:=⟨⟨[.pl a1Q,.pl a0P],[]⟩,⟨[.pl (.int .u64)],[]⟩,a6U K0⟩
theorem h2B:a1L tp 93 b3H:=a4D (n:=93) (k:=60) (hs:=[]) (A:=fun _ _=>none) trivial (by intro x; kernel_rfl)
def b7Q:Con:=⟨⟨[.pl a1R,.pl a1T,.pl a1T],[]⟩,⟨[.pl .bool],[]⟩,b0Q K0⟩
theorem h2Y:a1L tp 94 b7Q:=a4D (n:=94) (k:=60) (hs:=[(34,.con a1X),(35,.con a0T),(36,.con a4L),(84,.con a1P),(88,.con a3G)]) (A:=fun _ _=>none) ⟨d8U,c9Z,f6K,e8Z,f2D,trivial⟩ (by intro x; kernel_rfl)
def b2K:Con:=⟨⟨[.ptr 0 [],.pl a1R],a0F⟩,⟨[.pl a1T,.pl (.int .i64)],a0F⟩,a6D K0⟩
theorem h1J:a1L tp 62 b2K:=a4D (n:=62) (k:=140) (hs:=[(87,.con a4E),(92,.con b5Q),(93,.con b3H),(94,.con b7Q)]) (A:=b1F [([1000000,62],7,.join ⟨(.ptr 0 []::dd 2 (.ptr 8 []::.ptr 9 []::dd 1 (.ptr 10 []::dd 75 (.ptr 0 []::.ptr 1 []::.ptr 4 []::[])))),[.box a1J ((.pair (.pl (.int .u64)) ((.pair (.pl a0P) ((.pair (.pl a1Q) ((.pair (.pl (.int .u64)) ((.pair (.pl a1A) ((.pair (.ptr 1 []) ((.pair (.whole 3) ((.pair (.ptr 4 []) (.pl .nil))))))))))))))))),.box a0K ((.pair (.whole 2) (.pl (.cons (.arr 4 a1T) .nil)))),.row a0X,.row a0O,.box a0R ((.pair (.pl a1T) ((.pair (.whole 5) ((.pair (.whole 6) ((.pair (.whole 7) (.pl .nil))))))))),.row (.arr 32 (.int .u8)),.row (.int .u64),.row a0Y,.box a1R (.pl a1R),.box a1T (.pl a1T),.box a1T (.pl a1T)]⟩)]) ⟨g6V,h1I,h2B,h2Y,trivial⟩ (by intro x; kernel_rfl)
def b4O:Con:=⟨⟨[.pl (.sl (.int .u8)),.pl (.int .i64),.pl (.int .i64)],[]⟩,⟨[.pl (.int .i64)],[]⟩,a7Q K0⟩
theorem h0O:a1L tp 165 b4O:=a4D (n:=165) (k:=60) (hs:=[]) (A:=b1F [([165],0,.tmpl ⟨(.pl (.sl (.int .u8))::.pl (.int .i64)::.pl (.int .i64)::dd 4 (.pl (.int .i64)::dd 30 [])),[]⟩)]) trivial (by intro x; kernel_rfl)
def c1R:Con:=⟨⟨[.pl (.sl (.int .u8)),.pl (.int .i64)],[]⟩,⟨[.pl (.int .i64),.pl (.int .i64)],[]⟩,b4J K0⟩
theorem h0L:a1L tp 161 c1R:=a4D (n:=161) (k:=60) (hs:=[(165,.con b4O)]) (A:=b1F [([1000000,161],6,.join ⟨(.pl (.sl (.int .u8))::.pl (.int .i64)::dd 4 (.pl (.int .i64)::.pl (.int .i64)::.pl (.int .i64)::dd 4 (.pl (.int .i64)::.pl (.int .i64)::.pl .bool::dd 14 []))),[]⟩),([161],0,.tmpl ⟨(.pl (.sl (.int .u8))::.pl (.int .i64)::dd 4 (.pl (.int .i64)::.pl (.int .i64)::.pl (.int .i64)::dd 21 [])),[]⟩)]) ⟨h0O,trivial⟩ (by intro x; kernel_rfl)
def b6N:Con:=⟨⟨[.pl (.sl (.int .u8))],[]⟩,⟨[.pl (.sl (.int .u8))],[]⟩,a9P K0⟩
theorem g8L:a1L tp 149 b6N:=a4D (n:=149) (k:=90) (hs:=[(161,.con c1R),(162,.inl)]) (A:=b1F [([149],0,.tmpl ⟨(.pl (.sl (.int .u8))::dd 2 (.whole 0::.pl (.int .i64)::.pl (.int .i64)::dd 45 [])),[.row (.int .u8)]⟩),([162,11,4,149],0,.tmpl ⟨(.whole 0::.pl (.sl (.int .u8))::dd 75 []),[.row (.int .u8)]⟩),([162,7,5,149],0,.tmpl ⟨(.whole 0::.pl (.sl (.int .u8))::dd 24 (.pl (.sl (.int .u8))::dd 4 (.pl (.int .i64)::.pl (.int .i64)::.pl (.int .i64)::dd 43 []))),[.row (.int .u8)]⟩)]) ⟨h0L,trivial⟩ (by intro x; kernel_rfl)
def b9D:Con:=⟨⟨[.pl (.sl (.int .u8)),.pl (.int .u64),.pl (.int .u64)],[]⟩,⟨[.pl (.int .u64),.pl (.int .i64)],[]⟩,b1I K0⟩
theorem g9E:a1L tp 130 b9D:=a4D (n:=130) (k:=60) (hs:=[(149,.con b6N)]) (A:=b1F [([1000000,130],9,.join ⟨(dd 2 (.pl (.int .u64)::dd 5 (.pl (.int .u64)::dd 20 []))),[]⟩)]) ⟨g8L,trivial⟩ (by intro x; kernel_rfl)
def c2C:Con:=⟨⟨[.pl a1R,.pl a1T,.pl a1T,.pl a0P],[]⟩,⟨[.pl (.int .u64),.pl (.int .u64),.pl (.int .i64)],[]⟩,b4E K0⟩
theorem h3B:a1L tp 95 c2C:=a4D (n:=95) (k:=60) (hs:=[(24,.con a1M),(35,.con a0T),(36,.con a4L),(56,.con a2T),(60,.con a5H),(84,.con a1P),(88,.con a3G),(98,.con a5D),(116,.con a5E),(130,.con b9D)]) (A:=fun _ _=>none) ⟨e1T,c9Z,f6K,f4E,g2U,e8Z,f2D,f8G,e7Z,g9E,trivial⟩ (by intro x; kernel_rfl)
def b6R:Con:=⟨⟨[.pl a1R,.pl a1T,.pl a1T,.pl a0P],[]⟩,⟨[.pl a3P,.pl (.int .i64)],[]⟩,a9N K0⟩
theorem h1V:a1L tp 63 b6R:=a4D (n:=63) (k:=60) (hs:=[(24,.con a1M),(34,.con a1X),(35,.con a0T),(60,.con a5H),(83,.con a8S),(84,.con a1P),(88,.con a3G),(95,.con c2C),(96,.con b6C),(97,.fresh a6A),(98,.con a5D)]) (A:=b1F [([1000000,63],20,.join ⟨(dd 8 (.ptr 0 []::dd 4 (.ptr 1 []::dd 1 (.pl (.sl (.int .i64))::.pl (.sl (.int .i64))::dd 1 (.pl (.sl (.int .i64))::dd 1 (.pl (.sl (.int .i64))::dd 1 (.pl (.sl (.int .i64))::dd 111 []))))))),[.box a3P (.pl a3P),.box a3P (.pl a3P)]⟩),([1000000,63],9,.join ⟨(dd 4 (.ptr 0 []::.ptr 1 []::dd 1 (.ptr 2 []::.ptr 3 []::dd 2 (.pl (.int .u64)::dd 1 (.ptr 4 []::dd 120 []))))),[.box a1R (.pl a1R),.box a1T (.pl a1T),.box a0P (.pl a0P),.box a3P (.pl a3P),.box a3P (.pl a3P)]⟩)]) ⟨e1T,d8U,c9Z,g2U,g5Z,e8Z,f2D,h3B,h0S,e2E,f8G,trivial⟩ (by intro x; kernel_rfl)
def b3X:Con:=⟨⟨[.pl a0Z],[]⟩,⟨[.pl .bool],[]⟩,a7H K0⟩
theorem g8W:a1L tp 150 b3X:=a4D (n:=150) (k:=60) (hs:=[(34,.con a1X),(35,.con a0T),(36,.con a4L),(56,.con a2T)]) (A:=fun _ _=>none) ⟨d8U,c9Z,f6K,f4E,trivial⟩ (by intro x; kernel_rfl)
def a5F:Con:=⟨⟨[.pl (.sl a0Z)],[]⟩,⟨[.pl .bool],[]⟩,a4A K0⟩
theorem e7X:a1L tp 132 a5F:=a4D (n:=132) (k:=60) (hs:=[(150,.con b3X)]) (A:=b1F [([132],0,.tmpl ⟨(.pl (.sl a0Z)::dd 2 (.pl (.int .i64)::dd 33 [])),[]⟩)]) ⟨g8W,trivial⟩ (by intro x; kernel_rfl)
def a9H:Con:=⟨⟨[.pl a1U],[]⟩,⟨[.pl .bool],[]⟩,a4O K0⟩
theorem f4K:a1L tp 133 a9H:=a4D (n:=133) (k:=60) (hs:=[(56,.con a2T)]) (A:=fun _ _=>none) ⟨f4E,trivial⟩ (by intro x; kernel_rfl)
def b0H:Con:=⟨⟨[.pl a1A],[]⟩,⟨[.pl .bool],[]⟩,a7B K0⟩
theorem g9N:a1L tp 99 b0H:=a4D (n:=99) (k:=60) (hs:=[(132,.con a5F),(133,.con a9H)]) (A:=b1F [([1000000,99],4,.join ⟨(dd 1 (.ptr 0 []::dd 28 [])),[.box a1A (.pl a1A)]⟩),([99],0,.tmpl ⟨(dd 1 (.ptr 0 []::dd 1 (.pl (.int .i64)::dd 26 []))),[.box a1A (.pl a1A)]⟩)]) ⟨e7X,f4K,trivial⟩ (by intro x; kernel_rfl)
def b5O:Con:=⟨⟨[.pl a1A,.pl (.int .u64)],[]⟩,⟨[.pl a1A,.pl (.int .i64)],[]⟩,a8Y K0⟩
theorem h1G:a1L tp 64 b5O:=a4D (n:=64) (k:=60) (hs:=[(99,.con b0H)]) (A:=fun _ _=>none) ⟨g9N,trivial⟩ (by intro x; kernel_rfl)
def a7E:Con:=⟨⟨[.ptr 0 [],.pl a0X],a0L⟩,⟨[],a0L⟩,a4Q K0⟩
theorem g3E:a1L tp 101 a7E:=a4D (n:=101) (k:=140) (hs:=[(126,.con b0N)]) (A:=fun _ _=>none) ⟨g4N,trivial⟩ (by intro x; kernel_rfl)
def a6N:Con:=⟨⟨[.pl a1T,.pl a1T],[]⟩,⟨[.pl a1T,.pl (.int .i64)],[]⟩,a4X K0⟩
theorem f0Y:a1L tp 111 a6N:=a4D (n:=111) (k:=60) (hs:=[(24,.con a1M),(35,.con a0T),(36,.con a4L),(97,.fresh a6A)]) (A:=fun _ _=>none) ⟨e1T,c9Z,f6K,e2E,trivial⟩ (by intro x; kernel_rfl)
def a6E:Con:=⟨⟨[.ptr 0 [],.pl (.int .u64),.pl a1T],a0L⟩,⟨[.pl .bool],a0L⟩,a3U K0⟩
theorem f9X:a1L tp 100 a6E:=a4D (n:=100) (k:=140) (hs:=[(87,.con a4E),(101,.con a7E),(111,.con a6N)]) (A:=fun _ _=>none) ⟨g6V,g3E,f0Y,trivial⟩ (by intro x; kernel_rfl)
def b0Z:Con:=⟨⟨[.ptr 0 [],.pl (.int .u64),.pl (.int .i64),.pl a1T],a0L⟩,⟨[.pl (.int .i64)],a0L⟩,a2O K0⟩
theorem h2V:a1L tp 65 b0Z:=a4D (n:=65) (k:=140) (hs:=[(24,.con a1M),(34,.con a1X),(35,.con a0T),(100,.con a6E)]) (A:=b1F [([1000000,65],4,.join ⟨(.ptr 0 []::.pl (.int .u64)::.pl (.int .i64)::dd 4 (.ptr 2 []::dd 34 (.ptr 0 []::[]))),[.box a0K ((.pair (.whole 1) (.pl (.cons (.arr 4 a1T) .nil)))),.row a0X,.box a1T (.pl a1T)]⟩)]) ⟨e1T,d8U,c9Z,f9X,trivial⟩ (by intro x; kernel_rfl)
def a7V:Con:=⟨⟨[.ptr 0 [],.pl (.int .u64)],a0L⟩,⟨[.pl (.int .i64)],a0L⟩,a3T K0⟩
theorem h2C:a1L tp 66 a7V:=a4D (n:=66) (k:=140) (hs:=[(87,.con a4E),(101,.con a7E)]) (A:=fun _ _=>none) ⟨g6V,g3E,trivial⟩ (by intro x; kernel_rfl)
def c2D:Con:=⟨⟨[.pl (.int .u64),.pl (.int .u64)],[]⟩,⟨[.pl (.int .u64)],[]⟩,a8R K0⟩
theorem h3M:a1L tp 67 c2D:=a4D (n:=67) (k:=60) (hs:=[(24,.con a1M),(34,.con a1X),(84,.con a1P),(102,.con b0P)]) (A:=fun _ _=>none) ⟨e1T,d8U,e8Z,g1U,trivial⟩ (by intro x; kernel_rfl)
def a7Z:Con:=⟨⟨[.ptr 0 [],.pl (.int .u64),.pl a1T],a0L⟩,⟨[],a0L⟩,a4T K0⟩
theorem g4G:a1L tp 103 a7Z:=a4D (n:=103) (k:=140) (hs:=[(24,.con a1M),(34,.con a1X),(35,.con a0T),(87,.con a4E),(101,.con a7E)]) (A:=fun _ _=>none) ⟨e1T,d8U,c9Z,g6V,g3E,trivial⟩ (by intro x; kernel_rfl)
def b1A:Con:=⟨⟨[.ptr 0 [],.pl (.int .u64),.pl (.int .u64),.pl a1T],a0L⟩,⟨[.pl (.int .i64)],a0L⟩,a5M K0⟩
theorem h3G:a1L tp 68 b1A:=a4D (n:=68) (k:=140) (hs:=[(100,.con a6E),(103,.con a7Z)]) (A:=b1F [([1000000,68],4,.join ⟨(.ptr 0 []::.pl (.int .u64)::.pl (.int .u64)::dd 4 (.ptr 2 []::dd 16 (.ptr 0 []::[]))),[.box a0K ((.pair (.whole 1) (.pl (.cons (.arr 4 a1T) .nil)))),.row a0X,.box a1T (.pl a1T)]⟩)]) ⟨f9X,g4G,trivial⟩ (by intro x; kernel_rfl)
def b0Y:Con:=⟨⟨[.ptr 0 [],.pl (.int .u64),.pl a1T],a0L⟩,⟨[.pl (.int .i64)],a0L⟩,a5L K0⟩
theorem h1N:a1L tp 69 b0Y:=a4D (n:=69) (k:=140) (hs:=[(100,.con a6E)]) (A:=fun _ _=>none) ⟨f9X,trivial⟩ (by intro x; kernel_rfl)
def c0L:Con:=⟨⟨[],[]⟩,⟨[.pl (.arr 64 (.int .u32))],[]⟩,c1I K0⟩
theorem g7U:a1L tp 166 c0L:=a4D (n:=166) (k:=60) (hs:=[]) (A:=fun _ _=>none) trivial (by intro x; kernel_rfl)
def b9Z:Con:=⟨⟨[.pl (.int .u32),.pl (.int .u64)],[]⟩,⟨[.pl (.int .u32)],[]⟩,a2Q K0⟩
theorem h0D:a1L tp 167 b9Z:=a4D (n:=167) (k:=60) (hs:=[]) (A:=fun _ _=>none) trivial (by intro x; kernel_rfl)
def c0C:Con:=⟨⟨[.pl (.arr 8 (.int .u32)),.pl (.sl (.int .u8))],[]⟩,⟨[.pl (.arr 8 (.int .u32))],[]⟩,b3D K0⟩
theorem g8S:a1L tp 163 c0C:=a4D (n:=163) (k:=60) (hs:=[(166,.con c0L),(167,.con b9Z)]) (A:=b1F [([163],0,.tmpl ⟨(dd 1 (.pl (.sl (.int .u8))::.ptr 0 []::dd 1 (.ptr 1 []::.ptr 2 []::.ptr 3 []::.pl (.int .i64)::dd 183 []))),[.box (.arr 8 (.int .u32)) (.pl (.arr 8 (.int .u32))),.box (.arr 8 (.int .u32)) (.pl (.arr 8 (.int .u32))),.box (.arr 64 (.int .u32)) (.pl (.arr 64 (.int .u32))),.box (.arr 64 (.int .u32)) (.pl (.arr 64 (.int .u32)))]⟩),([163],2,.tmpl ⟨(dd 2 (.ptr 0 []::dd 1 (.ptr 1 []::.ptr 2 []::.ptr 3 []::dd 3 (.ptr 4 []::.pl (.int .i64)::dd 179 [])))),[.box (.arr 8 (.int .u32)) (.pl (.arr 8 (.int .u32))),.box (.arr 8 (.int .u32)) (.pl (.arr 8 (.int .u32))),.box (.arr 64 (.int .u32)) (.pl (.arr 64 (.int .u32))),.box (.arr 64 (.int .u32)) (.pl (.arr 64 (.int .u32))),.box (.arr 8 (.int .u32)) (.pl (.arr 8 (.int .u32)))]⟩),([163],4,.tmpl ⟨(dd 2 (.ptr 0 []::dd 1 (.ptr 1 []::dd 5 (.ptr 2 []::dd 5 (.pl (.int .i64)::dd 174 []))))),[.box (.arr 8 (.int .u32)) (.pl (.arr 8 (.int .u32))),.box (.arr 8 (.int .u32)) (.pl (.arr 8 (.int .u32))),.box (.arr 8 (.int .u32)) (.pl (.arr 8 (.int .u32)))]⟩)]) ⟨g7U,h0D,trivial⟩ (by intro x; kernel_rfl)
def b4G:Con:=⟨⟨[.pl (.sl (.int .u8))],[]⟩,⟨[.pl (.arr 32 (.int .u8))],[]⟩,a9X K0⟩
theorem g0X:a1L tp 151 b4G:=a4D (n:=151) (k:=60) (hs:=[(163,.con c0C)]) (A:=b1F [([151],0,.tmpl ⟨(.pl (.sl (.int .u8))::dd 1 (.ptr 0 []::.whole 1::dd 67 [])),[.box (.arr 32 (.int .u8)) (.pl (.arr 32 (.int .u8))),.row (.int .u8)]⟩),([151],2,.tmpl ⟨(dd 2 (.ptr 0 []::.whole 1::.pl (.int .u64)::.pl (.int .i64)::dd 65 [])),[.box (.arr 32 (.int .u8)) (.pl (.arr 32 (.int .u8))),.row (.int .u8)]⟩),([151],4,.tmpl ⟨(dd 2 (.ptr 0 []::.whole 1::dd 2 (.ptr 2 []::.pl (.int .i64)::dd 63 []))),[.box (.arr 32 (.int .u8)) (.pl (.arr 32 (.int .u8))),.row (.int .u8),.box (.arr 8 (.int .u32)) (.pl (.arr 8 (.int .u32)))]⟩),([151],6,.tmpl ⟨(dd 2 (.ptr 0 []::dd 3 (.ptr 1 []::dd 1 (.ptr 2 []::.pl (.int .i64)::dd 61 [])))),[.box (.arr 32 (.int .u8)) (.pl (.arr 32 (.int .u8))),.box (.arr 8 (.int .u32)) (.pl (.arr 8 (.int .u32))),.box (.arr 32 (.int .u8)) (.pl (.arr 32 (.int .u8)))]⟩)]) ⟨g8S,trivial⟩ (by intro x; kernel_rfl)
def c2H:Con:=⟨⟨[.pl (.sl (.int .u8))],[]⟩,⟨[.pl (.arr 32 (.int .u8))],[]⟩,b4D K0⟩
theorem g9X:a1L tp 146 c2H:=a4D (n:=146) (k:=60) (hs:=[(151,.con b4G)]) (A:=fun _ _=>none) ⟨g0X,trivial⟩ (by intro x; kernel_rfl)
def b8V:Con:=⟨⟨[.pl a1T],[]⟩,⟨[.pl (.sl (.int .u8))],[]⟩,b1Z K0⟩
theorem g8Z:a1L tp 164 b8V:=a4D (n:=164) (k:=60) (hs:=[]) (A:=b1F [([164],0,.tmpl ⟨(dd 1 (.ptr 0 []::dd 1 (.whole 1::.pl (.int .i64)::dd 27 []))),[.box a1T (.pl a1T),.row (.int .u8)]⟩)]) trivial (by intro x; kernel_rfl)
def a8N:Con:=⟨⟨[.pl (.sl (.int .u8)),.pl a1T],[]⟩,⟨[.pl (.sl (.int .u8))],[]⟩,a4Z K0⟩
theorem g6S:a1L tp 159 a8N:=a4D (n:=159) (k:=60) (hs:=[(164,.con b8V)]) (A:=fun _ _=>none) ⟨g8Z,trivial⟩ (by intro x; kernel_rfl)
def b3V:Con:=⟨⟨[.pl (.sl (.int .u8)),.pl (.int .u64)],[]⟩,⟨[.pl (.sl (.int .u8))],[]⟩,a5G K0⟩
theorem g7Z:a1L tp 160 b3V:=a4D (n:=160) (k:=60) (hs:=[(159,.con a8N)]) (A:=fun _ _=>none) ⟨g6S,trivial⟩ (by intro x; kernel_rfl)
def b7X:Con:=⟨⟨[.pl a0O],[]⟩,⟨[.pl (.sl (.int .u8))],[]⟩,b0D K0⟩
theorem g8P:a1L tp 147 b7X:=a4D (n:=147) (k:=60) (hs:=[(159,.con a8N),(160,.con b3V)]) (A:=fun _ _=>none) ⟨g6S,g7Z,trivial⟩ (by intro x; kernel_rfl)
def b5G:Con:=⟨⟨[.pl a0O],[]⟩,⟨[.pl (.arr 32 (.int .u8))],[]⟩,a6M K0⟩
theorem g6P:a1L tp 122 b5G:=a4D (n:=122) (k:=60) (hs:=[(146,.con c2H),(147,.con b7X)]) (A:=fun _ _=>none) ⟨g9X,g8P,trivial⟩ (by intro x; kernel_rfl)
def b3P:Con:=⟨⟨[.pl (.sl a0O),.pl (.int .i64)],[]⟩,⟨[.pl (.sl (.arr 32 (.int .u8)))],[]⟩,a7Y K0⟩
theorem g5Y:a1L tp 125 b3P:=a4D (n:=125) (k:=60) (hs:=[(122,.con b5G)]) (A:=b1F [([125],0,.tmpl ⟨(.pl (.sl a0O)::.pl (.int .i64)::dd 3 (.whole 0::.pl (.int .i64)::dd 14 [])),[.row (.arr 32 (.int .u8))]⟩)]) ⟨g6P,trivial⟩ (by intro x; kernel_rfl)
def a7N:Con:=⟨⟨[.pl (.int .i64)],[]⟩,⟨[.pl (.int .i64)],[]⟩,a4Y K0⟩
theorem f9T:a1L tp 148 a7N:=a4D (n:=148) (k:=60) (hs:=[]) (A:=b1F [([148],0,.tmpl ⟨(.pl (.int .i64)::dd 2 (.pl (.int .i64)::dd 8 [])),[]⟩)]) trivial (by intro x; kernel_rfl)
def b5U:Con:=⟨⟨[.pl (.arr 32 (.int .u8)),.pl (.arr 32 (.int .u8))],[]⟩,⟨[.pl (.arr 32 (.int .u8))],[]⟩,a8T K0⟩
theorem g5R:a1L tp 152 b5U:=a4D (n:=152) (k:=60) (hs:=[(151,.con b4G)]) (A:=fun _ _=>none) ⟨g0X,trivial⟩ (by intro x; kernel_rfl)
def b4K:Con:=⟨⟨[.pl (.sl (.arr 32 (.int .u8)))],[]⟩,⟨[.pl (.arr 32 (.int .u8))],[]⟩,a4W K0⟩
def b8Q (k0:Nat):Con:=⟨⟨[.pl (.sl (.arr 32 (.int .u8)))],[]⟩,⟨[.pl (.arr 32 (.int .u8))],[]⟩,a3C K0 k0⟩
theorem f8H:∀ k0,a1L tp 134 (b8Q k0)
 | 0=>fun x y h=>by cases h
 | k0 + 1=>a4D (n:=134) (k:=60) (hs:=[(134,.con (b8Q k0)),(148,.con a7N),(151,.con b4G),(152,.con b5U)]) (A:=fun _ _=>none) ⟨(f8H k0),f9T,g0X,g5R,trivial⟩ (by intro x; kernel_rfl)
theorem g6G:a1L tp 134 b4K:=f8H K0
def c0T:Con:=⟨⟨[.pl (.sl a0O),.pl (.int .i64)],[]⟩,⟨[.pl (.arr 32 (.int .u8)),.pl .bool],[]⟩,a9S K0⟩
theorem h0A:a1L tp 104 c0T:=a4D (n:=104) (k:=60) (hs:=[(125,.con b3P),(134,.con b4K)]) (A:=b1F [([1000000,104],4,.join ⟨(.pl (.sl a0O)::.pl (.int .i64)::dd 2 (.ptr 0 []::dd 14 [])),[.box (.arr 32 (.int .u8)) (.pl (.arr 32 (.int .u8)))]⟩)]) ⟨g5Y,g6G,trivial⟩ (by intro x; kernel_rfl)
def a8M:Con:=⟨⟨[.ptr 0 [],.pl (.int .u64),.pl a1T],a0F⟩,⟨[.pl a0O],a0F⟩,a5A K0⟩
theorem h0Q:a1L tp 70 a8M:=a4D (n:=70) (k:=140) (hs:=[(104,.con c0T)]) (A:=fun _ _=>none) ⟨h0A,trivial⟩ (by intro x; kernel_rfl)
def b4V:Con:=⟨⟨[.ptr 0 [],.pl a1R],a0F⟩,⟨[.pl a1N],a0F⟩,a7O K0⟩
theorem h2W:a1L tp 47 b4V:=a4D (n:=47) (k:=140) (hs:=[(56,.con a2T),(62,.con b2K),(63,.con b6R),(64,.con b5O),(65,.con b0Z),(66,.con a7V),(67,.con c2D),(68,.con b1A),(69,.con b0Y),(70,.con a8M)]) (A:=b1F [([1000000,47],22,.join ⟨(.ptr 0 []::dd 2 (.ptr 8 []::.ptr 9 []::dd 4 (.ptr 11 []::dd 171 (.ptr 0 []::.ptr 1 []::.ptr 4 []::[])))),[.box a1J ((.pair (.pl (.int .u64)) ((.pair (.pl a0P) ((.pair (.pl a1Q) ((.pair (.pl (.int .u64)) ((.pair (.pl a1A) ((.pair (.ptr 1 []) ((.pair (.whole 3) ((.pair (.ptr 4 []) (.pl .nil))))))))))))))))),.box a0K ((.pair (.whole 2) (.pl (.cons (.arr 4 a1T) .nil)))),.row a0X,.row a0O,.box a0R ((.pair (.pl a1T) ((.pair (.whole 5) ((.pair (.whole 6) ((.pair (.whole 7) (.pl .nil))))))))),.row (.arr 32 (.int .u8)),.row (.int .u64),.row a0Y,.box a1R (.pl a1R),.box a1N ((.pair (.pl (.int .i64)) ((.pair (.pl (.int .i64)) ((.pair (.pl a3P) ((.pair (.pl a1T) ((.pair (.pl a1T) ((.pair (.pl (.int .u64)) ((.pair (.pl a1T) ((.pair (.pl a1T) ((.pair (.whole 10) (.pl .nil))))))))))))))))))),.row a0O,.box a1N ((.pair (.pl (.int .i64)) ((.pair (.pl (.int .i64)) ((.pair (.pl a3P) ((.pair (.pl a1T) ((.pair (.pl a1T) ((.pair (.pl (.int .u64)) ((.pair (.pl a1T) ((.pair (.pl a1T) ((.pair (.whole 12) (.pl .nil))))))))))))))))))),.row a0O]⟩)]) ⟨f4E,h1J,h1V,h1G,h2V,h2C,h3M,h3G,h1N,h0Q,trivial⟩ (by intro x; kernel_rfl)
def b6H:Con:=⟨⟨[.pl (.sl a0Y)],[]⟩,⟨[.pl a1T,.pl (.int .i64)],[]⟩,b0V K0⟩
theorem h1E:a1L tp 73 b6H:=a4D (n:=73) (k:=60) (hs:=[(34,.con a1X),(35,.con a0T),(40,.con a3F)]) (A:=b1F [([73],0,.tmpl ⟨(.pl (.sl a0Y)::dd 1 (.ptr 0 []::dd 1 (.pl (.sl (.int .i64))::.pl (.int .i64)::dd 18 []))),[.box a1T (.pl a1T)]⟩)]) ⟨d8U,c9Z,f8E,trivial⟩ (by intro x; kernel_rfl)
def a8Z:Con:=⟨⟨[.pl (.sl a0Z),.pl (.int .u64)],[]⟩,⟨[.pl (.int .i64)],[]⟩,a6O K0⟩
theorem f6Z:a1L tp 135 a8Z:=a4D (n:=135) (k:=60) (hs:=[]) (A:=b1F [([135],0,.tmpl ⟨(.pl (.sl a0Z)::.pl (.int .u64)::dd 3 (.pl (.int .i64)::dd 14 [])),[]⟩)]) trivial (by intro x; kernel_rfl)
def b9F:Con:=⟨⟨[.pl a1T],[]⟩,⟨[.pl (.int .i64)],[]⟩,b1Q K0⟩
theorem g7X:a1L tp 136 b9F:=a4D (n:=136) (k:=60) (hs:=[]) (A:=b1F [([136],0,.tmpl ⟨(dd 1 (.ptr 0 []::dd 1 (.pl (.int .i64)::.pl (.int .i64)::dd 17 []))),[.box a1T (.pl a1T)]⟩)]) trivial (by intro x; kernel_rfl)
def b9L:Con:=⟨⟨[.pl a1A,.pl a0P,.pl a0O,.pl (.int .u64)],[]⟩,⟨[.pl (.int .i64)],[]⟩,b1W K0⟩
theorem h0F:a1L tp 105 b9L:=a4D (n:=105) (k:=60) (hs:=[(99,.con b0H),(116,.con a5E),(135,.con a8Z),(136,.con b9F)]) (A:=b1F [([1000000,105],10,.join ⟨(dd 6 (.ptr 0 []::dd 29 [])),[.box a0O (.pl a0O)]⟩)]) ⟨g9N,e7Z,f6Z,g7X,trivial⟩ (by intro x; kernel_rfl)
def b5N:Con:=⟨⟨[.pl (.int .u64),.pl (.int .u64),.pl (.int .u64),.pl (.int .u64)],[]⟩,⟨[.pl (.int .u64),.pl (.int .i64)],[]⟩,a9A K0⟩
theorem g9C:a1L tp 106 b5N:=a4D (n:=106) (k:=60) (hs:=[(24,.con a1M),(84,.con a1P),(88,.con a3G),(98,.con a5D)]) (A:=b1F [([1000000,106],4,.join ⟨(.pl (.int .u64)::.pl (.int .u64)::.pl (.int .u64)::.pl (.int .u64)::dd 38 []),[]⟩)]) ⟨e1T,e8Z,f2D,f8G,trivial⟩ (by intro x; kernel_rfl)
def b8R:Con:=⟨⟨[.pl a1T,.pl a1T],[]⟩,⟨[.pl a1T,.pl (.int .i64)],[]⟩,b1P K0⟩
theorem g9V:a1L tp 107 b8R:=a4D (n:=107) (k:=60) (hs:=[(35,.con a0T),(40,.con a3F),(88,.con a3G)]) (A:=fun _ _=>none) ⟨c9Z,f8E,f2D,trivial⟩ (by intro x; kernel_rfl)
def b7K:Con:=⟨⟨[.pl (.sl a0Z),.pl (.int .u64),.pl a1T,.pl a1T,.pl (.int .u64)],[]⟩,⟨[.pl (.sl a0Z),.pl (.int .i64)],[]⟩,b0L K0⟩
theorem g7Y:a1L tp 108 b7K:=a4D (n:=108) (k:=60) (hs:=[(24,.con a1M),(34,.con a1X),(35,.con a0T),(56,.con a2T),(60,.con a5H),(132,.con a5F),(135,.con a8Z)]) (A:=b1F [([1000000,108],4,.join ⟨(.pl (.sl a0Z)::.pl (.int .u64)::dd 2 (.pl (.int .u64)::dd 2 (.ptr 0 []::.ptr 1 []::dd 97 []))),[.box a1T (.pl a1T),.box a1T (.pl a1T)]⟩)]) ⟨e1T,d8U,c9Z,f4E,g2U,e7X,f6Z,trivial⟩ (by intro x; kernel_rfl)
def b7S:Con:=⟨⟨[.pl (.sl a0Z)],[]⟩,⟨[.pl (.sl a0Z)],[]⟩,b0R K0⟩
theorem h0J:a1L tp 137 b7S:=a4D (n:=137) (k:=60) (hs:=[]) (A:=b1F [([1000000,137],10,.join ⟨(.pl (.sl a0Z)::dd 2 (.whole 0::.pl (.int .i64)::.pl (.int .i64)::dd 76 [])),[.row a0Z]⟩),([137],0,.tmpl ⟨(.pl (.sl a0Z)::dd 2 (.whole 0::.pl (.int .i64)::dd 77 [])),[.row a0Z]⟩),([137],2,.tmpl ⟨(.pl (.sl a0Z)::dd 2 (.whole 0::.pl (.int .i64)::.pl (.int .i64)::dd 76 [])),[.row a0Z]⟩)]) trivial (by intro x; kernel_rfl)
def c0M:Con:=⟨⟨[.pl (.sl a0Z),.pl a1T],[]⟩,⟨[.pl (.sl a0Y),.pl (.int .i64)],[]⟩,b3C K0⟩
theorem g9D:a1L tp 109 c0M:=a4D (n:=109) (k:=60) (hs:=[(24,.con a1M),(35,.con a0T),(83,.con a8S),(97,.fresh a6A),(132,.con a5F),(137,.con b7S)]) (A:=b1F [([1000000,109],10,.join ⟨(dd 6 (.whole 0::.pl (.sl a0Z)::.pl (.sl (.int .i64))::.pl (.int .i64)::dd 13 (.pl (.sl (.int .i64))::.pl (.int .i64)::.pl .bool::dd 26 []))),[.row a0Y]⟩),([109],0,.tmpl ⟨(dd 6 (.whole 0::.pl (.sl a0Z)::.pl (.sl (.int .i64))::.pl (.int .i64)::dd 42 [])),[.row a0Y]⟩)]) ⟨e1T,c9Z,g5Z,e2E,e7X,h0J,trivial⟩ (by intro x; kernel_rfl)
def b0F:Con:=⟨⟨[.pl a1T,.pl a1T],[]⟩,⟨[.pl a1T,.pl (.int .i64)],[]⟩,a7C K0⟩
theorem f9Q:a1L tp 119 b0F:=a4D (n:=119) (k:=60) (hs:=[(34,.con a1X),(35,.con a0T),(40,.con a3F)]) (A:=fun _ _=>none) ⟨d8U,c9Z,f8E,trivial⟩ (by intro x; kernel_rfl)
def b7R:Con:=⟨⟨[.pl (.sl a0Z),.pl (.int .u64),.pl a1T],[]⟩,⟨[.pl (.sl a0Z),.pl (.int .i64)],[]⟩,b0S K0⟩
theorem g7Q:a1L tp 138 b7R:=a4D (n:=138) (k:=60) (hs:=[(56,.con a2T),(111,.con a6N),(119,.con b0F),(132,.con a5F),(135,.con a8Z)]) (A:=fun _ _=>none) ⟨f4E,f0Y,f9Q,e7X,f6Z,trivial⟩ (by intro x; kernel_rfl)
def b9O:Con:=⟨⟨[.pl (.sl a0Z),.pl (.sl a0Y)],[]⟩,⟨[.pl (.sl a0Z),.pl (.int .i64)],[]⟩,b1X K0⟩
theorem g9A:a1L tp 110 b9O:=a4D (n:=110) (k:=60) (hs:=[(138,.con b7R)]) (A:=b1F [([110],0,.tmpl ⟨(dd 1 (.pl (.sl a0Y)::dd 4 (.pl (.sl a0Z)::.pl (.int .i64)::dd 31 []))),[]⟩)]) ⟨g7Q,trivial⟩ (by intro x; kernel_rfl)
def b5R:Con:=⟨⟨[.pl (.sl a0Z)],[]⟩,⟨[.pl a1T,.pl (.int .i64)],[]⟩,a9G K0⟩
theorem g9Y:a1L tp 112 b5R:=a4D (n:=112) (k:=60) (hs:=[(34,.con a1X),(35,.con a0T),(40,.con a3F),(132,.con a5F)]) (A:=b1F [([112],0,.tmpl ⟨(.pl (.sl a0Z)::dd 1 (.ptr 0 []::dd 1 (.pl (.sl (.int .i64))::.pl (.int .i64)::dd 22 []))),[.box a1T (.pl a1T)]⟩)]) ⟨d8U,c9Z,f8E,e7X,trivial⟩ (by intro x; kernel_rfl)
def b3N:Con:=⟨⟨[.pl a1B],[]⟩,⟨[.pl a1U,.pl (.int .i64)],[]⟩,a7W K0⟩
theorem g5B:a1L tp 139 b3N:=a4D (n:=139) (k:=60) (hs:=[(40,.con a3F)]) (A:=fun _ _=>none) ⟨f8E,trivial⟩ (by intro x; kernel_rfl)
def a5I:Con:=⟨⟨[.pl .bool,.pl (.sl (.int .i64))],[]⟩,⟨[.pl a1B],[]⟩,a2L K0⟩
theorem e2J:a1L tp 141 a5I:=a4D (n:=141) (k:=60) (hs:=[]) (A:=fun _ _=>none) trivial (by intro x; kernel_rfl)
def b4B:Con:=⟨⟨[.pl a1B,.pl a1B],[]⟩,⟨[.pl a1B],[]⟩,a7A K0⟩
theorem g0H:a1L tp 140 b4B:=a4D (n:=140) (k:=60) (hs:=[(34,.con a1X),(36,.con a4L),(97,.fresh a6A),(141,.con a5I)]) (A:=fun _ _=>none) ⟨d8U,f6K,e2E,e2J,trivial⟩ (by intro x; kernel_rfl)
def c1O:Con:=⟨⟨[.pl a1T,.pl a1T],[]⟩,⟨[.pl a1U],[]⟩,b4C K0⟩
theorem g7T:a1L tp 113 c1O:=a4D (n:=113) (k:=60) (hs:=[(35,.con a0T),(139,.con b3N),(140,.con b4B),(141,.con a5I)]) (A:=fun _ _=>none) ⟨c9Z,g5B,g0H,e2J,trivial⟩ (by intro x; kernel_rfl)
def b6Y:Con:=⟨⟨[.pl a1B,.pl (.sl (.int .i64))],[]⟩,⟨[.pl a1B],[]⟩,a4U K0⟩
theorem g8R:a1L tp 153 b6Y:=a4D (n:=153) (k:=60) (hs:=[(34,.con a1X),(84,.con a1P),(98,.con a5D),(141,.con a5I)]) (A:=b1F [([1000000,153],4,.join ⟨(dd 2 (.ptr 0 []::dd 1 (.ptr 1 []::.pl (.sl (.int .i64))::dd 14 (.pl .bool::dd 7 [])))),[.box a1B (.pl a1B),.box a1B (.pl a1B)]⟩)]) ⟨d8U,e8Z,f8G,e2J,trivial⟩ (by intro x; kernel_rfl)
def b8Y:Con:=⟨⟨[.pl a1B],[]⟩,⟨[.pl a1B],[]⟩,a5U K0⟩
theorem g8X:a1L tp 154 b8Y:=a4D (n:=154) (k:=60) (hs:=[(141,.con a5I)]) (A:=fun _ _=>none) ⟨e2J,trivial⟩ (by intro x; kernel_rfl)
def b0E:Con:=⟨⟨[.pl a1U],[]⟩,⟨[.pl a1B],[]⟩,a3D K0⟩
theorem g6B:a1L tp 155 b0E:=a4D (n:=155) (k:=60) (hs:=[(35,.con a0T),(141,.con a5I)]) (A:=fun _ _=>none) ⟨c9Z,e2J,trivial⟩ (by intro x; kernel_rfl)
def c3G:Con:=⟨⟨[.pl a1B,.pl a1B],[]⟩,⟨[.pl a1B],[]⟩,b2O K0⟩
theorem g8T:a1L tp 156 c3G:=a4D (n:=156) (k:=60) (hs:=[(88,.con a3G),(141,.con a5I)]) (A:=fun _ _=>none) ⟨f2D,e2J,trivial⟩ (by intro x; kernel_rfl)
def b8X:Con:=⟨⟨[.pl a1U,.pl a1U,.pl (.int .u64),.pl a0P],[]⟩,⟨[.pl a1U,.pl (.int .i64)],[]⟩,b1J K0⟩
theorem g9R:a1L tp 142 b8X:=a4D (n:=142) (k:=60) (hs:=[(34,.con a1X),(60,.con a5H),(84,.con a1P),(98,.con a5D),(116,.con a5E),(133,.con a9H),(139,.con b3N),(140,.con b4B),(153,.con b6Y),(154,.con b8Y),(155,.con b0E),(156,.con c3G)]) (A:=b1F [([1000000,142],13,.join ⟨(dd 2 (.pl (.int .u64)::dd 4 (.ptr 0 []::.ptr 1 []::dd 5 (.ptr 2 []::dd 81 [])))),[.box a0P (.pl a0P),.box a1U (.pl a1U),.box a1B (.pl a1B)]⟩),([1000000,142],6,.join ⟨(dd 2 (.pl (.int .u64)::dd 1 (.ptr 0 []::.ptr 1 []::dd 1 (.ptr 2 []::.ptr 3 []::dd 87 [])))),[.box a1U (.pl a1U),.box a1U (.pl a1U),.box a0P (.pl a0P),.box a1U (.pl a1U)]⟩)]) ⟨d8U,g2U,e8Z,f8G,e7Z,f4K,g5B,g0H,g8R,g8X,g6B,g8T,trivial⟩ (by intro x; kernel_rfl)
def b5F:Con:=⟨⟨[.pl a1T,.pl a1U],[]⟩,⟨[.pl a1T,.pl (.int .i64)],[]⟩,a8E K0⟩
theorem g8Y:a1L tp 143 b5F:=a4D (n:=143) (k:=60) (hs:=[(35,.con a0T),(40,.con a3F),(133,.con a9H),(140,.con b4B),(141,.con a5I),(155,.con b0E)]) (A:=fun _ _=>none) ⟨c9Z,f8E,f4K,g0H,e2J,g6B,trivial⟩ (by intro x; kernel_rfl)
def c0P:Con:=⟨⟨[.pl a1T,.pl a1U,.pl a1U,.pl (.int .u64),.pl a0P],[]⟩,⟨[.pl a1T,.pl (.int .i64)],[]⟩,b2W K0⟩
theorem g8Q:a1L tp 114 c0P:=a4D (n:=114) (k:=60) (hs:=[(116,.con a5E),(133,.con a9H),(142,.con b8X),(143,.con b5F)]) (A:=b1F [([1000000,114],6,.join ⟨(dd 3 (.pl (.int .u64)::dd 1 (.ptr 0 []::.ptr 1 []::.ptr 2 []::dd 1 (.ptr 3 []::.ptr 4 []::dd 36 [])))),[.box a1T (.pl a1T),.box a1U (.pl a1U),.box a1U (.pl a1U),.box a0P (.pl a0P),.box a1T (.pl a1T)]⟩)]) ⟨e7Z,f4K,g9R,g8Y,trivial⟩ (by intro x; kernel_rfl)
def b7Y:Con:=⟨⟨[.pl a1A,.pl a0P,.pl a1T,.pl a0O,.pl (.int .u64)],[]⟩,⟨[.pl a1A,.pl a1Z,.pl (.int .i64)],[]⟩,b0I K0⟩
theorem h3F:a1L tp 71 b7Y:=a4D (n:=71) (k:=60) (hs:=[(73,.con b6H),(105,.con b9L),(106,.con b5N),(107,.con b8R),(108,.con b7K),(109,.con c0M),(110,.con b9O),(111,.con a6N),(112,.con b5R),(113,.con c1O),(114,.con c0P)]) (A:=b1F [([1000000,71],11,.join ⟨(dd 5 (.ptr 0 []::.ptr 1 []::.ptr 2 []::.ptr 3 []::dd 1 (.ptr 4 []::.ptr 5 []::dd 2 (.ptr 6 []::.ptr 7 []::dd 153 [])))),[.box a1A (.pl a1A),.box a0P (.pl a0P),.box a1T (.pl a1T),.box a0O (.pl a0O),.box a1A (.pl a1A),.box a1Z (.pl a1Z),.box a1Z (.pl a1Z),.box a1T (.pl a1T)]⟩),([1000000,71],30,.join ⟨(dd 5 (.ptr 0 []::dd 2 (.ptr 1 []::dd 1 (.ptr 2 []::.ptr 3 []::dd 2 (.ptr 4 []::dd 2 (.pl (.sl a0Z)::dd 151 [])))))),[.box a1A (.pl a1A),.box a0O (.pl a0O),.box a1A (.pl a1A),.box a1Z (.pl a1Z),.box a1Z (.pl a1Z)]⟩)]) ⟨h1E,h0F,g9C,g9V,g7Y,g9D,g9A,f0Y,g9Y,g7T,g8Q,trivial⟩ (by intro x; kernel_rfl)
def b3E:Con:=⟨⟨[.bp a0K,.pl (.int .i64)],[]⟩,⟨[.pl a1T],[]⟩,a6S K0⟩
theorem h1K:a1L tp 72 b3E:=a4D (n:=72) (k:=140) (hs:=[]) (A:=fun _ _=>none) trivial (by intro x; kernel_rfl)
def a8K:Con:=⟨⟨[.ptr 0 [],.pl (.int .i64),.pl a1T],a0L⟩,⟨[.pl (.int .i64)],a0L⟩,a4B K0⟩
theorem h1R:a1L tp 74 a8K:=a4D (n:=74) (k:=140) (hs:=[(111,.con a6N)]) (A:=b1F [([1000000,74],4,.join ⟨(.ptr 0 []::.pl (.int .i64)::dd 3 (.ptr 2 []::dd 30 (.ptr 0 []::[]))),[.box a0K ((.pair (.whole 1) (.pl (.cons (.arr 4 a1T) .nil)))),.row a0X,.box a1T (.pl a1T)]⟩)]) ⟨f0Y,trivial⟩ (by intro x; kernel_rfl)
def b1M:Con:=⟨⟨[.ptr 0 [],.pl a0O],a0F⟩,⟨[.pl a1N],a0F⟩,a5V K0⟩
theorem h3J:a1L tp 48 b1M:=a4D (n:=48) (k:=140) (hs:=[(70,.con a8M),(71,.con b7Y),(72,.con b3E),(73,.con b6H),(74,.con a8K)]) (A:=b1F [([48],0,.tmpl ⟨(.ptr 0 []::dd 3 (.ptr 8 []::dd 1 (.ptr 10 []::dd 1 (.ptr 11 []::.pl (.int .i64)::dd 82 (.ptr 0 []::.ptr 1 []::.ptr 4 []::[]))))),[.box a1J ((.pair (.pl (.int .u64)) ((.pair (.pl a0P) ((.pair (.pl a1Q) ((.pair (.pl (.int .u64)) ((.pair (.pl a1A) ((.pair (.ptr 1 []) ((.pair (.whole 3) ((.pair (.ptr 4 []) (.pl .nil))))))))))))))))),.box a0K ((.pair (.whole 2) (.pl (.cons (.arr 4 a1T) .nil)))),.row a0X,.row a0O,.box a0R ((.pair (.pl a1T) ((.pair (.whole 5) ((.pair (.whole 6) ((.pair (.whole 7) (.pl .nil))))))))),.row (.arr 32 (.int .u8)),.row (.int .u64),.row a0Y,.box a1N ((.pair (.pl (.int .i64)) ((.pair (.pl (.int .i64)) ((.pair (.pl a3P) ((.pair (.pl a1T) ((.pair (.pl a1T) ((.pair (.pl (.int .u64)) ((.pair (.pl a1T) ((.pair (.pl a1T) ((.pair (.whole 9) (.pl .nil))))))))))))))))))),.row a0O,.box a1Z (.pl a1Z),.box a1N ((.pair (.pl (.int .i64)) ((.pair (.pl (.int .i64)) ((.pair (.pl a3P) ((.pair (.pl a1T) ((.pair (.pl a1T) ((.pair (.pl (.int .u64)) ((.pair (.pl a1T) ((.pair (.pl a1T) ((.pair (.whole 12) (.pl .nil))))))))))))))))))),.row a0O]⟩)]) ⟨h0Q,h3F,h1K,h1E,h1R,trivial⟩ (by intro x; kernel_rfl)
def b9C:Con:=⟨⟨[.pl (.int .u64),.pl (.int .u64),.pl (.int .u64)],[]⟩,⟨[.pl (.int .u64)],[]⟩,b1O K0⟩
theorem h3I:a1L tp 75 b9C:=a4D (n:=75) (k:=60) (hs:=[(115,.con b5K)]) (A:=fun _ _=>none) ⟨g5J,trivial⟩ (by intro x; kernel_rfl)
def c0H:Con:=⟨⟨[.pl a1Q,.pl (.int .u64),.pl (.int .u64),.pl a0P],[]⟩,⟨[.pl a1Q,.pl (.int .i64)],[]⟩,b2S K0⟩
theorem h1Q:a1L tp 76 c0H:=a4D (n:=76) (k:=60) (hs:=[(61,.con b6E)]) (A:=b1F [([1000000,76],4,.join ⟨(dd 1 (.pl (.int .u64)::.pl (.int .u64)::dd 1 (.ptr 0 []::dd 2 (.ptr 1 []::.ptr 2 []::dd 43 [])))),[.box a1Q (.pl a1Q),.box a0P (.pl a0P),.box a1Q (.pl a1Q)]⟩)]) ⟨h0Z,trivial⟩ (by intro x; kernel_rfl)
def c1Q:Con:=⟨⟨[.pl a0P],[]⟩,⟨[.pl (.arr 12 a1T)],[]⟩,c3B K0⟩
theorem g9M:a1L tp 117 c1Q:=a4D (n:=117) (k:=60) (hs:=[]) (A:=fun _ _=>none) trivial (by intro x; kernel_rfl)
def c2I:Con:=⟨⟨[.pl a0P,.pl (.int .i64),.pl a1T],[]⟩,⟨[.pl a0P,.pl (.int .i64)],[]⟩,a7L K0⟩
theorem h1Y:a1L tp 77 c2I:=a4D (n:=77) (k:=60) (hs:=[(102,.con b0P),(116,.con a5E),(117,.con c1Q)]) (A:=b1F [([1000000,77],4,.join ⟨(dd 1 (.pl (.int .i64)::dd 1 (.ptr 0 []::dd 1 (.ptr 1 []::.ptr 2 []::dd 76 [])))),[.box a0P (.pl a0P),.box a1T (.pl a1T),.box a0P (.pl a0P)]⟩),([77],0,.tmpl ⟨(dd 6 (.ptr 0 []::dd 1 (.ptr 1 []::.pl (.int .i64)::dd 73 []))),[.box a0P (.pl a0P),.box (.arr 12 a1T) (.pl (.arr 12 a1T))]⟩)]) ⟨g1U,e7Z,g9M,trivial⟩ (by intro x; kernel_rfl)
def c1U:Con:=⟨⟨[.pl (.sl a0Z),.pl (.int .u64)],[]⟩,⟨[.pl (.sl a0Z),.pl (.int .i64)],[]⟩,b4H K0⟩
theorem g9S:a1L tp 118 c1U:=a4D (n:=118) (k:=60) (hs:=[(132,.con a5F),(135,.con a8Z)]) (A:=b1F [([1000000,118],14,.join ⟨(.pl (.sl a0Z)::.pl (.int .u64)::dd 4 (.whole 0::.pl .bool::.pl (.int .i64)::dd 30 (.pl .bool::dd 20 []))),[.row a0Z]⟩),([1000000,118],4,.join ⟨(.pl (.sl a0Z)::.pl (.int .u64)::dd 58 []),[]⟩),([118],0,.tmpl ⟨(.pl (.sl a0Z)::.pl (.int .u64)::dd 4 (.whole 0::.pl .bool::.pl (.int .i64)::dd 51 [])),[.row a0Z]⟩)]) ⟨e7X,f6Z,trivial⟩ (by intro x; kernel_rfl)
def b5L:Con:=⟨⟨[.pl a1A,.pl (.int .u64)],[]⟩,⟨[.pl a1A,.pl (.int .i64)],[]⟩,a8F K0⟩
theorem h2T:a1L tp 78 b5L:=a4D (n:=78) (k:=60) (hs:=[(99,.con b0H),(118,.con c1U)]) (A:=fun _ _=>none) ⟨g9N,g9S,trivial⟩ (by intro x; kernel_rfl)
def b1N:Con:=⟨⟨[.ptr 0 [],.pl a1T],a2P⟩,⟨[.pl (.int .i64)],a2P⟩,a5W K0⟩
theorem h1H:a1L tp 79 b1N:=a4D (n:=79) (k:=140) (hs:=[(56,.con a2T),(119,.con b0F)]) (A:=fun _ _=>none) ⟨f4E,f9Q,trivial⟩ (by intro x; kernel_rfl)
def c2A:Con:=⟨⟨[.pl (.sl (.int .i64)),.pl (.sl (.int .i64))],[]⟩,⟨[.whole 0],[.row (.int .i64)]⟩,a8Q K0⟩
theorem f5X:a1L tp 34 c2A:=a4D (n:=34) (k:=80) (hs:=[]) (A:=b1F [([1000000,34],7,.join ⟨(.pl (.sl (.int .i64))::.pl (.sl (.int .i64))::dd 3 (.whole 0::.pl (.int .i64)::.pl (.int .i64)::dd 44 [])),[.row (.int .i64)]⟩),([1000000,34],9,.join ⟨(.pl (.sl (.int .i64))::.pl (.sl (.int .i64))::dd 3 (.whole 0::.pl (.int .i64)::.pl (.int .i64)::dd 44 [])),[.row (.int .i64)]⟩),([34],0,.tmpl ⟨(.pl (.sl (.int .i64))::.pl (.sl (.int .i64))::dd 3 (.whole 0::.pl (.int .i64)::.pl (.int .i64)::dd 44 [])),[.row (.int .i64)]⟩)]) trivial (by intro x; kernel_rfl)
def b2J:Con:=⟨⟨[.bp a0K],[]⟩,⟨[.pl (.sl (.int .i64))],[]⟩,a6F K0⟩
theorem g3Y:c0B tp 120 b2J:=f0K (n:=120) (k:=140) (hs:=[(34,.con c2A),(35,.con a0T)]) (A:=b1F [([120],0,.tmpl ⟨(.bp a0K :: dd 2 (.whole 0 :: .pl (.int .i64) :: dd 35 [])),[.row (.int .i64)]⟩),([120],2,.tmpl ⟨(.bp a0K :: dd 2 (.whole 0 :: dd 1 (.pl (.int .i64) :: dd 34 []))),[.row (.int .i64)]⟩)]) ⟨f5X,c9Z,trivial⟩ (by intro x; kernel_rfl)
def b3W:Con:=⟨⟨[.ptr 0 [],.pl (.int .u64),.pl a1T],a0L⟩,⟨[.pl (.int .i64)],a0L⟩,a7G K0⟩
theorem h2K:a1L tp 80 b3W:=a4D (n:=80) (k:=160) (hs:=[(34,.con a1X),(35,.con a0T),(60,.con a5H),(103,.con a7Z),(120,.fresh b2J)]) (A:=fun _ _=>none) ⟨d8U,c9Z,g2U,g4G,g3Y,trivial⟩ (by intro x; kernel_rfl)
def a7P:Con:=⟨⟨[.bp a0R,.pl (.int .u64)],[]⟩,⟨[.pl .bool],[]⟩,a4G K0⟩
theorem h0W:a1L tp 27 a7P:=a4D (n:=27) (k:=140) (hs:=[]) (A:=b1F [([27],0,.tmpl ⟨(.bp a0R::.pl (.int .u64)::dd 3 (.pl (.int .i64)::dd 18 [])),[]⟩)]) trivial (by intro x; kernel_rfl)
def c3W:Con:=⟨⟨[.pl (.int .i64),.pl (.int .i64),.pl (.arr 32 (.int .u8)),.pl (.sl (.arr 32 (.int .u8)))],[]⟩,⟨[.pl (.arr 32 (.int .u8)),.pl .bool],[]⟩,b6M K0⟩
def c3Y (k0:Nat):Con:=⟨⟨[.pl (.int .i64),.pl (.int .i64),.pl (.arr 32 (.int .u8)),.pl (.sl (.arr 32 (.int .u8)))],[]⟩,⟨[.pl (.arr 32 (.int .u8)),.pl .bool],[]⟩,a4V K0 k0⟩
theorem f8Y:∀ k0,a1L tp 145 (c3Y k0)
 | 0=>fun x y h=>by cases h
 | k0 + 1=>a4D (n:=145) (k:=60) (hs:=[(145,.con (c3Y k0)),(148,.con a7N),(152,.con b5U)]) (A:=fun _ _=>none) ⟨(f8Y k0),f9T,g5R,trivial⟩ (by intro x; kernel_rfl)
theorem g9I:a1L tp 145 c3W:=f8Y K0
def b9T:Con:=⟨⟨[.pl (.arr 32 (.int .u8)),.pl (.int .i64),.pl (.int .i64),.pl (.arr 32 (.int .u8)),.pl (.sl (.arr 32 (.int .u8)))],[]⟩,⟨[.pl .bool],[]⟩,a7F K0⟩
theorem h0K:a1L tp 121 b9T:=a4D (n:=121) (k:=60) (hs:=[(145,.con c3W)]) (A:=b1F [([1000000,121],4,.join ⟨(dd 1 (.pl (.int .i64)::.pl (.int .i64)::dd 1 (.pl (.sl (.arr 32 (.int .u8)))::.ptr 0 []::dd 2 (.ptr 1 []::dd 30 [])))),[.box (.arr 32 (.int .u8)) (.pl (.arr 32 (.int .u8))),.box (.arr 32 (.int .u8)) (.pl (.arr 32 (.int .u8)))]⟩)]) ⟨g9I,trivial⟩ (by intro x; kernel_rfl)
def b0A:Con:=⟨⟨[.bp a0R,.pl (.int .u64)],[]⟩,⟨[.pl a1T],[]⟩,a5C K0⟩
theorem g7O:a1L tp 123 b0A:=a4D (n:=123) (k:=140) (hs:=[]) (A:=b1F [([123],0,.tmpl ⟨(.bp a0R::.pl (.int .u64)::dd 2 (.ptr 0 []::.pl (.int .i64)::dd 28 [])),[.box a1T (.pl a1T)]⟩)]) trivial (by intro x; kernel_rfl)
def b3F:Con:=⟨⟨[.ptr 0 [],.pl a7K],a2P⟩,⟨[.pl (.int .i64)],a2P⟩,a6V K0⟩
theorem h1Z:a1L tp 81 b3F:=a4D (n:=81) (k:=140) (hs:=[(27,.con a7P),(56,.con a2T),(111,.con a6N),(119,.con b0F),(121,.con b9T),(122,.con b5G),(123,.con b0A)]) (A:=b1F [([1000000,81],4,.join ⟨(.ptr 0 []::dd 2 (.ptr 4 []::dd 154 (.ptr 0 []::[]))),[.box a0R ((.pair (.pl a1T) ((.pair (.whole 1) ((.pair (.whole 2) ((.pair (.whole 3) (.pl .nil))))))))),.row (.arr 32 (.int .u8)),.row (.int .u64),.row a0Y,.box a7K (.pl a7K)]⟩),([1000000,81],6,.join ⟨(.ptr 0 []::dd 2 (.ptr 4 []::dd 154 (.ptr 0 []::[]))),[.box a0R ((.pair (.pl a1T) ((.pair (.whole 1) ((.pair (.whole 2) ((.pair (.whole 3) (.pl .nil))))))))),.row (.arr 32 (.int .u8)),.row (.int .u64),.row a0Y,.box a7K (.pl a7K)]⟩),([81],0,.tmpl ⟨(.ptr 0 []::dd 2 (.ptr 4 []::dd 4 (.ptr 5 []::.pl (.int .i64)::dd 148 (.ptr 0 []::[])))),[.box a0R ((.pair (.pl a1T) ((.pair (.whole 1) ((.pair (.whole 2) ((.pair (.whole 3) (.pl .nil))))))))),.row (.arr 32 (.int .u8)),.row (.int .u64),.row a0Y,.box a7K (.pl a7K),.box a1T (.pl a1T)]⟩)]) ⟨h0W,f4E,f0Y,f9Q,h0K,g6P,g7O,trivial⟩ (by intro x; kernel_rfl)
def b2M:Con:=⟨⟨[.ptr 0 [],.pl a1H],a0F⟩,⟨[.pl (.int .i64)],a0F⟩,a6C K0⟩
theorem h2J:a1L tp 49 b2M:=a4D (n:=49) (k:=140) (hs:=[(34,.con a1X),(35,.con a0T),(56,.con a2T),(60,.con a5H),(75,.con b9C),(76,.con c0H),(77,.con c2I),(78,.con b5L),(79,.con b1N),(80,.con b3W),(81,.con b3F)]) (A:=b1F [([1000000,49],22,.join ⟨(.ptr 0 []::dd 2 (.ptr 8 []::dd 142 (.ptr 0 []::.ptr 1 []::.ptr 4 []::[]))),[.box a1J ((.pair (.pl (.int .u64)) ((.pair (.pl a0P) ((.pair (.pl a1Q) ((.pair (.pl (.int .u64)) ((.pair (.pl a1A) ((.pair (.ptr 1 []) ((.pair (.whole 3) ((.pair (.ptr 4 []) (.pl .nil))))))))))))))))),.box a0K ((.pair (.whole 2) (.pl (.cons (.arr 4 a1T) .nil)))),.row a0X,.row a0O,.box a0R ((.pair (.pl a1T) ((.pair (.whole 5) ((.pair (.whole 6) ((.pair (.whole 7) (.pl .nil))))))))),.row (.arr 32 (.int .u8)),.row (.int .u64),.row a0Y,.box a1H (.pl a1H)]⟩)]) ⟨d8U,c9Z,f4E,g2U,h3I,h1Q,h1Y,h2T,h1H,h2K,h1Z,trivial⟩ (by intro x; kernel_rfl)
def b0X:Con:=⟨⟨[.ptr 0 [],.pl a1H],a0F⟩,⟨[.pl a1N],a0F⟩,a3Y K0⟩
theorem h2N:a1L tp 20 b0X:=a4D (n:=20) (k:=140) (hs:=[(46,.con b4Y),(47,.con b4V),(48,.con b1M),(49,.con b2M)]) (A:=b1F [([1000000,20],4,.join ⟨(.ptr 0 []::dd 2 (.ptr 8 []::.ptr 9 []::dd 41 (.ptr 0 []::.ptr 1 []::.ptr 4 []::[]))),[.box a1J ((.pair (.pl (.int .u64)) ((.pair (.pl a0P) ((.pair (.pl a1Q) ((.pair (.pl (.int .u64)) ((.pair (.pl a1A) ((.pair (.ptr 1 []) ((.pair (.whole 3) ((.pair (.ptr 4 []) (.pl .nil))))))))))))))))),.box a0K ((.pair (.whole 2) (.pl (.cons (.arr 4 a1T) .nil)))),.row a0X,.row a0O,.box a0R ((.pair (.pl a1T) ((.pair (.whole 5) ((.pair (.whole 6) ((.pair (.whole 7) (.pl .nil))))))))),.row (.arr 32 (.int .u8)),.row (.int .u64),.row a0Y,.box a1H (.pl a1H),.box a1N ((.pair (.pl (.int .i64)) ((.pair (.pl (.int .i64)) ((.pair (.pl a3P) ((.pair (.pl a1T) ((.pair (.pl a1T) ((.pair (.pl (.int .u64)) ((.pair (.pl a1T) ((.pair (.pl a1T) ((.pair (.whole 10) (.pl .nil))))))))))))))))))),.row a0O]⟩)]) ⟨h3E,h2W,h3J,h2J,trivial⟩ (by intro x; kernel_rfl)
def b7G:Con:=⟨⟨[.pl (.int .i64),.pl (.int .i64)],[]⟩,⟨[.pl (.int .i64)],[]⟩,a7X K0⟩
theorem h1C:a1L tp 10 b7G:=a4D (n:=10) (k:=160) (hs:=[]) (A:=fun _ _=>none) trivial (by intro x; kernel_rfl)
def b7O:Con:=⟨⟨[.pl (.int .i64),.pl (.int .u64),.pl .bool],[]⟩,⟨[.pl a1H],[]⟩,b0M K0⟩
theorem h2S:a1L tp 50 b7O:=a4D (n:=50) (k:=160) (hs:=[]) (A:=fun _ _=>none) trivial (by intro x; kernel_rfl)
def b8W:Con:=⟨⟨[.pl (.int .i64),.ptr 0 []],a0F⟩,⟨[.pl a0O],a0F⟩,b1K K0⟩
theorem h2A:a1L tp 51 b8W:=a4D (n:=51) (k:=160) (hs:=[]) (A:=fun _ _=>none) trivial (by intro x; kernel_rfl)
def c0S:Con:=⟨⟨[.pl (.int .i64)],[]⟩,⟨[.pl a1H],[]⟩,b2Y K0⟩
theorem h1M:a1L tp 52 c0S:=a4D (n:=52) (k:=160) (hs:=[]) (A:=b1F [([1000000,52],7,.join ⟨(.pl (.int .i64)::dd 1 (.ptr 0 []::dd 3 (.ptr 1 []::dd 56 []))),[.box a1H (.pl a1H),.box a1H (.pl a1H)]⟩)]) trivial (by intro x; kernel_rfl)
def c0F:Con:=⟨⟨[.pl (.sl (.arr 32 (.int .u8))),.pl (.int .i64)],[]⟩,⟨[.whole 0],[.row (.arr 32 (.int .u8))]⟩,b3B K0⟩
def c0E (k0:Nat):Con:=⟨⟨[.pl (.sl (.arr 32 (.int .u8))),.pl (.int .i64)],[]⟩,⟨[.whole 0],[.row (.arr 32 (.int .u8))]⟩,a3O K0 k0⟩
theorem f8N:∀ k0,a1L tp 124 (c0E k0)
 | 0=>fun x y h=>by cases h
 | k0 + 1=>a4D (n:=124) (k:=140) (hs:=[(124,.con (c0E k0)),(134,.con b4K),(148,.con a7N)]) (A:=fun _ _=>none) ⟨(f8N k0),g6G,f9T,trivial⟩ (by intro x; kernel_rfl)
theorem g9B:a1L tp 124 c0F:=f8N K0
def b9U:Con:=⟨⟨[.pl (.sl a0O),.pl (.int .i64),.pl (.int .i64)],[]⟩,⟨[.whole 0,.pl .bool],[.row (.arr 32 (.int .u8))]⟩,b1R K0⟩
theorem h1O:a1L tp 82 b9U:=a4D (n:=82) (k:=140) (hs:=[(124,.con c0F),(125,.con b3P)]) (A:=b1F [([1000000,82],4,.join ⟨(.pl (.sl a0O)::.pl (.int .i64)::.pl (.int .i64)::dd 23 []),[]⟩)]) ⟨g9B,g5Y,trivial⟩ (by intro x; kernel_rfl)
def b4L:Con:=⟨⟨[],[]⟩,⟨[.pl a1T],[]⟩,b1V K0⟩
theorem h1D:a1L tp 85 b4L:=a4D (n:=85) (k:=60) (hs:=[]) (A:=fun _ _=>none) trivial (by intro x; kernel_rfl)
def b9E:Con:=⟨⟨[.pl (.int .i64)],[]⟩,⟨[.pl (.arr 32 (.int .u8))],[]⟩,b1U K0⟩
theorem h2M:a1L tp 86 b9E:=a4D (n:=86) (k:=160) (hs:=[]) (A:=b1F [([86],0,.tmpl ⟨(.pl (.int .i64)::dd 1 (.ptr 0 []::.ptr 1 []::.pl (.int .i64)::dd 14 [])),[.box (.arr 32 (.int .u8)) (.pl (.arr 32 (.int .u8))),.box (.arr 32 (.int .u8)) (.pl (.arr 32 (.int .u8)))]⟩)]) trivial (by intro x; kernel_rfl)
def c0R:Con:=⟨⟨[.pl (.int .i64),.ptr 0 []],a0F⟩,⟨[.pl a7K],a0F⟩,b2R K0⟩
theorem h2O:a1L tp 53 c0R:=a4D (n:=53) (k:=160) (hs:=[(24,.con a1M),(34,.con a1X),(35,.con a0T),(82,.con b9U),(83,.con a8S),(84,.con a1P),(85,.con b4L),(86,.con b9E)]) (A:=fun _ _=>none) ⟨e1T,d8U,c9Z,h1O,g5Z,e8Z,h1D,h2M,trivial⟩ (by intro x; kernel_rfl)
def b1L:Con:=⟨⟨[.pl (.sl (.int .i64))],[]⟩,⟨[.pl (.sl (.int .u8))],[]⟩,a4K K0⟩
theorem h2D:a1L tp 89 b1L:=a4D (n:=89) (k:=160) (hs:=[(10,.con b7G)]) (A:=b1F [([1000000,89],15,.join ⟨(.pl (.sl (.int .i64))::dd 2 (.whole 0::.pl (.int .i64)::.pl (.int .i64)::.pl (.int .i64)::dd 20 (.pl (.int .i64)::dd 18 (.pl .bool::dd 50 [])))),[.row (.int .u8)]⟩),([1000000,89],22,.join ⟨(.pl (.sl (.int .i64))::dd 2 (.whole 0::.pl (.int .i64)::.pl (.int .i64)::.pl (.int .i64)::dd 55 (.pl .bool::dd 34 []))),[.row (.int .u8)]⟩),([1000000,89],25,.join ⟨(.pl (.sl (.int .i64))::dd 2 (.whole 0::.pl (.int .i64)::dd 1 (.pl (.int .i64)::dd 1 (.pl (.int .i64)::dd 88 [])))),[.row (.int .u8)]⟩),([1000000,89],28,.join ⟨(.pl (.sl (.int .i64))::dd 2 (.whole 0::.pl (.int .i64)::dd 1 (.pl (.int .i64)::dd 1 (.pl (.int .i64)::.pl (.int .i64)::dd 68 (.pl (.int .i64)::.pl (.int .i64)::.pl (.int .i64)::.whole 0::.pl (.int .i64)::.pl .bool::dd 13 []))))),[.row (.int .u8)]⟩),([89],0,.tmpl ⟨(.pl (.sl (.int .i64))::dd 2 (.whole 0::.pl (.int .i64)::dd 92 [])),[.row (.int .u8)]⟩),([89],3,.tmpl ⟨(.pl (.sl (.int .i64))::dd 2 (.whole 0::.pl (.int .i64)::.pl (.int .i64)::.pl (.int .i64)::dd 3 (.pl (.int .i64)::dd 86 []))),[.row (.int .u8)]⟩),([89],5,.tmpl ⟨(.pl (.sl (.int .i64))::dd 2 (.whole 0::.pl (.int .i64)::.pl (.int .i64)::.pl (.int .i64)::.pl (.int .i64)::dd 89 [])),[.row (.int .u8)]⟩),([89],7,.tmpl ⟨(.pl (.sl (.int .i64))::dd 2 (.whole 0::.pl (.int .i64)::dd 1 (.pl (.int .i64)::dd 1 (.pl (.int .i64)::.pl (.int .i64)::dd 87 [])))),[.row (.int .u8)]⟩)]) ⟨h1C,trivial⟩ (by intro x; kernel_rfl)
def b4P:Con:=⟨⟨[.pl (.int .i64),.pl (.int .u64),.ptr 0 []],a0F⟩,⟨[.pl a1R],a0F⟩,a7R K0⟩
theorem h2F:a1L tp 54 b4P:=a4D (n:=54) (k:=160) (hs:=[(24,.con a1M),(35,.con a0T),(84,.con a1P),(85,.con b4L),(87,.con a4E),(88,.con a3G),(89,.con b1L)]) (A:=fun _ _=>none) ⟨e1T,c9Z,e8Z,h1D,g6V,f2D,h2D,trivial⟩ (by intro x; kernel_rfl)
def b6W:Con:=⟨⟨[.pl (.int .i64),.ptr 0 [],.pl .bool],a0F⟩,⟨[.pl a1H],a0F⟩,a9O K0⟩
theorem h3A:a1L tp 21 b6W:=a4D (n:=21) (k:=160) (hs:=[(10,.con b7G),(50,.con b7O),(51,.con b8W),(52,.con c0S),(53,.con c0R),(54,.con b4P)]) (A:=b1F [([1000000,21],11,.join ⟨(dd 1 (.ptr 0 []::dd 4 (.ptr 8 []::dd 1 (.pl (.int .u64)::.pl (.int .i64)::dd 12 (.pl (.int .i64)::dd 7 (.pl .bool::dd 52 (.ptr 0 []::.ptr 1 []::.ptr 4 []::[]))))))),[.box a1J ((.pair (.pl (.int .u64)) ((.pair (.pl a0P) ((.pair (.pl a1Q) ((.pair (.pl (.int .u64)) ((.pair (.pl a1A) ((.pair (.ptr 1 []) ((.pair (.whole 3) ((.pair (.ptr 4 []) (.pl .nil))))))))))))))))),.box a0K ((.pair (.whole 2) (.pl (.cons (.arr 4 a1T) .nil)))),.row a0X,.row a0O,.box a0R ((.pair (.pl a1T) ((.pair (.whole 5) ((.pair (.whole 6) ((.pair (.whole 7) (.pl .nil))))))))),.row (.arr 32 (.int .u8)),.row (.int .u64),.row a0Y,.box a1H (.pl a1H)]⟩),([1000000,21],26,.join ⟨(dd 1 (.ptr 0 []::dd 4 (.ptr 8 []::dd 1 (.pl (.int .u64)::.pl (.int .i64)::dd 61 (.pl .bool::dd 11 (.ptr 0 []::.ptr 1 []::.ptr 4 []::[])))))),[.box a1J ((.pair (.pl (.int .u64)) ((.pair (.pl a0P) ((.pair (.pl a1Q) ((.pair (.pl (.int .u64)) ((.pair (.pl a1A) ((.pair (.ptr 1 []) ((.pair (.whole 3) ((.pair (.ptr 4 []) (.pl .nil))))))))))))))))),.box a0K ((.pair (.whole 2) (.pl (.cons (.arr 4 a1T) .nil)))),.row a0X,.row a0O,.box a0R ((.pair (.pl a1T) ((.pair (.whole 5) ((.pair (.whole 6) ((.pair (.whole 7) (.pl .nil))))))))),.row (.arr 32 (.int .u8)),.row (.int .u64),.row a0Y,.box a1H (.pl a1H)]⟩),([1000000,21],8,.join ⟨(dd 1 (.ptr 0 []::.pl .bool::dd 3 (.ptr 8 []::dd 1 (.pl (.int .u64)::.pl (.int .i64)::dd 12 (.pl (.int .i64)::.pl .bool::dd 59 (.ptr 0 []::.ptr 1 []::.ptr 4 []::[])))))),[.box a1J ((.pair (.pl (.int .u64)) ((.pair (.pl a0P) ((.pair (.pl a1Q) ((.pair (.pl (.int .u64)) ((.pair (.pl a1A) ((.pair (.ptr 1 []) ((.pair (.whole 3) ((.pair (.ptr 4 []) (.pl .nil))))))))))))))))),.box a0K ((.pair (.whole 2) (.pl (.cons (.arr 4 a1T) .nil)))),.row a0X,.row a0O,.box a0R ((.pair (.pl a1T) ((.pair (.whole 5) ((.pair (.whole 6) ((.pair (.whole 7) (.pl .nil))))))))),.row (.arr 32 (.int .u8)),.row (.int .u64),.row a0Y,.box a1H (.pl a1H)]⟩)]) ⟨h1C,h2S,h2A,h1M,h2O,h2F,trivial⟩ (by intro x; kernel_rfl)
def b2D:Con:=⟨⟨[.pl (.sl (.int .i64)),.pl .bool],[]⟩,⟨[.ptr 0 [],.whole 8,.whole 9],[.box a1J (.pair (.pl (.int .u64)) (.pair (.pl a0P) (.pair (.pl a1Q) (.pair (.pl (.int .u64)) (.pair (.pl a1A) (.pair (.ptr 1 []) (.pair (.whole 3) (.pair (.ptr 2 []) (.pl .nil))))))))),.box a0K (.pair (.whole 4) (.pl (.cons (.arr 4 a1T) .nil))),.box a0R (.pair (.pl a1T) (.pair (.whole 5) (.pair (.whole 6) (.pair (.whole 7) (.pl .nil))))),.row a0O,.row a0X,.row (.arr 32 (.int .u8)),.row (.int .u64),.row a0Y,.row a1H,.row a1N]⟩,a7M K0⟩
theorem ok9:a1L tp 9 b2D:=a4D (n:=9) (k:=160) (hs:=[(18,.con b5Y),(19,.con b5B),(20,.con b0X),(21,.con b6W)]) (A:=b1F [([9],0,.tmpl ⟨(.pl (.sl (.int .i64))::.pl .bool::dd 5 (.ptr 0 []::.whole 8::.whole 9::.pl (.int .i64)::dd 45 [])),[.box a1J ((.pair (.pl (.int .u64)) ((.pair (.pl a0P) ((.pair (.pl a1Q) ((.pair (.pl (.int .u64)) ((.pair (.pl a1A) ((.pair (.ptr 1 []) ((.pair (.whole 3) ((.pair (.ptr 4 []) (.pl .nil))))))))))))))))),.box a0K ((.pair (.whole 2) (.pl (.cons (.arr 4 a1T) .nil)))),.row a0X,.row a0O,.box a0R ((.pair (.pl a1T) ((.pair (.whole 5) ((.pair (.whole 6) ((.pair (.whole 7) (.pl .nil))))))))),.row (.arr 32 (.int .u8)),.row (.int .u64),.row a0Y,.row a1H,.row a1N]⟩),([9],2,.tmpl ⟨(.pl (.sl (.int .i64))::.pl .bool::dd 5 (.ptr 0 []::.whole 8::.whole 9::dd 1 (.pl (.int .i64)::dd 44 []))),[.box a1J ((.pair (.pl (.int .u64)) ((.pair (.pl a0P) ((.pair (.pl a1Q) ((.pair (.pl (.int .u64)) ((.pair (.pl a1A) ((.pair (.ptr 1 []) ((.pair (.whole 3) ((.pair (.ptr 4 []) (.pl .nil))))))))))))))))),.box a0K ((.pair (.whole 2) (.pl (.cons (.arr 4 a1T) .nil)))),.row a0X,.row a0O,.box a0R ((.pair (.pl a1T) ((.pair (.whole 5) ((.pair (.whole 6) ((.pair (.whole 7) (.pl .nil))))))))),.row (.arr 32 (.int .u8)),.row (.int .u64),.row a0Y,.row a1H,.row a1N]⟩)]) ⟨h1B,h2R,h2N,h3A,trivial⟩ (by intro x; kernel_rfl)
theorem h0R:a1L tp 57 e4A:=f6C (fn:=Tryz.f57) (by kernel_rfl) (by kernel_rfl) (by kernel_rfl) (by kernel_rfl) (by kernel_rfl)
def c9F:Con:=⟨⟨[.pl a1T,.pl a1T],[]⟩,⟨[.pl a1T,.pl (.int .i64)],[]⟩,a3W⟩
theorem h1S:a1L tp 59 c9F:=a4D (n:=59) (k:=60) (hs:=[(57,.con e4A)]) (A:=fun p _=>match p with | 1000000::_=>none | _=>some (.unroll 6)) ⟨h0R,trivial⟩ (by intro x; kernel_rfl)
def c3U:Con:=⟨⟨[.pl (.sl a1H),.pl (.sl a1N)],[]⟩,⟨[.pl a2H,.pl (.int .i64)],[]⟩,b2P K0⟩
theorem h0T:a1L tp 11 c3U:=a4D (n:=11) (k:=160) (hs:=[(22,.inl),(39,.inl),(59,.con c9F)]) (A:=b1F [([11],0,.tmpl ⟨(.pl (.sl a1H)::.pl (.sl a1N)::dd 2 (.ptr 0 []::dd 13 (.pl (.sl a1N)::.pl (.int .i64)::.pl (.int .i64)::dd 40 []))),[.box a2H (.pl a2H)]⟩),([11],2,.tmpl ⟨(.pl (.sl a1H)::dd 3 (.ptr 0 []::dd 3 (.ptr 1 []::.ptr 2 []::dd 30 (.pl (.sl a1N)::.pl (.int .i64)::.pl (.int .i64)::dd 18 [])))),[.box a2H (.pl a2H),.box a2H (.pl a2H),.box (.cons .bool .nil) (.pl (.cons .bool .nil))]⟩),([22,15,5,11],0,.tmpl ⟨(.ptr 0 []::.ptr 1 []::dd 4 (.ptr 2 []::.ptr 3 []::dd 3 (.pl (.sl a0O)::.pl (.int .i64)::.pl (.int .i64)::dd 75 (.pl (.sl a1H)::dd 3 (.ptr 4 []::dd 3 (.ptr 1 []::.ptr 0 []::dd 30 (.pl (.sl a1N)::.pl (.int .i64)::.pl (.int .i64)::dd 18 []))))))),[.box (.cons .bool .nil) (.pl (.cons .bool .nil)),.box a2H (.pl a2H),.box a1H (.pl a1H),.box a1N (.pl a1N),.box a2H (.pl a2H)]⟩)]) ⟨h1S,trivial⟩ (by intro x; kernel_rfl)
def b1B:Con:=⟨⟨[.bp a0K],[]⟩,⟨[.whole 0],[.row a0X]⟩,b1S K0⟩
theorem h1L:a1L tp 25 b1B:=a4D (n:=25) (k:=140) (hs:=[(56,.con a2T)]) (A:=b1F [([1000000,25],11,.join ⟨(.bp a0K::dd 2 (.whole 0::.pl (.int .i64)::.ptr 1 []::.pl (.int .i64)::dd 53 [])),[.row a0X,.box a0X (.pl a0X)]⟩),([1000000,25],8,.join ⟨(.bp a0K::dd 2 (.whole 0::.pl (.int .i64)::.ptr 1 []::dd 54 [])),[.row a0X,.box a0X (.pl a0X)]⟩),([25],0,.tmpl ⟨(.bp a0K::dd 2 (.whole 0::.pl (.int .i64)::dd 55 [])),[.row a0X]⟩),([25],2,.tmpl ⟨(.bp a0K::dd 2 (.whole 0::.pl (.int .i64)::.ptr 1 []::.pl (.int .i64)::dd 53 [])),[.row a0X,.box a0X (.pl a0X)]⟩)]) ⟨f4E,trivial⟩ (by intro x; kernel_rfl)
def a9T:Con:=⟨⟨[.bp a0R],[]⟩,⟨[.whole 0],[.row a0Y]⟩,b0B K0⟩
theorem h2G:a1L tp 26 a9T:=a4D (n:=26) (k:=140) (hs:=[]) (A:=b1F [([1000000,26],9,.join ⟨(.bp a0R::dd 2 (.whole 0::.pl (.int .i64)::.pl (.int .i64)::dd 50 [])),[.row a0Y]⟩),([26],0,.tmpl ⟨(.bp a0R::dd 2 (.whole 0::.pl (.int .i64)::dd 51 [])),[.row a0Y]⟩),([26],2,.tmpl ⟨(.bp a0R::dd 2 (.whole 0::.pl (.int .i64)::.pl (.int .i64)::dd 50 [])),[.row a0Y]⟩)]) trivial (by intro x; kernel_rfl)
def b2Q:Con:=⟨⟨[.ptr 0 []],a0F⟩,⟨[.pair (.pl (.int .u64)) (.pair (.pl a0P) (.pair (.pl a1Q) (.pair (.pl (.int .u64)) (.pair (.pair (.pl a1T) (.pair (.pl (.int .u64)) (.pair (.pl (.int .u64)) (.pair (.pl (.int .u64)) (.pair (.pl a1U) (.pair (.whole 8) (.pl .nil))))))) (.pair (.whole 9) (.pair (.pl (.arr 4 a1T)) (.pair (.whole 10) (.pair (.whole 11) (.pair (.pl a1T) (.pair (.whole 12) (.pl .nil)))))))))))],[.box a1J (.pair (.pl (.int .u64)) (.pair (.pl a0P) (.pair (.pl a1Q) (.pair (.pl (.int .u64)) (.pair (.pl a1A) (.pair (.ptr 1 []) (.pair (.whole 3) (.pair (.ptr 2 []) (.pl .nil))))))))),.box a0K (.pair (.whole 4) (.pl (.cons (.arr 4 a1T) .nil))),.box a0R (.pair (.pl a1T) (.pair (.whole 5) (.pair (.whole 6) (.pair (.whole 7) (.pl .nil))))),.row a0O,.row a0X,.row (.arr 32 (.int .u8)),.row (.int .u64),.row a0Y,.row a0Z,.row a0X,.row a0O,.row .bool,.row a0Y]⟩,a6G K0⟩
theorem h2I:a1L tp 13 b2Q:=a4D (n:=13) (k:=140) (hs:=[(25,.con b1B),(26,.con a9T),(27,.con a7P)]) (A:=b1F [([13],0,.tmpl ⟨(.ptr 0 []::dd 1 (.ptr 8 []::.ptr 14 []::.pl (.int .i64)::dd 82 (.ptr 0 []::.ptr 1 []::.ptr 4 []::[]))),[.box a1J ((.pair (.pl (.int .u64)) ((.pair (.pl a0P) ((.pair (.pl a1Q) ((.pair (.pl (.int .u64)) ((.pair (.pl a1A) ((.pair (.ptr 1 []) ((.pair (.whole 3) ((.pair (.ptr 4 []) (.pl .nil))))))))))))))))),.box a0K ((.pair (.whole 2) (.pl (.cons (.arr 4 a1T) .nil)))),.row a0X,.row a0O,.box a0R ((.pair (.pl a1T) ((.pair (.whole 5) ((.pair (.whole 6) ((.pair (.whole 7) (.pl .nil))))))))),.row (.arr 32 (.int .u8)),.row (.int .u64),.row a0Y,.box a8D ((.pair (.pl (.int .u64)) ((.pair (.pl a0P) ((.pair (.pl a1Q) ((.pair (.pl (.int .u64)) ((.pair ((.pair (.pl a1T) ((.pair (.pl (.int .u64)) ((.pair (.pl (.int .u64)) ((.pair (.pl (.int .u64)) ((.pair (.pl a1U) ((.pair (.whole 9) (.pl .nil))))))))))))) ((.pair (.whole 10) ((.pair (.pl (.arr 4 a1T)) ((.pair (.whole 11) ((.pair (.whole 12) ((.pair (.pl a1T) ((.pair (.whole 13) (.pl .nil))))))))))))))))))))))),.row a0Z,.row a0X,.row a0O,.row .bool,.row a0Y,.box a8D ((.pair (.pl (.int .u64)) ((.pair (.pl a0P) ((.pair (.pl a1Q) ((.pair (.pl (.int .u64)) ((.pair ((.pair (.pl a1T) ((.pair (.pl (.int .u64)) ((.pair (.pl (.int .u64)) ((.pair (.pl (.int .u64)) ((.pair (.pl a1U) ((.pair (.whole 15) (.pl .nil))))))))))))) ((.pair (.whole 16) ((.pair (.pl (.arr 4 a1T)) ((.pair (.whole 17) ((.pair (.whole 18) ((.pair (.pl a1T) ((.pair (.whole 19) (.pl .nil))))))))))))))))))))))),.row a0Z,.row a0X,.row a0O,.row .bool,.row a0Y]⟩)]) ⟨h1L,h2G,h0W,trivial⟩ (by intro x; kernel_rfl)
def a9R:Con:=⟨⟨[.pl (.arr 5 (.int .u64)),.pl a1T],[]⟩,⟨[.pl (.arr 5 (.int .u64))],[]⟩,b1D K0⟩
theorem g3Z:a1L tp 29 a9R:=a4D (n:=29) (k:=60) (hs:=[(57,.con e4A)]) (A:=b1F [([29],0,.tmpl ⟨(dd 2 (.ptr 0 []::.ptr 1 []::.ptr 2 []::.pl (.int .u64)::dd 1 (.pl (.int .i64)::dd 22 []))),[.box (.arr 5 (.int .u64)) (.pl (.arr 5 (.int .u64))),.box a1T (.pl a1T),.box (.arr 5 (.int .u64)) (.pl (.arr 5 (.int .u64)))]⟩)]) ⟨h0R,trivial⟩ (by intro x; kernel_rfl)
def c5I:Con:=⟨⟨[.pl (.sl a1T)],[]⟩,⟨[.pl (.arr 5 (.int .u64))],[]⟩,b2I K0⟩
theorem g9W:a1L tp 30 c5I:=a4D (n:=30) (k:=60) (hs:=[(29,.con a9R)]) (A:=b1F [([30],0,.tmpl ⟨(dd 2 (.ptr 0 []::.ptr 1 []::dd 2 (.pl (.sl a1T)::.pl (.int .i64)::.pl (.int .i64)::dd 8 []))),[.box (.arr 5 (.int .u64)) (.pl (.arr 5 (.int .u64))),.box (.arr 5 (.int .u64)) (.pl (.arr 5 (.int .u64)))]⟩)]) ⟨g3Z,trivial⟩ (by intro x; kernel_rfl)
def c6S:Con:=⟨⟨[.pl a8D],[]⟩,⟨[.pl (.arr 5 (.int .u64))],[]⟩,c9C K0⟩
theorem h1W:a1L tp 28 c6S:=a4D (n:=28) (k:=60) (hs:=[(29,.con a9R),(30,.con c5I)]) (A:=b1F [([28],0,.tmpl ⟨(dd 2 (.ptr 0 []::.ptr 1 []::dd 6 (.pl (.sl a0X)::.pl (.int .i64)::.pl (.int .i64)::dd 9 []))),[.box (.arr 5 (.int .u64)) (.pl (.arr 5 (.int .u64))),.box (.arr 5 (.int .u64)) (.pl (.arr 5 (.int .u64)))]⟩)]) ⟨g3Z,g9W,trivial⟩ (by intro x; kernel_rfl)
def b7W:Con:=⟨⟨[.pl a8D],[]⟩,⟨[.pl (.arr 5 (.int .u64))],[]⟩,b9Q K0⟩
theorem h1X:a1L tp 31 b7W:=a4D (n:=31) (k:=60) (hs:=[(29,.con a9R)]) (A:=b1F [([31],0,.tmpl ⟨(dd 2 (.ptr 0 []::.ptr 1 []::dd 3 (.pl (.sl a0O)::.pl (.int .i64)::.pl (.int .i64)::dd 9 []))),[.box (.arr 5 (.int .u64)) (.pl (.arr 5 (.int .u64))),.box (.arr 5 (.int .u64)) (.pl (.arr 5 (.int .u64)))]⟩)]) ⟨g3Z,trivial⟩ (by intro x; kernel_rfl)
def b7Z:Con:=⟨⟨[.pl (.sl a0Z)],[]⟩,⟨[.pl .bool],[]⟩,b9A K0⟩
theorem ok32:a1L tp 32 b7Z:=a4D (n:=32) (k:=60) (hs:=[(30,.con c5I)]) (A:=b1F [([32],0,.tmpl ⟨(dd 5 (.pl (.sl a0Z)::.pl (.int .i64)::.pl (.int .i64)::dd 17 [])),[]⟩)]) ⟨g9W,trivial⟩ (by intro x; kernel_rfl)
def c3F:Con:=⟨⟨[.pl (.sl a0Z)],[]⟩,⟨[.pl (.arr 5 (.int .u64))],[]⟩,c4I K0⟩
theorem h2Q:a1L tp 33 c3F:=a4D (n:=33) (k:=60) (hs:=[(29,.con a9R)]) (A:=b1F [([33],0,.tmpl ⟨(dd 2 (.ptr 0 []::.ptr 1 []::dd 2 (.pl (.sl a0Z)::.pl (.int .i64)::.pl (.int .i64)::dd 9 []))),[.box (.arr 5 (.int .u64)) (.pl (.arr 5 (.int .u64))),.box (.arr 5 (.int .u64)) (.pl (.arr 5 (.int .u64)))]⟩)]) ⟨g3Z,trivial⟩ (by intro x; kernel_rfl)
def c9V:Con:=⟨⟨[.pl a8D,.pl a2H],[]⟩,⟨[.pl (.int .i64)],[]⟩,c2K K0⟩
theorem h2Z:a1L tp 14 c9V:=a4D (n:=14) (k:=60) (hs:=[(28,.con c6S),(29,.con a9R),(30,.con c5I),(31,.con b7W),(32,.con b7Z),(33,.con c3F)]) (A:=b1F [([1000000,14],6,.join ⟨(dd 2 (.ptr 0 []::.ptr 1 []::dd 15 (.pl .bool::dd 68 []))),[.box a8D (.pl a8D),.box a2H (.pl a2H)]⟩)]) ⟨h1W,g3Z,g9W,h1X,ok32,h2Q,trivial⟩ (by intro x; kernel_rfl)
def b9N:Con:=⟨⟨[],[]⟩,⟨[.pl .bool],[]⟩,b1T K0⟩
theorem ok8:a1L tp 8 b9N:=a4D (n:=8) (k:=160) (hs:=[(9,.con b2D),(11,.con c3U),(13,.con b2Q),(14,.con c9V),(18,.con b5Y)]) (A:=fun _ _=>none) ⟨ok9,h0T,h2I,h2Z,h1B,trivial⟩ (by intro x; kernel_rfl)
def b8E:Con:=⟨⟨[.pl (.sl (.int .i64))],[]⟩,⟨[.pl .bool],[]⟩,a5X K0⟩
theorem ok6:a1L tp 6 b8E:=a4D (n:=6) (k:=160) (hs:=[(8,.con b9N),(9,.con b2D),(11,.con c3U)]) (A:=b1F [([6],0,.tmpl ⟨(dd 4 (.whole 0::.whole 1::.whole 2::.whole 3::.whole 4::.whole 5::.pl (.int .i64)::dd 105 [])),[.row a1H,.row a1N,.row a1H,.row a1H,.row a1N,.row a1N]⟩),([6],2,.tmpl ⟨(dd 4 (.whole 0::.whole 1::.whole 2::.whole 3::.whole 4::.whole 5::dd 1 (.pl (.int .i64)::dd 104 []))),[.row a1H,.row a1N,.row a1H,.row a1H,.row a1N,.row a1N]⟩)]) ⟨ok8,ok9,h0T,trivial⟩ (by intro x; kernel_rfl)
end
end Sym

/- Rules for what a printed function computes. -/
namespace Sym
open Go
def Wp {R:Type} (T:R→Prop) (r:R):Prop:=T r
theorem Wp.brn {R:Type} {T:R→Prop} {c:Bool} {t f:R} (h1:c = true→Wp T t) (h2:c = false→Wp T f):Wp T (brn c t f):=by
 cases c
 ·
  exact h2 rfl
 ·
  exact h1 rfl
theorem Wp.brnT {R:Type} {T:R→Prop} {c:Bool} {t f:R} (hc:c = true) (h:Wp T t):Wp T (Sym.brn c t f):=by subst hc; exact h
theorem Wp.brnF {R:Type} {T:R→Prop} {c:Bool} {t f:R} (hc:c = false) (h:Wp T f):Wp T (Sym.brn c t f):=by subst hc; exact h
theorem Wp.optF {R Y:Type} {T:R→Prop} {fail:R} {o:Option Y} {k:Y→R} {y:Y} (ho:o = some y) (h:Wp T (k y)):Wp T (optF fail o k):=by subst ho; exact h
theorem Wp.call {R Y:Type} {T:R→Prop} {fail:R} {o:Option Y} {k:Y→R} {P:Y→Prop} (ho:∃ y,o = some y∧P y) (h:∀ y,P y→Wp T (k y)):Wp T (Sym.optF fail o k):=by
 obtain ⟨y,rfl,hp⟩:=ho
 exact h y hp
theorem Wp.jn {X R:Type} {T:R→Prop} {J:X→R} {f:(X→R)→R} (P:X→Prop) (h1:∀ x,P x→Wp T (J x)) (h2:∀ j:X→R,(∀ x,P x→Wp T (j x))→Wp T (f j)):Wp T (jn J f):=h2 J h1
def Rnd {X R:Type} (T:R→Prop) (Inv:X→Prop) (μ:X→Nat) (m:Nat) (s:Stp X R):Prop :=
 match s with
 | .again y=>Inv y∧μ y < m
 | .done r=>Wp T r
theorem Wp.again {X R:Type} {T:R→Prop} {Inv:X→Prop} {μ:X→Nat} {m:Nat} {y:X} (h1:Inv y) (h2:μ y < m):Wp (Rnd T Inv μ m) (.again y:Stp X R):=⟨h1,h2⟩
theorem Wp.done {X R:Type} {T:R→Prop} {Inv:X→Prop} {μ:X→Nat} {m:Nat} {r:R} (h:Wp T r):Wp (Rnd T Inv μ m) (.done r:Stp X R):=h
theorem Wp.iter {X R:Type} {T:R→Prop} {fail:R} {f:X→Stp X R} {x:X} (Inv:X→Prop) (μ:X→Nat) {k:Nat} (h:∀ x,Inv x→Wp (Rnd T Inv μ (μ x)) (f x)) (hi:Inv x) (hm:μ x < k):Wp T (iter fail f k x):=by
 induction k generalizing x with
 | zero=>omega
 | succ k ih =>
  have h1:=h x hi
  unfold Sym.iter
  cases hf:f x with
  | again y =>
   rw [hf] at h1
   exact ih h1.1 (Nat.lt_of_lt_of_le h1.2 (by omega))
  | done r =>
   rw [hf] at h1
   exact h1
theorem Wp.out {R:Type} {T:R→Prop} {r:R} (h:Wp T r):T r:=h
theorem I.of_val {k:IntKind} {n:Int} (h:k.min ≤ n∧n ≤ k.max):(I.of k n).val = n:=a7I h
theorem b9B {n:Int} (h:0 ≤ n∧n < 18446744073709551616):(I.of .u64 n).val = n:=I.of_val ⟨by simp [IntKind.min,IntKind.signed]; omega,by simp [IntKind.max,IntKind.bits,IntKind.signed]; omega⟩
theorem b7M {n:Int} (h:-9223372036854775808 ≤ n∧n < 9223372036854775808):(I.of .i64 n).val = n:=I.of_val ⟨by simp [IntKind.min,IntKind.bits,IntKind.signed]; omega,by simp [IntKind.max,IntKind.bits,IntKind.signed]; omega⟩
theorem a6I (x:I .u64):0 ≤ x.val∧x.val < 18446744073709551616:=c8W x
theorem b4W (x:I .i64):-9223372036854775808 ≤ x.val∧x.val < 9223372036854775808:=by
 have h:=x.ok
 have h1:(2 ^ IntKind.i64.bits:Int) = 18446744073709551616:=by decide
 have h2:(2 ^ (IntKind.i64.bits - 1):Int) = 9223372036854775808:=by decide
 have h3:IntKind.i64.signed = true:=rfl
 simp only [IntKind.wrap,h1,h2,h3,Bool.true_and,decide_eq_true_eq] at h
 split at h <;> omega
theorem iff_ltb {k:IntKind} {a b:I k}:I.ltb a b = true ↔ a.val < b.val:=by simp [I.ltb]
theorem iff_leb {k:IntKind} {a b:I k}:I.leb a b = true ↔ a.val ≤ b.val:=by simp [I.leb]
theorem iff_eqb {k:IntKind} {a b:I k}:I.eqb a b = true ↔ a.val = b.val:=by simp [I.eqb]
theorem iff_neb {k:IntKind} {a b:I k}:I.neb a b = true ↔ a.val ≠ b.val:=by simp [I.neb]
theorem niff_ltb {k:IntKind} {a b:I k}:I.ltb a b = false ↔ b.val ≤ a.val:=by simp [I.ltb]
theorem niff_leb {k:IntKind} {a b:I k}:I.leb a b = false ↔ b.val < a.val:=by simp [I.leb]
theorem niff_eqb {k:IntKind} {a b:I k}:I.eqb a b = false ↔ a.val ≠ b.val:=by simp [I.eqb]
theorem niff_neb {k:IntKind} {a b:I k}:I.neb a b = false ↔ a.val = b.val:=by simp [I.neb]
theorem iff_nz {k:IntKind} {a:I k}:I.nz a = true ↔ a.val ≠ 0:=by simp [I.nz]
theorem iff_nn {k:IntKind} {a:I k}:I.nn a = true ↔ 0 ≤ a.val:=by simp [I.nn]
theorem iff_inB {k:IntKind} {a:I k} {n:Nat}:inB a n = true ↔ 0 ≤ a.val∧a.val < n:=by simp [inB]
theorem iff_fits {n:Nat}:a1G n = true ↔ n ≤ 1073741824:=by simp [a1G]
theorem I.eq_of {k:IntKind} {a b:I k} (h:I.eqb a b = true):a = b:=I.ext' (iff_eqb.1 h)
theorem a3H {n:Nat} (h:n < 9223372036854775808):(I.ofNat .i64 n).val = n:=b7M ⟨by omega,by omega⟩
theorem a5N {a b:I .i64} (h:-9223372036854775808 ≤ a.val + b.val∧a.val + b.val < 9223372036854775808):(I.add a b).val = a.val + b.val:=b7M h
theorem a8B {a b:I .i64} (h:-9223372036854775808 ≤ a.val - b.val∧a.val - b.val < 9223372036854775808):(I.sub a b).val = a.val - b.val:=b7M h
theorem c4O {a b:I .i64} (h:-9223372036854775808 ≤ a.val * b.val∧a.val * b.val < 9223372036854775808):(I.mul a b).val = a.val * b.val:=b7M h
theorem b7H {a b:I .i64} (h:0 ≤ a.val) (h2:0 < b.val):(I.rem a b).val = a.val % b.val:=by
 have ha:=b4W a
 have hb:=b4W b
 have e:a.val.tmod b.val = a.val % b.val:=Int.tmod_eq_emod_of_nonneg h
 have h3:=Int.emod_nonneg a.val (b:=b.val) (by omega)
 have h4:=Int.emod_lt_of_pos a.val h2
 unfold I.rem
 rw [e]
 exact b7M ⟨by omega,by omega⟩
theorem b9M {a b:I .i64} (h:0 ≤ a.val) (h2:0 < b.val):(I.quo a b).val = a.val / b.val:=by
 have ha:=b4W a
 have e:a.val.tdiv b.val = a.val / b.val:=Int.tdiv_eq_ediv_of_nonneg h
 have h3:0 ≤ a.val / b.val:=Int.ediv_nonneg h (by omega)
 have h4:a.val / b.val ≤ a.val:=Int.ediv_le_self _ h
 unfold I.quo
 rw [e]
 exact b7M ⟨by omega,by omega⟩
theorem f3D {a b:I .u64} (h:a.val + b.val < 18446744073709551616):(I.add a b).val = a.val + b.val:=b9B ⟨by have:=a6I a; have:=a6I b; omega,h⟩
theorem f3F {a b:I .u64} (h:b.val ≤ a.val):(I.sub a b).val = a.val - b.val:=b9B ⟨by omega,by have:=a6I a; have:=a6I b; omega⟩
theorem f0F {a b:I .u64} (h2:b.val ≠ 0):(I.rem a b).val = a.val % b.val:=by
 have ha:=a6I a
 have hb:=a6I b
 have e:a.val.tmod b.val = a.val % b.val:=Int.tmod_eq_emod_of_nonneg ha.1
 have h3:=Int.emod_nonneg a.val (b:=b.val) (by omega)
 have h4:=Int.emod_lt_of_pos a.val (b:=b.val) (by omega)
 unfold I.rem
 rw [e]
 exact b9B ⟨by omega,by omega⟩
theorem c3E (a:I .u64):I.nn a = true:=iff_nn.2 (a6I a).1
end Sym

/- Natural numbers as ints; lists as rows. -/
namespace Sym
open Go
def i6 (n:Nat):I .i64:=I.of .i64 (n:Int)
theorem a0V {n:Nat} (h:n < 9223372036854775808):(i6 n).val = n:=b7M ⟨by omega,by omega⟩
theorem a3N {n:Nat} (h:n < 9223372036854775808):I.nat (i6 n) = n:=by unfold I.nat; rw [a0V h]; simp
theorem a4C {n m:Nat} (h:n + m < 9223372036854775808):I.add (i6 n) (i6 m) = i6 (n + m):=by
 apply I.ext'
 rw [a5N (by rw [a0V (by omega),a0V (by omega)]; omega),a0V (by omega),a0V (by omega),a0V h]
 omega
theorem c0A {n m:Nat} (h:n < 9223372036854775808) (hm:m ≤ n):I.sub (i6 n) (i6 m) = i6 (n - m):=by
 apply I.ext'
 rw [a8B (by rw [a0V (by omega),a0V (by omega)]; omega),a0V (by omega),a0V (by omega),a0V (by omega)]
 omega
theorem a3A {n m:Nat} (hn:n < 9223372036854775808) (hm:m < 9223372036854775808):I.ltb (i6 n) (i6 m) = decide (n < m):=by
 simp only [I.ltb,a0V hn,a0V hm]
 by_cases h:n < m
 ·
  rw [decide_eq_true h,decide_eq_true (by omega)]
 ·
  rw [decide_eq_false h,decide_eq_false (by omega)]
theorem e0M {n m:Nat} (hn:n < 9223372036854775808) (hm:m < 9223372036854775808):I.leb (i6 n) (i6 m) = decide (n ≤ m):=by
 simp only [I.leb,a0V hn,a0V hm]
 by_cases h:n ≤ m
 ·
  rw [decide_eq_true h,decide_eq_true (by omega)]
 ·
  rw [decide_eq_false h,decide_eq_false (by omega)]
theorem a3S {n m:Nat} (hn:n < m) (hm:n < 9223372036854775808):inB (i6 n) m = true:=iff_inB.2 (by rw [a0V hm]; omega)
theorem i6_inB' {n m:Nat} (hn:n ≤ m) (hm:n < 9223372036854775808):inB' (i6 n) m = true:=by
 simp only [inB',Bool.and_eq_true,decide_eq_true_eq,a0V hm]
 omega
theorem g9G (n:Nat):I.of .i64 (n:Int) = i6 n:=rfl
theorem a9B (n:Nat):I.ofNat .i64 n = i6 n:=rfl
theorem e0I {n m:Nat} (hn:n < 9223372036854775808) (hm:m < 9223372036854775808):I.eqb (i6 n) (i6 m) = decide (n = m):=by
 simp only [I.eqb,a0V hn,a0V hm]
 by_cases h:n = m
 ·
  rw [decide_eq_true h,decide_eq_true (by omega)]
 ·
  rw [decide_eq_false h,decide_eq_false (by omega)]
theorem a3X {X:Type} (d:X):∀ (l:List X) (i:Nat) (h:i < l.length),rdL d l i = l[i]
 | x :: l,0,_=>rfl
 | x :: l,i + 1,h=>a3X d l i (by simpa using h)
theorem c4B {X:Type} (d:X):∀ (l:List X) (i:Nat),l.length ≤ i→rdL d l i = d
 | [],_,_=>rfl
 | _ :: _,0,h=>by simp at h
 | _ :: l,i + 1,h=>c4B d l i (by simpa using h)
theorem a6Q {X:Type}:∀ (l:List X) (i:Nat) (v:X),setAt l i v = l.set i v
 | [],_,_=>rfl
 | _ :: _,0,_=>rfl
 | x :: l,i + 1,v=>by simp [setAt,a6Q l i v]
theorem b5D {X:Type} (d:X) (l:List X) (i k:Nat) (v:X):rdL d (setAt l i v) k = if k = i∧i < l.length then v else rdL d l k:=by
 rw [a6Q]
 by_cases hk:k < l.length
 ·
  rw [a3X d _ k (by simpa using hk),List.getElem_set]
  by_cases h:k = i
  ·
   subst h; simp [hk]
  ·
   rw [if_neg (by omega),if_neg (by omega),a3X d l k hk]
 ·
  rw [c4B _ _ _ (by simp; omega),c4B _ _ _ (by omega),if_neg (by omega)]
theorem c2W {X:Type} (d:X) (l m:List X) (k:Nat):rdL d (l ++ m) k = if k < l.length then rdL d l k else rdL d m (k - l.length):=by
 induction l generalizing k with
 | nil=>simp
 | cons x l ih =>
  cases k with
  | zero=>simp [rdL]
  | succ k =>
   simp only [List.cons_append,rdL,ih,List.length_cons,Nat.add_lt_add_iff_right,Nat.add_sub_add_right]
theorem b7E {X:Type} (d:X) (l:List X) (k:Nat) (h:k < l.length):rdL d l k ∈ l:=by rw [a3X d l k h]; exact List.getElem_mem h
theorem b9H {X:Type} (d:X) {l:List X} {x:X} (h:x ∈ l):∃ k,k < l.length∧rdL d l k = x:=by
 obtain ⟨k,hk,e⟩:=List.getElem_of_mem h
 exact ⟨k,hk,by rw [a3X d l k hk,e]⟩
theorem c4P {X:Type} (s:List X) (n:Nat):a4N s 0 n = s.take n:=by simp [a4N]
theorem c1J {X:Type} (s:List X) (n:Nat):a4N s n (s.length - n) = s.drop n:=by
 simp only [a4N]
 exact List.take_of_length_le (by simp)
theorem b0T {X:Type} (l:List X):a0I l = l.length:=rfl
theorem g0K {X:Type} (l m:List X):a2B l m = l ++ m:=rfl
theorem e9G:∀ (t:Ty),t.eqOk = true→∀ x y:t.D,Ty.eqb t x y = true ↔ x = y:=by
 intro t
 induction t with
 | int k=>intro _ x y; simp only [Ty.eqb,decide_eq_true_eq]; exact ⟨fun h=>I.ext' h,fun h=>by rw [h]⟩
 | bool=>intro _ x y; exact (by decide:∀ a b:Bool,(a == b) = true ↔ a = b) x y
 | nil=>intro _ x y; exact ⟨fun _=>rfl,fun _=>rfl⟩
 | cons a b iha ihb =>
  intro h x y
  simp only [Ty.eqOk,Bool.and_eq_true] at h
  simp only [Ty.eqb,Bool.and_eq_true,iha h.1,ihb h.2]
  obtain ⟨x1,x2⟩:=x
  obtain ⟨y1,y2⟩:=y
  exact ⟨fun h=>by rw [show x1 = y1 from h.1,show x2 = y2 from h.2],fun h=>⟨congrArg Prod.fst h,congrArg Prod.snd h⟩⟩
 | arr n t ih =>
  intro h x y
  have key:∀ (n:Nat) (x y:Arr t.D n),Arr.eqb t.eqb n x y = true ↔ x = y:=by
   intro n
   induction n with
   | zero=>intro x y; exact ⟨fun _=>rfl,fun _=>rfl⟩
   | succ n ihn =>
    intro x y
    simp only [Arr.eqb,Bool.and_eq_true,ih h,ihn]
    obtain ⟨x1,x2⟩:=x
    obtain ⟨y1,y2⟩:=y
    exact ⟨fun h=>by rw [show x1 = y1 from h.1,show x2 = y2 from h.2],fun h=>⟨congrArg Prod.fst h,congrArg Prod.snd h⟩⟩
  exact key n x y
 | str=>intro h; cases h
 | sl t _=>intro h; cases h
 | opq=>intro h; cases h
 | fnc=>intro h; cases h
theorem eqb_self' {t:Ty} (h:t.eqOk = true) (x:t.D):Ty.eqb t x x = true:=(e9G t h x x).2 rfl
theorem b0J {n:Nat} (h:n ≤ 1073741824):a1G n = true:=iff_fits.2 h
end Sym

/- Natural numbers by digits of 65536: what the reference's first functions compute. -/
namespace Sym
open Go
abbrev Dg:Type:=I .i64
def bv:List Dg→Nat
 | []=>0
 | d :: l=>d.nat + 65536 * bv l
def DigOk (d:Dg):Prop:=0 ≤ d.val∧d.val < 65536
def c0J (l:List Dg):Prop:=∀ d ∈ l,DigOk d
def f9C:List Dg→Prop
 | []=>True
 | [d]=>d.val ≠ 0
 | _ :: e :: l=>f9C (e :: l)
structure IsB (l:List Dg) (n:Nat):Prop where
 dig:c0J l
 lead:f9C l
 val:bv l = n
theorem DigOk.nat {d:Dg} (h:DigOk d):(d.nat:Int) = d.val∧d.nat < 65536:=by
 unfold DigOk at h
 unfold I.nat
 omega
theorem digs_cons {d:Dg} {l:List Dg}:c0J (d :: l) ↔ DigOk d∧c0J l:=by
 unfold c0J
 simp
theorem digs_app {l r:List Dg}:c0J (l ++ r) ↔ c0J l∧c0J r:=by
 unfold c0J
 simp only [List.mem_append]
 exact ⟨fun h=>⟨fun d hd=>h d (.inl hd),fun d hd=>h d (.inr hd)⟩,fun h d hd=>hd.elim (h.1 d) (h.2 d)⟩
theorem c1N {l:List Dg} (h:c0J l) (n:Nat):c0J (l.take n):=fun d hd=>h d (List.mem_of_mem_take hd)
theorem e1W:∀ {l:List Dg},c0J l→bv l < 65536 ^ l.length
 | [],_=>by simp [bv]
 | d :: l,h=>by
  have h:=digs_cons.1 h
  have h1:=h.1.nat.2
  have h2:=e1W h.2
  simp only [bv,List.length_cons,Nat.pow_succ]
  omega
theorem d2U:IsB [] 0:=⟨fun _ h=>by simp at h,trivial,rfl⟩
theorem c3I:∀ (l r:List Dg),bv (l ++ r) = bv l + 65536 ^ l.length * bv r
 | [],r=>by simp [bv]
 | d :: l,r=>by
  simp only [List.cons_append,bv,List.length_cons,c3I l r,Nat.pow_succ,Nat.mul_add]
  rw [Nat.mul_comm (65536 ^ l.length) 65536,Nat.mul_assoc]
  omega
theorem c4S:∀ (l:List Dg) (d:Dg),d.val ≠ 0→f9C (l ++ [d])
 | [],d,h=>h
 | [e],d,h=>h
 | e :: f :: l,d,h=>c4S (f :: l) d h
theorem g4M:∀ {l:List Dg},c0J l→f9C l→l ≠ []→65536 ^ (l.length - 1) ≤ bv l
 | [],_,_,h=>absurd rfl h
 | [d],hd,hl,_=>by
  have h:=(digs_cons.1 hd).1.nat.1
  have:d.val ≠ 0:=hl
  simp only [bv,List.length_singleton,Nat.sub_self,Nat.pow_zero]
  omega
 | d :: e :: l,hd,hl,_=>by
  have:=g4M (l:=e :: l) (digs_cons.1 hd).2 hl (by simp)
  simp only [List.length_cons,Nat.add_sub_cancel] at this ⊢
  simp only [bv,Nat.pow_succ] at *
  omega
theorem IsB.len {l:List Dg} {n k:Nat} (h:IsB l n):l.length ≤ k ↔ n < 65536 ^ k:=by
 have h1:=e1W h.dig
 rw [h.val] at h1
 constructor
 ·
  intro hk
  exact Nat.lt_of_lt_of_le h1 (Nat.pow_le_pow_right (by decide) hk)
 ·
  intro hn
  rcases Nat.lt_or_ge k l.length with hk | hk
  ·
   have h2:=g4M h.dig h.lead (by intro e; subst e; simp at hk)
   rw [h.val] at h2
   have h3:65536 ^ k ≤ 65536 ^ (l.length - 1):=Nat.pow_le_pow_right (by decide) (by omega)
   omega
  ·
   exact hk
theorem b8C (n:Nat) (h:n < 2 ^ 64):n < K0:=by rw [a7S]; exact h
theorem d6W (l:List Dg) (hd:c0J l) (hl:l.length ≤ 1073741824):∃ r,a6B K0 ((l,()),()) = some ((r,()),())∧IsB r (bv l):=by
 have key:Wp (fun o=>∃ r,o = some ((r,()),())∧IsB r (bv l)) (a6B K0 ((l,()),())):=by
  have hlen:(I.ofNat .i64 (a0I l)).val = l.length:=a3H (by show l.length < _; omega)
  have c1:(I.of .i64 1).val = 1:=rfl
  have c0:(I.of .i64 0).val = 0:=rfl
  unfold a6B
  refine Wp.iter (fun x=>x.1.1 = l∧0 ≤ x.1.2.1.val∧x.1.2.1.val ≤ (l.length:Int)∧bv (l.take x.1.2.1.val.toNat) = bv l) (fun x=>x.1.2.1.val.toNat) ?_ ?_ ?_
  ·
   rintro ⟨⟨l',i,⟨⟩⟩,⟨⟩⟩ ⟨e1,hi0,hi1,hb⟩
   simp only at e1 hi0 hi1 hb
   subst e1
   have cut:inB' i (a0I l') = true:=by
    show (decide (0 ≤ i.val) && decide (i.val ≤ ((l'.length:Nat):Int))) = true
    simp [hi0,hi1]
   have sub:a4N l' 0 (I.nat i) = l'.take i.val.toNat:=by simp [a4N,I.nat]
   refine Wp.brn (fun h=>?_) (fun h=>?_)
   ·
    have h:=iff_ltb.1 h
    simp only [c0] at h
    have hs:(I.sub i (I.of .i64 1)).val = i.val - 1:=by rw [a8B (by omega)]; omega
    have hidx:(I.nat (I.sub i (I.of .i64 1))) = i.val.toNat - 1:=by unfold I.nat; omega
    have hlt:i.val.toNat - 1 < l'.length:=by omega
    have hrd:rdL (I.of .i64 0) l' (I.nat (I.sub i (I.of .i64 1))) = l'[i.val.toNat - 1]:=by rw [hidx]; exact a3X _ _ _ hlt
    have htk:l'.take i.val.toNat = l'.take (i.val.toNat - 1) ++ [l'[i.val.toNat - 1]]:=by
     rw [List.take_append_getElem hlt]
     congr 1
     omega
    refine Wp.brnT (iff_inB.2 ⟨by show 0 ≤ (I.sub i (I.of .i64 1)).val; omega,by show (I.sub i (I.of .i64 1)).val < (l'.length:Int); omega⟩) ?_
    refine Wp.brn (fun h2=>?_) (fun h2=>?_)
    ·
     have h2:=iff_eqb.1 h2
     simp only [hrd] at h2
     refine Wp.again ⟨rfl,?_,?_,?_⟩ ?_
     ·
      show 0 ≤ (I.sub i (I.of .i64 1)).val; omega
     ·
      show (I.sub i (I.of .i64 1)).val ≤ _; omega
     ·
      show bv (l'.take (I.sub i (I.of .i64 1)).val.toNat) = _
      have e:(I.sub i (I.of .i64 1)).val.toNat = i.val.toNat - 1:=by omega
      rw [e,← hb,htk,c3I]
      have hz:(l'[i.val.toNat - 1]).nat = 0:=by unfold I.nat; rw [h2]; rfl
      simp [bv,hz]
     ·
      show (I.sub i (I.of .i64 1)).val.toNat < _
      simp only; omega
    ·
     have h2:=niff_eqb.1 h2
     simp only [hrd] at h2
     refine Wp.done (Wp.brnT cut ⟨_,rfl,?_⟩)
     show IsB (a4N l' 0 (I.nat i)) _
     rw [sub]
     refine ⟨c1N hd _,?_,hb⟩
     rw [htk]
     exact c4S _ _ h2
   ·
    have h:=niff_ltb.1 h
    simp only [c0] at h
    refine Wp.done (Wp.brnT cut ⟨_,rfl,?_⟩)
    show IsB (a4N l' 0 (I.nat i)) _
    rw [sub]
    have e:i.val.toNat = 0:=by omega
    rw [e] at hb ⊢
    simp only [List.take_zero] at hb ⊢
    rw [← hb]
    exact d2U
  ·
   refine ⟨rfl,?_,?_,?_⟩
   ·
    show 0 ≤ (I.ofNat .i64 (a0I l)).val; omega
   ·
    show (I.ofNat .i64 (a0I l)).val ≤ _; omega
   ·
    show bv (l.take (I.ofNat .i64 (a0I l)).val.toNat) = _
    rw [hlen,Int.toNat_natCast,List.take_length]
  ·
   refine b8C _ ?_
   show (I.ofNat .i64 (a0I l)).val.toNat < _
   omega
 exact key.out
end Sym
