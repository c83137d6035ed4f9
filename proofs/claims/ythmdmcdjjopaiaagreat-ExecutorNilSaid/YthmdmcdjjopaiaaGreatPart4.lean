/- The given functions as plain functions, as the printer told them. -/
import Derived.Shelf.Spec.SlicesInsertGrow
import Derived.Shelf.SlBodiesN
import Derived.Shelf.SlGeneric
import Derived.Shelf.RegionOpenPlain
import Derived.WalkKit
import Derived.Deep.LoopGhost
import Derived.Deep.RegionLaw
import Derived.Lib.Walk
import Derived.Sort.WalkB12
import Derived.Lib.SliceRun
import Derived.Test.YthmdmcdjjopaiaaGreatPart3
namespace Sym
open Go
noncomputable def lz_matchLen (K:Nat) (x:(⟨[.pl (.sl (.int .u8)),.pl (.int .i64),.pl (.int .i64),.pl (.int .i64)],[]⟩:Tm).D):Option (⟨[.pl (.int .i64)],[]⟩:Tm).D :=
 let a:List (I .u8):=x.1.1
 let b:I .i64:=x.1.2.1
 let c:I .i64:=x.1.2.2.1
 let d:I .i64:=x.1.2.2.2.1
 iter (none) (fun x0 =>
   brn (@I.ltb .i64 x0.1.2.2.2.2.1 x0.1.2.2.2.1)
    (brn (@inB .i64 (@I.add .i64 x0.1.2.1 x0.1.2.2.2.2.1) (@lenL (I .u8) x0.1.1))
     (brn (@inB .i64 (@I.sub .i64 (@I.add .i64 x0.1.2.1 x0.1.2.2.2.2.1) x0.1.2.2.1) (@lenL (I .u8) x0.1.1))
      (brn (@I.eqb .u8 (@rdL (I .u8) (I.of .u8 0) x0.1.1 (@I.nat .i64 (@I.add .i64 x0.1.2.1 x0.1.2.2.2.2.1))) (@rdL (I .u8) (I.of .u8 0) x0.1.1 (@I.nat .i64 (@I.sub .i64 (@I.add .i64 x0.1.2.1 x0.1.2.2.2.2.1) x0.1.2.2.1))))
       (.again ((x0.1.1,(x0.1.2.1,(x0.1.2.2.1,(x0.1.2.2.2.1,((@I.add .i64 x0.1.2.2.2.2.1 (I.of .i64 1)),()))))),()))
       (.done (some ((x0.1.2.2.2.2.1,()),()))))
      (.done (none)))
     (.done (none)))
    (.done (some ((x0.1.2.2.2.2.1,()),()))))
 K ((a,(b,(c,(d,((I.of .i64 0),()))))),())
noncomputable def lz_longestMatch (K:Nat) (x:(⟨[.pl (.sl (.int .u8)),.pl (.int .i64)],[]⟩:Tm).D):Option (⟨[.pl (.int .i64),.pl (.int .i64)],[]⟩:Tm).D :=
 let a:List (I .u8):=x.1.1
 let b:I .i64:=x.1.2.1
 iter (none) (fun x0 =>
   jn (fun (x1:(((List (I .u8)) × ((I .i64) × ((I .i64) × ((I .i64) × ((I .i64) × ((I .i64) × ((I .i64) × ((I .i64) × (Bool × Unit))))))))) × Unit)) =>
     optF (.done (none)) (lz_matchLen K ((x1.1.1,(x1.1.2.1,(x1.1.2.2.2.2.2.1,(x1.1.2.2.2.2.1,())))),())) fun y2 =>
     brn (@I.ltb .i64 x1.1.2.2.1 y2.1.1)
      (.again ((x1.1.1,(x1.1.2.1,(y2.1.1,(x1.1.2.2.2.2.2.1,(x1.1.2.2.2.2.1,((@I.add .i64 x1.1.2.2.2.2.2.1 (I.of .i64 1)),())))))),()))
      (.again ((x1.1.1,(x1.1.2.1,(x1.1.2.2.1,(x1.1.2.2.2.1,(x1.1.2.2.2.2.1,((@I.add .i64 x1.1.2.2.2.2.2.1 (I.of .i64 1)),())))))),()))) fun j1 =>
   brn (@I.leb .i64 x0.1.2.2.2.2.2.1 (@I.mn .i64 (I.of .i64 1024) x0.1.2.1))
    (brn (@I.ltb .i64 x0.1.2.2.1 x0.1.2.2.2.2.1)
     (j1 ((x0.1.1,(x0.1.2.1,(x0.1.2.2.1,(x0.1.2.2.2.1,(x0.1.2.2.2.2.1,(x0.1.2.2.2.2.2.1,(x0.1.2.2.1,(x0.1.2.2.2.2.1,((@I.ltb .i64 x0.1.2.2.1 x0.1.2.2.2.2.1),()))))))))),()))
     (.done (some ((x0.1.2.2.1,(x0.1.2.2.2.1,())),()))))
    (.done (some ((x0.1.2.2.1,(x0.1.2.2.2.1,())),()))))
 K ((a,(b,((I.of .i64 0),((I.of .i64 0),((@I.mn .i64 (I.of .i64 131) (@I.sub .i64 (I.ofNat .i64 (@lenL (I .u8) a)) b)),((I.of .i64 1),())))))),())
noncomputable def lz_Compress (K:Nat) (x:(⟨[.pl (.sl (.int .u8))],[]⟩:Tm).D):Option (⟨[.pl (.sl (.int .u8))],[]⟩:Tm).D :=
 let a:List (I .u8):=x.1.1
 iter (none) (fun x0 =>
   brn (@I.ltb .i64 x0.1.2.2.1 (I.ofNat .i64 (@lenL (I .u8) x0.1.1)))
    (optF (.done (none)) (lz_longestMatch K ((x0.1.1,(x0.1.2.2.1,())),())) fun y1 =>
    brn (@I.ltb .i64 y1.1.1 (I.of .i64 4))
     (.again ((x0.1.1,(x0.1.2.1,((@I.add .i64 x0.1.2.2.1 (I.of .i64 1)),()))),(x0.2.1,())))
     (brn (@inB' .i64 x0.1.2.1 (@I.nat .i64 x0.1.2.2.1))
      (brn (@inB' .i64 x0.1.2.2.1 (@lenL (I .u8) x0.1.1))
       (iter (.done (none)) (fun x2 =>
         brn (@I.ltb .i64 (I.of .i64 0) (I.ofNat .i64 (@lenL (I .u8) x2.1.1)))
          (brn (fitsLen (@lenL (I .u8) (@appL (I .u8) x2.2.1 ((I.conv (k:=.i64) .u8 (@I.mn .i64 (I.ofNat .i64 (@lenL (I .u8) x2.1.1)) (I.of .i64 127))) :: []))))
           (brn (@inB' .i64 (@I.mn .i64 (I.ofNat .i64 (@lenL (I .u8) x2.1.1)) (I.of .i64 127)) (@lenL (I .u8) x2.1.1))
            (brn (fitsLen (@lenL (I .u8) (@appL (I .u8) (@appL (I .u8) x2.2.1 ((I.conv (k:=.i64) .u8 (@I.mn .i64 (I.ofNat .i64 (@lenL (I .u8) x2.1.1)) (I.of .i64 127))) :: [])) (@subL (I .u8) x2.1.1 0 (@I.nat .i64 (@I.mn .i64 (I.ofNat .i64 (@lenL (I .u8) x2.1.1)) (I.of .i64 127)))))))
             (brn (@inB' .i64 (@I.mn .i64 (I.ofNat .i64 (@lenL (I .u8) x2.1.1)) (I.of .i64 127)) (@lenL (I .u8) x2.1.1))
              (.again (((@subL (I .u8) x2.1.1 (@I.nat .i64 (@I.mn .i64 (I.ofNat .i64 (@lenL (I .u8) x2.1.1)) (I.of .i64 127))) ((@lenL (I .u8) x2.1.1) - (@I.nat .i64 (@I.mn .i64 (I.ofNat .i64 (@lenL (I .u8) x2.1.1)) (I.of .i64 127))))),(x2.1.2.1,(x2.1.2.2.1,(x2.1.2.2.2.1,(x2.1.2.2.2.2.1,()))))),((@appL (I .u8) (@appL (I .u8) x2.2.1 ((I.conv (k:=.i64) .u8 (@I.mn .i64 (I.ofNat .i64 (@lenL (I .u8) x2.1.1)) (I.of .i64 127))) :: [])) (@subL (I .u8) x2.1.1 0 (@I.nat .i64 (@I.mn .i64 (I.ofNat .i64 (@lenL (I .u8) x2.1.1)) (I.of .i64 127))))),())))
              (.done (.done (none))))
             (.done (.done (none))))
            (.done (.done (none))))
           (.done (.done (none))))
          (.done (brn (fitsLen (@lenL (I .u8) (@appL (I .u8) x2.2.1 ((I.conv (k:=.i64) .u8 (@I.add .i64 x2.1.2.2.2.1 (I.of .i64 124))) :: ((I.conv (k:=.i64) .u8 (@I.shr .i64 .u64 (@I.sub .i64 x2.1.2.2.2.2.1 (I.of .i64 1)) (I.of .u64 8))) :: ((I.conv (k:=.i64) .u8 (@I.sub .i64 x2.1.2.2.2.2.1 (I.of .i64 1))) :: []))))))
           (.again ((x2.1.2.1,((@I.add .i64 x2.1.2.2.1 x2.1.2.2.2.1),((@I.add .i64 x2.1.2.2.1 x2.1.2.2.2.1),()))),((@appL (I .u8) x2.2.1 ((I.conv (k:=.i64) .u8 (@I.add .i64 x2.1.2.2.2.1 (I.of .i64 124))) :: ((I.conv (k:=.i64) .u8 (@I.shr .i64 .u64 (@I.sub .i64 x2.1.2.2.2.2.1 (I.of .i64 1)) (I.of .u64 8))) :: ((I.conv (k:=.i64) .u8 (@I.sub .i64 x2.1.2.2.2.2.1 (I.of .i64 1))) :: [])))),())))
           (.done (none)))))
       K (((@subL (I .u8) x0.1.1 (@I.nat .i64 x0.1.2.1) ((@I.nat .i64 x0.1.2.2.1) - (@I.nat .i64 x0.1.2.1))),(x0.1.1,(x0.1.2.2.1,(y1.1.1,(y1.1.2.1,()))))),(x0.2.1,())))
       (.done (none)))
      (.done (none))))
    (.done (brn (@inB' .i64 x0.1.2.1 (@lenL (I .u8) x0.1.1))
     (iter (none) (fun x1 =>
       brn (@I.ltb .i64 (I.of .i64 0) (I.ofNat .i64 (@lenL (I .u8) x1.1.1)))
        (brn (fitsLen (@lenL (I .u8) (@appL (I .u8) x1.2.1 ((I.conv (k:=.i64) .u8 (@I.mn .i64 (I.ofNat .i64 (@lenL (I .u8) x1.1.1)) (I.of .i64 127))) :: []))))
         (brn (@inB' .i64 (@I.mn .i64 (I.ofNat .i64 (@lenL (I .u8) x1.1.1)) (I.of .i64 127)) (@lenL (I .u8) x1.1.1))
          (brn (fitsLen (@lenL (I .u8) (@appL (I .u8) (@appL (I .u8) x1.2.1 ((I.conv (k:=.i64) .u8 (@I.mn .i64 (I.ofNat .i64 (@lenL (I .u8) x1.1.1)) (I.of .i64 127))) :: [])) (@subL (I .u8) x1.1.1 0 (@I.nat .i64 (@I.mn .i64 (I.ofNat .i64 (@lenL (I .u8) x1.1.1)) (I.of .i64 127)))))))
           (brn (@inB' .i64 (@I.mn .i64 (I.ofNat .i64 (@lenL (I .u8) x1.1.1)) (I.of .i64 127)) (@lenL (I .u8) x1.1.1))
            (.again (((@subL (I .u8) x1.1.1 (@I.nat .i64 (@I.mn .i64 (I.ofNat .i64 (@lenL (I .u8) x1.1.1)) (I.of .i64 127))) ((@lenL (I .u8) x1.1.1) - (@I.nat .i64 (@I.mn .i64 (I.ofNat .i64 (@lenL (I .u8) x1.1.1)) (I.of .i64 127))))),()),((@appL (I .u8) (@appL (I .u8) x1.2.1 ((I.conv (k:=.i64) .u8 (@I.mn .i64 (I.ofNat .i64 (@lenL (I .u8) x1.1.1)) (I.of .i64 127))) :: [])) (@subL (I .u8) x1.1.1 0 (@I.nat .i64 (@I.mn .i64 (I.ofNat .i64 (@lenL (I .u8) x1.1.1)) (I.of .i64 127))))),())))
            (.done (none)))
           (.done (none)))
          (.done (none)))
         (.done (none)))
        (.done (some ((x1.2.1,()),()))))
     K (((@subL (I .u8) x0.1.1 (@I.nat .i64 x0.1.2.1) ((@lenL (I .u8) x0.1.1) - (@I.nat .i64 x0.1.2.1))),()),(x0.2.1,())))
     (none))))
 K ((a,((I.of .i64 0),((I.of .i64 0),()))),([],()))
noncomputable def sizeest_Units (K:Nat) (x:(⟨[.pl (.sl (.int .u8)),.pl (.int .u64),.pl (.int .u64)],[]⟩:Tm).D):Option (⟨[.pl (.int .u64),.pl (.int .i64)],[]⟩:Tm).D :=
 let a:List (I .u8):=x.1.1
 let b:I .u64:=x.1.2.1
 let c:I .u64:=x.1.2.2.1
 brn (@I.ltb .u64 c b)
  (some (((I.of .u64 0),((I.of .i64 2),())),()))
  (brn (@I.ltb .i64 (I.of .i64 4096) (I.ofNat .i64 (@lenL (I .u8) a)))
   (some (((I.of .u64 0),((I.of .i64 6),())),()))
   (optF (none) (lz_Compress K ((a,()),())) fun y0 =>
   some (((@I.mn .u64 (@I.mx .u64 (@I.mul .u64 (I.of .u64 16) (I.conv (k:=.i64) .u64 (I.ofNat .i64 (@lenL (I .u8) y0.1.1)))) b) c),((I.of .i64 0),())),())))
noncomputable def sizeest_Cost (K:Nat) (x:(⟨[.pl (.int .u64),.pl (.arr 4 (.int .u64))],[]⟩:Tm).D):Option (⟨[.pl (.arr 4 (.int .u64)),.pl (.int .i64)],[]⟩:Tm).D :=
 let a:I .u64:=x.1.1
 let b:(I .u64) × (I .u64) × (I .u64) × (I .u64) × Unit:=x.1.2.1
 optF (none) (uint256_FromUint64 K ((a,()),())) fun y0 =>
 optF (none) (uint256_Mul K ((y0.1.1,(b,())),())) fun y1 =>
 some ((y1.1.1,(y1.1.2.1,())),())
noncomputable def uint256_Uint64 (K:Nat) (x:(⟨[.pl (.arr 4 (.int .u64))],[]⟩:Tm).D):Option (⟨[.pl (.int .u64),.pl .bool],[]⟩:Tm).D :=
 let a:(I .u64) × (I .u64) × (I .u64) × (I .u64) × Unit:=x.1.1
 brn (@I.neb .u64 (@I.or .u64 (@I.or .u64 a.2.1 a.2.2.1) a.2.2.2.1) (I.of .u64 0))
  (some (((I.of .u64 0),(false,())),()))
  (some ((a.1,(true,())),()))
noncomputable def txfee_meter (K:Nat) (x:(⟨[.pl (.cons (.int .u64) (.cons (.int .u64) (.cons (.int .u64) (.cons (.arr 4 (.int .u64)) (.cons (.int .u64) (.cons (.arr 4 (.int .u64)) (.cons (.arr 4 (.int .u64)) (.cons (.int .u64) (.cons (.sl (.int .u8)) .nil))))))))),.pl (.arr 4 (.int .u64)),.pl (.arr 4 (.int .u64)),.pl (.cons (.int .u64) (.cons (.int .u64) (.cons (.int .u64) (.cons (.arr 4 (.int .u64)) (.cons (.int .u64) (.cons (.arr 4 (.int .u64)) (.cons (.int .u64) (.cons (.arr 4 (.int .u64)) (.cons (.int .u64) (.cons (.int .u64) (.cons (.int .u64) (.cons (.int .u64) .nil))))))))))))],[]⟩:Tm).D):Option (⟨[.pl (.cons (.int .u64) (.cons (.int .u64) (.cons (.int .u64) (.cons (.int .u64) (.cons .bool (.cons (.arr 4 (.int .u64)) (.cons (.arr 4 (.int .u64)) (.cons (.arr 4 (.int .u64)) (.cons (.arr 4 (.int .u64)) (.cons (.arr 4 (.int .u64)) .nil)))))))))),.pl (.int .i64)],[]⟩:Tm).D :=
 let a:(I .u64) × (I .u64) × (I .u64) × ((I .u64) × (I .u64) × (I .u64) × (I .u64) × Unit) × (I .u64) × ((I .u64) × (I .u64) × (I .u64) × (I .u64) × Unit) × ((I .u64) × (I .u64) × (I .u64) × (I .u64) × Unit) × (I .u64) × (List (I .u8)) × Unit:=x.1.1
 let b:(I .u64) × (I .u64) × (I .u64) × (I .u64) × Unit:=x.1.2.1
 let c:(I .u64) × (I .u64) × (I .u64) × (I .u64) × Unit:=x.1.2.2.1
 let d:(I .u64) × (I .u64) × (I .u64) × ((I .u64) × (I .u64) × (I .u64) × (I .u64) × Unit) × (I .u64) × ((I .u64) × (I .u64) × (I .u64) × (I .u64) × Unit) × (I .u64) × ((I .u64) × (I .u64) × (I .u64) × (I .u64) × Unit) × (I .u64) × (I .u64) × (I .u64) × (I .u64) × Unit:=x.1.2.2.2.1
 optF (none) (sizeest_Units K ((a.2.2.2.2.2.2.2.2.1,(d.2.2.2.2.2.2.2.2.2.2.1,(d.2.2.2.2.2.2.2.2.2.2.2.1,()))),())) fun y0 =>
 brn (@I.neb .i64 y0.1.2.1 (I.of .i64 0))
  (some ((((I.of .u64 0),((I.of .u64 0),((I.of .u64 0),((I.of .u64 0),(false,(((I.of .u64 0),((I.of .u64 0),((I.of .u64 0),((I.of .u64 0),())))),(((I.of .u64 0),((I.of .u64 0),((I.of .u64 0),((I.of .u64 0),())))),(((I.of .u64 0),((I.of .u64 0),((I.of .u64 0),((I.of .u64 0),())))),(((I.of .u64 0),((I.of .u64 0),((I.of .u64 0),((I.of .u64 0),())))),(((I.of .u64 0),((I.of .u64 0),((I.of .u64 0),((I.of .u64 0),())))),())))))))))),(y0.1.2.1,())),()))
  (optF (none) (sizeest_Cost K ((y0.1.1,(c,())),())) fun y1 =>
  brn (@I.neb .i64 y1.1.2.1 (I.of .i64 0))
   (some ((((I.of .u64 0),((I.of .u64 0),((I.of .u64 0),((I.of .u64 0),(false,(((I.of .u64 0),((I.of .u64 0),((I.of .u64 0),((I.of .u64 0),())))),(((I.of .u64 0),((I.of .u64 0),((I.of .u64 0),((I.of .u64 0),())))),(((I.of .u64 0),((I.of .u64 0),((I.of .u64 0),((I.of .u64 0),())))),(((I.of .u64 0),((I.of .u64 0),((I.of .u64 0),((I.of .u64 0),())))),(((I.of .u64 0),((I.of .u64 0),((I.of .u64 0),((I.of .u64 0),())))),())))))))))),(y1.1.2.1,())),()))
   (optF (none) (muldiv_DivMod K ((y1.1.1,(b,())),())) fun y2 =>
   brn (@I.neb .i64 y2.1.2.2.1 (I.of .i64 0))
    (some ((((I.of .u64 0),((I.of .u64 0),((I.of .u64 0),((I.of .u64 0),(false,(((I.of .u64 0),((I.of .u64 0),((I.of .u64 0),((I.of .u64 0),())))),(((I.of .u64 0),((I.of .u64 0),((I.of .u64 0),((I.of .u64 0),())))),(((I.of .u64 0),((I.of .u64 0),((I.of .u64 0),((I.of .u64 0),())))),(((I.of .u64 0),((I.of .u64 0),((I.of .u64 0),((I.of .u64 0),())))),(((I.of .u64 0),((I.of .u64 0),((I.of .u64 0),((I.of .u64 0),())))),())))))))))),(y2.1.2.2.1,())),()))
    (optF (none) (uint256_Uint64 K ((y2.1.1,()),())) fun y3 =>
    jn (fun (x4:(((I .u64) × ((I .u64) × Unit)) × (((I .u64) × ((I .u64) × ((I .u64) × (((I .u64) × ((I .u64) × ((I .u64) × ((I .u64) × Unit)))) × ((I .u64) × (((I .u64) × ((I .u64) × ((I .u64) × ((I .u64) × Unit)))) × (((I .u64) × ((I .u64) × ((I .u64) × ((I .u64) × Unit)))) × ((I .u64) × ((List (I .u8)) × Unit))))))))) × (((I .u64) × ((I .u64) × ((I .u64) × ((I .u64) × (Bool × (((I .u64) × ((I .u64) × ((I .u64) × ((I .u64) × Unit)))) × (((I .u64) × ((I .u64) × ((I .u64) × ((I .u64) × Unit)))) × (((I .u64) × ((I .u64) × ((I .u64) × ((I .u64) × Unit)))) × (((I .u64) × ((I .u64) × ((I .u64) × ((I .u64) × Unit)))) × (((I .u64) × ((I .u64) × ((I .u64) × ((I .u64) × Unit)))) × Unit)))))))))) × Unit)))) =>
      some (((x4.1.1,(x4.1.2.1,((@I.mn .u64 x4.2.1.2.2.2.2.2.2.2.1 (@I.sub .u64 x4.2.1.2.2.2.2.1 x4.1.2.1)),((@I.add .u64 x4.1.2.1 (@I.mn .u64 x4.2.1.2.2.2.2.2.2.2.1 (@I.sub .u64 x4.2.1.2.2.2.2.1 x4.1.2.1))),((@I.ltb .u64 (@I.mn .u64 x4.2.1.2.2.2.2.2.2.2.1 (@I.sub .u64 x4.2.1.2.2.2.2.1 x4.1.2.1)) x4.2.1.2.2.2.2.2.2.2.1),(((I.of .u64 0),((I.of .u64 0),((I.of .u64 0),((I.of .u64 0),())))),(((I.of .u64 0),((I.of .u64 0),((I.of .u64 0),((I.of .u64 0),())))),(((I.of .u64 0),((I.of .u64 0),((I.of .u64 0),((I.of .u64 0),())))),(((I.of .u64 0),((I.of .u64 0),((I.of .u64 0),((I.of .u64 0),())))),(((I.of .u64 0),((I.of .u64 0),((I.of .u64 0),((I.of .u64 0),())))),())))))))))),((I.of .i64 0),())),())) fun j4 =>
    brn (bnot y3.1.2.1)
     (some ((((I.of .u64 0),((I.of .u64 0),((I.of .u64 0),((I.of .u64 0),(false,(((I.of .u64 0),((I.of .u64 0),((I.of .u64 0),((I.of .u64 0),())))),(((I.of .u64 0),((I.of .u64 0),((I.of .u64 0),((I.of .u64 0),())))),(((I.of .u64 0),((I.of .u64 0),((I.of .u64 0),((I.of .u64 0),())))),(((I.of .u64 0),((I.of .u64 0),((I.of .u64 0),((I.of .u64 0),())))),(((I.of .u64 0),((I.of .u64 0),((I.of .u64 0),((I.of .u64 0),())))),())))))))))),((I.of .i64 13),())),()))
     (brn (@I.ltb .u64 a.2.2.2.2.1 y3.1.1)
      (some ((((I.of .u64 0),((I.of .u64 0),((I.of .u64 0),((I.of .u64 0),(false,(((I.of .u64 0),((I.of .u64 0),((I.of .u64 0),((I.of .u64 0),())))),(((I.of .u64 0),((I.of .u64 0),((I.of .u64 0),((I.of .u64 0),())))),(((I.of .u64 0),((I.of .u64 0),((I.of .u64 0),((I.of .u64 0),())))),(((I.of .u64 0),((I.of .u64 0),((I.of .u64 0),((I.of .u64 0),())))),(((I.of .u64 0),((I.of .u64 0),((I.of .u64 0),((I.of .u64 0),())))),())))))))))),((I.of .i64 13),())),()))
      (j4 ((y0.1.1,(y3.1.1,())),(a,(((I.of .u64 0),((I.of .u64 0),((I.of .u64 0),((I.of .u64 0),(false,(((I.of .u64 0),((I.of .u64 0),((I.of .u64 0),((I.of .u64 0),())))),(((I.of .u64 0),((I.of .u64 0),((I.of .u64 0),((I.of .u64 0),())))),(((I.of .u64 0),((I.of .u64 0),((I.of .u64 0),((I.of .u64 0),())))),(((I.of .u64 0),((I.of .u64 0),((I.of .u64 0),((I.of .u64 0),())))),(((I.of .u64 0),((I.of .u64 0),((I.of .u64 0),((I.of .u64 0),())))),())))))))))),()))))))))
noncomputable def muldiv_Mul (K:Nat) (x:(⟨[.pl (.arr 4 (.int .u64)),.pl (.arr 4 (.int .u64))],[]⟩:Tm).D):Option (⟨[.pl (.arr 4 (.int .u64)),.pl (.arr 4 (.int .u64))],[]⟩:Tm).D :=
 let a:(I .u64) × (I .u64) × (I .u64) × (I .u64) × Unit:=x.1.1
 let b:(I .u64) × (I .u64) × (I .u64) × (I .u64) × Unit:=x.1.2.1
 iter (none) (fun x0 =>
   brn (@I.ltb .i64 x0.1.1 (I.of .i64 4))
    (iter (.done (none)) (fun x1 =>
      brn (@I.ltb .i64 x1.1.2.2.2.1 (I.of .i64 4))
       (brn (@inB .i64 x1.1.1 4)
        (brn (@inB .i64 x1.1.2.2.2.1 4)
         (optF (.done (.done (none))) (math_bits_Mul64 K (((@Arr.sel (I .u64) (I.of .u64 0) 4 x1.2.1 (@I.nat .i64 x1.1.1)),((@Arr.sel (I .u64) (I.of .u64 0) 4 x1.2.2.1 (@I.nat .i64 x1.1.2.2.2.1)),())),())) fun y2 =>
         optF (.done (.done (none))) (add64F ((y2.1.2.1,(x1.1.2.1,((I.of .u64 0),()))),())) fun y3 =>
         brn (@inB .i64 (@I.add .i64 x1.1.1 x1.1.2.2.2.1) 8)
          (optF (.done (.done (none))) (add64F (((@Arr.sel (I .u64) (I.of .u64 0) 8 x1.2.2.2.2.2.1 (@I.nat .i64 (@I.add .i64 x1.1.1 x1.1.2.2.2.1))),(y3.1.1,((I.of .u64 0),()))),())) fun y4 =>
          brn (@inB .i64 (@I.add .i64 x1.1.1 x1.1.2.2.2.1) 8)
           (.again ((x1.1.1,((@I.add .u64 (@I.add .u64 y2.1.1 y3.1.2.1) y4.1.2.1),(x1.1.2.2.1,((@I.add .i64 x1.1.2.2.2.1 (I.of .i64 1)),())))),(x1.2.1,(x1.2.2.1,(x1.2.2.2.1,(x1.2.2.2.2.1,((@Arr.upd (I .u64) 8 x1.2.2.2.2.2.1 (@I.nat .i64 (@I.add .i64 x1.1.1 x1.1.2.2.2.1)) y4.1.1),())))))))
           (.done (.done (none))))
          (.done (.done (none))))
         (.done (.done (none))))
        (.done (.done (none))))
       (.done (brn (@inB .i64 (@I.add .i64 x1.1.1 (I.of .i64 4)) 8)
        (.again (((@I.add .i64 x1.1.2.2.1 (I.of .i64 1)),()),(x1.2.1,(x1.2.2.1,(x1.2.2.2.1,(x1.2.2.2.2.1,((@Arr.upd (I .u64) 8 x1.2.2.2.2.2.1 (@I.nat .i64 (@I.add .i64 x1.1.1 (I.of .i64 4))) x1.1.2.1),())))))))
        (.done (none)))))
    K ((x0.1.1,((I.of .u64 0),(x0.1.1,((I.of .i64 0),())))),(x0.2.1,(x0.2.2.1,(x0.2.2.2.1,(x0.2.2.2.2.1,(x0.2.2.2.2.2.1,())))))))
    (.done (some (((@Arr.ofList (I .u64) (I.of .u64 0) 4 (@subL (I .u64) (@Arr.list (I .u64) 8 x0.2.2.2.2.2.1) 0 4)),((@Arr.ofList (I .u64) (I.of .u64 0) 4 (@subL (I .u64) (@Arr.list (I .u64) 8 x0.2.2.2.2.2.1) 4 4)),())),()))))
 K (((I.of .i64 0),()),(a,(b,(((I.of .u64 0),((I.of .u64 0),((I.of .u64 0),((I.of .u64 0),())))),(((I.of .u64 0),((I.of .u64 0),((I.of .u64 0),((I.of .u64 0),())))),(((I.of .u64 0),((I.of .u64 0),((I.of .u64 0),((I.of .u64 0),((I.of .u64 0),((I.of .u64 0),((I.of .u64 0),((I.of .u64 0),())))))))),()))))))
noncomputable def muldiv_MulDivFloor (K:Nat) (x:(⟨[.pl (.arr 4 (.int .u64)),.pl (.arr 4 (.int .u64)),.pl (.arr 4 (.int .u64))],[]⟩:Tm).D):Option (⟨[.pl (.arr 4 (.int .u64)),.pl (.int .i64)],[]⟩:Tm).D :=
 let a:(I .u64) × (I .u64) × (I .u64) × (I .u64) × Unit:=x.1.1
 let b:(I .u64) × (I .u64) × (I .u64) × (I .u64) × Unit:=x.1.2.1
 let c:(I .u64) × (I .u64) × (I .u64) × (I .u64) × Unit:=x.1.2.2.1
 optF (none) (muldiv_Mul K ((a,(b,())),())) fun y0 =>
 optF (none) (muldiv_Div512 K ((y0.1.1,(y0.1.2.1,(c,()))),())) fun y1 =>
 some ((y1.1.1,(y1.1.2.2.1,())),())
noncomputable def bips_Scale (K:Nat) (x:(⟨[.pl (.arr 4 (.int .u64)),.pl (.int .u64)],[]⟩:Tm).D):Option (⟨[.pl (.arr 4 (.int .u64)),.pl (.int .i64)],[]⟩:Tm).D :=
 let a:(I .u64) × (I .u64) × (I .u64) × (I .u64) × Unit:=x.1.1
 let b:I .u64:=x.1.2.1
 optF (none) (uint256_FromUint64 K ((b,()),())) fun y0 =>
 optF (none) (uint256_FromUint64 K (((I.of .u64 10000),()),())) fun y1 =>
 optF (none) (muldiv_MulDivFloor K ((a,(y0.1.1,(y1.1.1,()))),())) fun y2 =>
 some ((y2.1.1,(y2.1.2.1,())),())
noncomputable def bips_Split (K:Nat) (x:(⟨[.pl (.arr 4 (.int .u64)),.pl (.int .u64)],[]⟩:Tm).D):Option (⟨[.pl (.arr 4 (.int .u64)),.pl (.arr 4 (.int .u64)),.pl (.int .i64)],[]⟩:Tm).D :=
 let a:(I .u64) × (I .u64) × (I .u64) × (I .u64) × Unit:=x.1.1
 let b:I .u64:=x.1.2.1
 brn (@I.ltb .u64 (I.of .u64 10000) b)
  (some ((((I.of .u64 0),((I.of .u64 0),((I.of .u64 0),((I.of .u64 0),())))),(((I.of .u64 0),((I.of .u64 0),((I.of .u64 0),((I.of .u64 0),())))),((I.of .i64 2),()))),()))
  (optF (none) (bips_Scale K ((a,(b,())),())) fun y0 =>
  brn (@I.neb .i64 y0.1.2.1 (I.of .i64 0))
   (some ((((I.of .u64 0),((I.of .u64 0),((I.of .u64 0),((I.of .u64 0),())))),(((I.of .u64 0),((I.of .u64 0),((I.of .u64 0),((I.of .u64 0),())))),(y0.1.2.1,()))),()))
   (optF (none) (uint256_SaturatingSub K ((a,(y0.1.1,())),())) fun y1 =>
   some ((y0.1.1,(y1.1.1,((I.of .i64 0),()))),())))
noncomputable def txfee_distribute (K:Nat) (x:(⟨[.pl (.cons (.int .u64) (.cons (.int .u64) (.cons (.int .u64) (.cons (.int .u64) (.cons .bool (.cons (.arr 4 (.int .u64)) (.cons (.arr 4 (.int .u64)) (.cons (.arr 4 (.int .u64)) (.cons (.arr 4 (.int .u64)) (.cons (.arr 4 (.int .u64)) .nil)))))))))),.pl (.arr 4 (.int .u64)),.pl (.cons (.int .u64) (.cons (.int .u64) (.cons (.int .u64) (.cons (.arr 4 (.int .u64)) (.cons (.int .u64) (.cons (.arr 4 (.int .u64)) (.cons (.int .u64) (.cons (.arr 4 (.int .u64)) (.cons (.int .u64) (.cons (.int .u64) (.cons (.int .u64) (.cons (.int .u64) .nil))))))))))))],[]⟩:Tm).D):Option (⟨[.pl (.cons (.int .u64) (.cons (.int .u64) (.cons (.int .u64) (.cons (.int .u64) (.cons .bool (.cons (.arr 4 (.int .u64)) (.cons (.arr 4 (.int .u64)) (.cons (.arr 4 (.int .u64)) (.cons (.arr 4 (.int .u64)) (.cons (.arr 4 (.int .u64)) .nil)))))))))),.pl (.int .i64)],[]⟩:Tm).D :=
 let a:(I .u64) × (I .u64) × (I .u64) × (I .u64) × (Bool) × ((I .u64) × (I .u64) × (I .u64) × (I .u64) × Unit) × ((I .u64) × (I .u64) × (I .u64) × (I .u64) × Unit) × ((I .u64) × (I .u64) × (I .u64) × (I .u64) × Unit) × ((I .u64) × (I .u64) × (I .u64) × (I .u64) × Unit) × ((I .u64) × (I .u64) × (I .u64) × (I .u64) × Unit) × Unit:=x.1.1
 let b:(I .u64) × (I .u64) × (I .u64) × (I .u64) × Unit:=x.1.2.1
 let c:(I .u64) × (I .u64) × (I .u64) × ((I .u64) × (I .u64) × (I .u64) × (I .u64) × Unit) × (I .u64) × ((I .u64) × (I .u64) × (I .u64) × (I .u64) × Unit) × (I .u64) × ((I .u64) × (I .u64) × (I .u64) × (I .u64) × Unit) × (I .u64) × (I .u64) × (I .u64) × (I .u64) × Unit:=x.1.2.2.1
 optF (none) (uint256_FromUint64 K ((a.2.1,()),())) fun y0 =>
 optF (none) (uint256_Mul K ((b,(y0.1.1,())),())) fun y1 =>
 optF (none) (uint256_FromUint64 K ((a.2.2.1,()),())) fun y2 =>
 optF (none) (uint256_Mul K ((b,(y2.1.1,())),())) fun y3 =>
 optF (none) (uint256_Min K ((c.2.2.2.2.2.1,((b :: []),())),())) fun y4 =>
 optF (none) (uint256_FromUint64 K ((a.2.2.1,()),())) fun y5 =>
 optF (none) (uint256_Mul K ((y4.1.1,(y5.1.1,())),())) fun y6 =>
 optF (none) (uint256_FromUint64 K ((a.2.2.2.1,()),())) fun y7 =>
 optF (none) (uint256_Mul K ((a.2.2.2.2.2.1,(y7.1.1,())),())) fun y8 =>
 jn (fun (x9:(Unit × (((I .u64) × ((I .u64) × ((I .u64) × ((I .u64) × (Bool × (((I .u64) × ((I .u64) × ((I .u64) × ((I .u64) × Unit)))) × (((I .u64) × ((I .u64) × ((I .u64) × ((I .u64) × Unit)))) × (((I .u64) × ((I .u64) × ((I .u64) × ((I .u64) × Unit)))) × (((I .u64) × ((I .u64) × ((I .u64) × ((I .u64) × Unit)))) × (((I .u64) × ((I .u64) × ((I .u64) × ((I .u64) × Unit)))) × Unit)))))))))) × (((I .u64) × ((I .u64) × ((I .u64) × (((I .u64) × ((I .u64) × ((I .u64) × ((I .u64) × Unit)))) × ((I .u64) × (((I .u64) × ((I .u64) × ((I .u64) × ((I .u64) × Unit)))) × ((I .u64) × (((I .u64) × ((I .u64) × ((I .u64) × ((I .u64) × Unit)))) × ((I .u64) × ((I .u64) × ((I .u64) × ((I .u64) × Unit)))))))))))) × (((I .u64) × ((I .u64) × ((I .u64) × ((I .u64) × (Bool × (((I .u64) × ((I .u64) × ((I .u64) × ((I .u64) × Unit)))) × (((I .u64) × ((I .u64) × ((I .u64) × ((I .u64) × Unit)))) × (((I .u64) × ((I .u64) × ((I .u64) × ((I .u64) × Unit)))) × (((I .u64) × ((I .u64) × ((I .u64) × ((I .u64) × Unit)))) × (((I .u64) × ((I .u64) × ((I .u64) × ((I .u64) × Unit)))) × Unit)))))))))) × (((I .u64) × ((I .u64) × ((I .u64) × ((I .u64) × Unit)))) × (((I .u64) × ((I .u64) × ((I .u64) × ((I .u64) × Unit)))) × (((I .u64) × ((I .u64) × ((I .u64) × ((I .u64) × Unit)))) × (((I .u64) × ((I .u64) × ((I .u64) × ((I .u64) × Unit)))) × Unit))))))))) =>
   optF (none) (uint256_SaturatingSub K ((x9.2.2.2.2.2.1,(x9.2.2.2.2.2.2.1,())),())) fun y10 =>
   optF (none) (bips_Split K ((y10.1.1,(x9.2.2.1.2.2.2.2.2.2.1,())),())) fun y11 =>
   brn (@I.neb .i64 y11.1.2.2.1 (I.of .i64 0))
    (some ((((I.of .u64 0),((I.of .u64 0),((I.of .u64 0),((I.of .u64 0),(false,(((I.of .u64 0),((I.of .u64 0),((I.of .u64 0),((I.of .u64 0),())))),(((I.of .u64 0),((I.of .u64 0),((I.of .u64 0),((I.of .u64 0),())))),(((I.of .u64 0),((I.of .u64 0),((I.of .u64 0),((I.of .u64 0),())))),(((I.of .u64 0),((I.of .u64 0),((I.of .u64 0),((I.of .u64 0),())))),(((I.of .u64 0),((I.of .u64 0),((I.of .u64 0),((I.of .u64 0),())))),())))))))))),(y11.1.2.2.1,())),()))
    (optF (none) (uint256_Add ((y11.1.2.1,(x9.2.2.2.2.2.2.2.1,())),())) fun y12 =>
    brn (@I.neb .i64 y12.1.2.1 (I.of .i64 0))
     (some ((((I.of .u64 0),((I.of .u64 0),((I.of .u64 0),((I.of .u64 0),(false,(((I.of .u64 0),((I.of .u64 0),((I.of .u64 0),((I.of .u64 0),())))),(((I.of .u64 0),((I.of .u64 0),((I.of .u64 0),((I.of .u64 0),())))),(((I.of .u64 0),((I.of .u64 0),((I.of .u64 0),((I.of .u64 0),())))),(((I.of .u64 0),((I.of .u64 0),((I.of .u64 0),((I.of .u64 0),())))),(((I.of .u64 0),((I.of .u64 0),((I.of .u64 0),((I.of .u64 0),())))),())))))))))),(y12.1.2.1,())),()))
     (some (((x9.2.1.1,(x9.2.1.2.1,(x9.2.1.2.2.1,(x9.2.1.2.2.2.1,(x9.2.1.2.2.2.2.1,(x9.2.1.2.2.2.2.2.1,(x9.2.2.2.2.1,(x9.2.2.2.2.2.2.1,(y12.1.1,(y11.1.1,x9.2.1.2.2.2.2.2.2.2.2.2.2)))))))))),((I.of .i64 0),())),())))) fun j9 =>
 brn (@I.neb .i64 y1.1.2.1 (I.of .i64 0))
  (some ((((I.of .u64 0),((I.of .u64 0),((I.of .u64 0),((I.of .u64 0),(false,(((I.of .u64 0),((I.of .u64 0),((I.of .u64 0),((I.of .u64 0),())))),(((I.of .u64 0),((I.of .u64 0),((I.of .u64 0),((I.of .u64 0),())))),(((I.of .u64 0),((I.of .u64 0),((I.of .u64 0),((I.of .u64 0),())))),(((I.of .u64 0),((I.of .u64 0),((I.of .u64 0),((I.of .u64 0),())))),(((I.of .u64 0),((I.of .u64 0),((I.of .u64 0),((I.of .u64 0),())))),())))))))))),((I.of .i64 4),())),()))
  (brn (@I.neb .i64 y3.1.2.1 (I.of .i64 0))
   (some ((((I.of .u64 0),((I.of .u64 0),((I.of .u64 0),((I.of .u64 0),(false,(((I.of .u64 0),((I.of .u64 0),((I.of .u64 0),((I.of .u64 0),())))),(((I.of .u64 0),((I.of .u64 0),((I.of .u64 0),((I.of .u64 0),())))),(((I.of .u64 0),((I.of .u64 0),((I.of .u64 0),((I.of .u64 0),())))),(((I.of .u64 0),((I.of .u64 0),((I.of .u64 0),((I.of .u64 0),())))),(((I.of .u64 0),((I.of .u64 0),((I.of .u64 0),((I.of .u64 0),())))),())))))))))),((I.of .i64 4),())),()))
   (brn (@I.neb .i64 y6.1.2.1 (I.of .i64 0))
    (some ((((I.of .u64 0),((I.of .u64 0),((I.of .u64 0),((I.of .u64 0),(false,(((I.of .u64 0),((I.of .u64 0),((I.of .u64 0),((I.of .u64 0),())))),(((I.of .u64 0),((I.of .u64 0),((I.of .u64 0),((I.of .u64 0),())))),(((I.of .u64 0),((I.of .u64 0),((I.of .u64 0),((I.of .u64 0),())))),(((I.of .u64 0),((I.of .u64 0),((I.of .u64 0),((I.of .u64 0),())))),(((I.of .u64 0),((I.of .u64 0),((I.of .u64 0),((I.of .u64 0),())))),())))))))))),((I.of .i64 4),())),()))
    (brn (@I.neb .i64 y8.1.2.1 (I.of .i64 0))
     (some ((((I.of .u64 0),((I.of .u64 0),((I.of .u64 0),((I.of .u64 0),(false,(((I.of .u64 0),((I.of .u64 0),((I.of .u64 0),((I.of .u64 0),())))),(((I.of .u64 0),((I.of .u64 0),((I.of .u64 0),((I.of .u64 0),())))),(((I.of .u64 0),((I.of .u64 0),((I.of .u64 0),((I.of .u64 0),())))),(((I.of .u64 0),((I.of .u64 0),((I.of .u64 0),((I.of .u64 0),())))),(((I.of .u64 0),((I.of .u64 0),((I.of .u64 0),((I.of .u64 0),())))),())))))))))),((I.of .i64 4),())),()))
     (j9 ((),(a,(c,(((I.of .u64 0),((I.of .u64 0),((I.of .u64 0),((I.of .u64 0),(false,(((I.of .u64 0),((I.of .u64 0),((I.of .u64 0),((I.of .u64 0),())))),(((I.of .u64 0),((I.of .u64 0),((I.of .u64 0),((I.of .u64 0),())))),(((I.of .u64 0),((I.of .u64 0),((I.of .u64 0),((I.of .u64 0),())))),(((I.of .u64 0),((I.of .u64 0),((I.of .u64 0),((I.of .u64 0),())))),(((I.of .u64 0),((I.of .u64 0),((I.of .u64 0),((I.of .u64 0),())))),())))))))))),(y1.1.1,(y3.1.1,(y6.1.1,(y8.1.1,()))))))))))))
noncomputable def txfee_Compute (K:Nat) (x:(⟨[.pl (.cons (.int .u64) (.cons (.int .u64) (.cons (.int .u64) (.cons (.arr 4 (.int .u64)) (.cons (.int .u64) (.cons (.arr 4 (.int .u64)) (.cons (.arr 4 (.int .u64)) (.cons (.int .u64) (.cons (.sl (.int .u8)) .nil))))))))),.pl (.arr 4 (.int .u64)),.pl (.arr 4 (.int .u64)),.pl (.cons (.int .u64) (.cons (.int .u64) (.cons (.int .u64) (.cons (.arr 4 (.int .u64)) (.cons (.int .u64) (.cons (.arr 4 (.int .u64)) (.cons (.int .u64) (.cons (.arr 4 (.int .u64)) (.cons (.int .u64) (.cons (.int .u64) (.cons (.int .u64) (.cons (.int .u64) .nil))))))))))))],[]⟩:Tm).D):Option (⟨[.pl (.cons (.int .u64) (.cons (.int .u64) (.cons (.int .u64) (.cons (.int .u64) (.cons .bool (.cons (.arr 4 (.int .u64)) (.cons (.arr 4 (.int .u64)) (.cons (.arr 4 (.int .u64)) (.cons (.arr 4 (.int .u64)) (.cons (.arr 4 (.int .u64)) .nil)))))))))),.pl (.int .i64)],[]⟩:Tm).D :=
 let a:(I .u64) × (I .u64) × (I .u64) × ((I .u64) × (I .u64) × (I .u64) × (I .u64) × Unit) × (I .u64) × ((I .u64) × (I .u64) × (I .u64) × (I .u64) × Unit) × ((I .u64) × (I .u64) × (I .u64) × (I .u64) × Unit) × (I .u64) × (List (I .u8)) × Unit:=x.1.1
 let b:(I .u64) × (I .u64) × (I .u64) × (I .u64) × Unit:=x.1.2.1
 let c:(I .u64) × (I .u64) × (I .u64) × (I .u64) × Unit:=x.1.2.2.1
 let d:(I .u64) × (I .u64) × (I .u64) × ((I .u64) × (I .u64) × (I .u64) × (I .u64) × Unit) × (I .u64) × ((I .u64) × (I .u64) × (I .u64) × (I .u64) × Unit) × (I .u64) × ((I .u64) × (I .u64) × (I .u64) × (I .u64) × Unit) × (I .u64) × (I .u64) × (I .u64) × (I .u64) × Unit:=x.1.2.2.2.1
 optF (none) (params_Valid K ((d,()),())) fun y0 =>
 brn (bnot y0.1.1)
  (some ((((I.of .u64 0),((I.of .u64 0),((I.of .u64 0),((I.of .u64 0),(false,(((I.of .u64 0),((I.of .u64 0),((I.of .u64 0),((I.of .u64 0),())))),(((I.of .u64 0),((I.of .u64 0),((I.of .u64 0),((I.of .u64 0),())))),(((I.of .u64 0),((I.of .u64 0),((I.of .u64 0),((I.of .u64 0),())))),(((I.of .u64 0),((I.of .u64 0),((I.of .u64 0),((I.of .u64 0),())))),(((I.of .u64 0),((I.of .u64 0),((I.of .u64 0),((I.of .u64 0),())))),())))))))))),((I.of .i64 15),())),()))
  (brn (Ty.eqb (.arr 4 (.int .u64)) b ((I.of .u64 0),((I.of .u64 0),((I.of .u64 0),((I.of .u64 0),())))))
   (some ((((I.of .u64 0),((I.of .u64 0),((I.of .u64 0),((I.of .u64 0),(false,(((I.of .u64 0),((I.of .u64 0),((I.of .u64 0),((I.of .u64 0),())))),(((I.of .u64 0),((I.of .u64 0),((I.of .u64 0),((I.of .u64 0),())))),(((I.of .u64 0),((I.of .u64 0),((I.of .u64 0),((I.of .u64 0),())))),(((I.of .u64 0),((I.of .u64 0),((I.of .u64 0),((I.of .u64 0),())))),(((I.of .u64 0),((I.of .u64 0),((I.of .u64 0),((I.of .u64 0),())))),())))))))))),((I.of .i64 5),())),()))
   (optF (none) (txfee_GasPrice K ((a,(b,())),())) fun y1 =>
   brn (@I.neb .i64 y1.1.2.1 (I.of .i64 0))
    (some ((((I.of .u64 0),((I.of .u64 0),((I.of .u64 0),((I.of .u64 0),(false,(((I.of .u64 0),((I.of .u64 0),((I.of .u64 0),((I.of .u64 0),())))),(((I.of .u64 0),((I.of .u64 0),((I.of .u64 0),((I.of .u64 0),())))),(((I.of .u64 0),((I.of .u64 0),((I.of .u64 0),((I.of .u64 0),())))),(((I.of .u64 0),((I.of .u64 0),((I.of .u64 0),((I.of .u64 0),())))),(((I.of .u64 0),((I.of .u64 0),((I.of .u64 0),((I.of .u64 0),())))),())))))))))),(y1.1.2.1,())),()))
    (optF (none) (txfee_meter K ((a,(b,(c,(d,())))),())) fun y2 =>
    brn (@I.neb .i64 y2.1.2.1 (I.of .i64 0))
     (some ((((I.of .u64 0),((I.of .u64 0),((I.of .u64 0),((I.of .u64 0),(false,(((I.of .u64 0),((I.of .u64 0),((I.of .u64 0),((I.of .u64 0),())))),(((I.of .u64 0),((I.of .u64 0),((I.of .u64 0),((I.of .u64 0),())))),(((I.of .u64 0),((I.of .u64 0),((I.of .u64 0),((I.of .u64 0),())))),(((I.of .u64 0),((I.of .u64 0),((I.of .u64 0),((I.of .u64 0),())))),(((I.of .u64 0),((I.of .u64 0),((I.of .u64 0),((I.of .u64 0),())))),())))))))))),(y2.1.2.1,())),()))
     (optF (none) (uint256_SaturatingSub K ((y1.1.1,(b,())),())) fun y3 =>
     optF (none) (txfee_distribute K (((y2.1.1.1,(y2.1.1.2.1,(y2.1.1.2.2.1,(y2.1.1.2.2.2.1,(y2.1.1.2.2.2.2.1,(y3.1.1,y2.1.1.2.2.2.2.2.2)))))),(b,(d,()))),())) fun y4 =>
     some ((y4.1.1,(y4.1.2.1,())),())))))
end Sym

/- The given functions as plain functions, as the printer told them. -/
namespace Sym
open Go
noncomputable abbrev Z_U:U:=((I.of .u64 0),((I.of .u64 0),((I.of .u64 0),((I.of .u64 0),()))))
abbrev S_api_Poster:Type:=(I .u64) × (U × (U × (U × (U × ((I .u64) × Unit)))))
noncomputable abbrev Z_S_api_Poster:S_api_Poster:=((I.of .u64 0),(Z_U,(Z_U,(Z_U,(Z_U,((I.of .u64 0),()))))))
abbrev S_debtqueue_item:Type:=S_api_Poster × ((I .i64) × Unit)
noncomputable abbrev Z_S_debtqueue_item:S_debtqueue_item:=(Z_S_api_Poster,((I.of .i64 0),()))
noncomputable def debtqueue_items_Len (K:Nat) (x:(⟨[.pl (.sl (.cons (.cons (.int .u64) (.cons (.arr 4 (.int .u64)) (.cons (.arr 4 (.int .u64)) (.cons (.arr 4 (.int .u64)) (.cons (.arr 4 (.int .u64)) (.cons (.int .u64) .nil)))))) (.cons (.int .i64) .nil)))],[]⟩:Tm).D):Option (⟨[.pl (.int .i64)],[]⟩:Tm).D :=
 let a:(List S_debtqueue_item):=x.1.1
 some (((I.ofNat .i64 (@lenL S_debtqueue_item a)),()),())
noncomputable def debtqueue_items_Less (K:Nat) (x:(⟨[.pl (.sl (.cons (.cons (.int .u64) (.cons (.arr 4 (.int .u64)) (.cons (.arr 4 (.int .u64)) (.cons (.arr 4 (.int .u64)) (.cons (.arr 4 (.int .u64)) (.cons (.int .u64) .nil)))))) (.cons (.int .i64) .nil))),.pl (.int .i64),.pl (.int .i64)],[]⟩:Tm).D):Option (⟨[.pl .bool],[]⟩:Tm).D :=
 let a:(List S_debtqueue_item):=x.1.1
 let b:(I .i64):=x.1.2.1
 let c:(I .i64):=x.1.2.2.1
 brn (@inB .i64 b (@lenL S_debtqueue_item a))
  (brn (@inB .i64 c (@lenL S_debtqueue_item a))
   (brn (@I.neb .u64 (@rdL S_debtqueue_item Z_S_debtqueue_item a (@I.nat .i64 b)).1.2.2.2.2.2.1 (@rdL S_debtqueue_item Z_S_debtqueue_item a (@I.nat .i64 c)).1.2.2.2.2.2.1)
    (some (((@I.ltb .u64 (@rdL S_debtqueue_item Z_S_debtqueue_item a (@I.nat .i64 b)).1.2.2.2.2.2.1 (@rdL S_debtqueue_item Z_S_debtqueue_item a (@I.nat .i64 c)).1.2.2.2.2.2.1),()),()))
    (brn (@I.neb .u64 (@rdL S_debtqueue_item Z_S_debtqueue_item a (@I.nat .i64 b)).1.1 (@rdL S_debtqueue_item Z_S_debtqueue_item a (@I.nat .i64 c)).1.1)
     (some (((@I.ltb .u64 (@rdL S_debtqueue_item Z_S_debtqueue_item a (@I.nat .i64 b)).1.1 (@rdL S_debtqueue_item Z_S_debtqueue_item a (@I.nat .i64 c)).1.1),()),()))
     (some (((@I.ltb .i64 (@rdL S_debtqueue_item Z_S_debtqueue_item a (@I.nat .i64 b)).2.1 (@rdL S_debtqueue_item Z_S_debtqueue_item a (@I.nat .i64 c)).2.1),()),()))))
   (none))
  (none)
noncomputable def container_heap_Push (K:Nat) (x:(⟨[.iface 85 (.ptr 0 [.fld 0]),.iface 87 (.pl (.cons (.cons (.int .u64) (.cons (.arr 4 (.int .u64)) (.cons (.arr 4 (.int .u64)) (.cons (.arr 4 (.int .u64)) (.cons (.arr 4 (.int .u64)) (.cons (.int .u64) .nil)))))) (.cons (.int .i64) .nil)))],[.box (.cons (.sl (.cons (.cons (.int .u64) (.cons (.arr 4 (.int .u64)) (.cons (.arr 4 (.int .u64)) (.cons (.arr 4 (.int .u64)) (.cons (.arr 4 (.int .u64)) (.cons (.int .u64) .nil)))))) (.cons (.int .i64) .nil))) .nil) (.pair (.whole 1) (.pl .nil)),.row (.cons (.cons (.int .u64) (.cons (.arr 4 (.int .u64)) (.cons (.arr 4 (.int .u64)) (.cons (.arr 4 (.int .u64)) (.cons (.arr 4 (.int .u64)) (.cons (.int .u64) .nil)))))) (.cons (.int .i64) .nil))]⟩:Tm).D):Option (⟨[],[.box (.cons (.sl (.cons (.cons (.int .u64) (.cons (.arr 4 (.int .u64)) (.cons (.arr 4 (.int .u64)) (.cons (.arr 4 (.int .u64)) (.cons (.arr 4 (.int .u64)) (.cons (.int .u64) .nil)))))) (.cons (.int .i64) .nil))) .nil) (.pair (.whole 1) (.pl .nil)),.row (.cons (.cons (.int .u64) (.cons (.arr 4 (.int .u64)) (.cons (.arr 4 (.int .u64)) (.cons (.arr 4 (.int .u64)) (.cons (.arr 4 (.int .u64)) (.cons (.int .u64) .nil)))))) (.cons (.int .i64) .nil))]⟩:Tm).D :=
 let b:S_debtqueue_item:=x.1.2.1
 let h0:(Unit × Unit):=x.2.1
 let h1:(List S_debtqueue_item):=x.2.2.1
 brn (fitsLen (@lenL S_debtqueue_item (@appL S_debtqueue_item h1 (b :: []))))
  (optF (none) (debtqueue_items_Len K (((@appL S_debtqueue_item h1 (b :: [])),()),())) fun y0 =>
  iter (none) (fun x1 =>
    brn (@I.eqb .i64 (@I.quo .i64 (@I.sub .i64 x1.1.2.1 (I.of .i64 1)) (I.of .i64 2)) x1.1.2.1)
     (.done (some ((),(((),x1.2.1.2),(x1.2.2.1,())))))
     (optF (.done (none)) (debtqueue_items_Less K ((x1.2.2.1,(x1.1.2.1,((@I.quo .i64 (@I.sub .i64 x1.1.2.1 (I.of .i64 1)) (I.of .i64 2)),()))),())) fun y2 =>
     brn (bnot y2.1.1)
      (.done (some ((),(((),x1.2.1.2),(x1.2.2.1,())))))
      (brn (@inB .i64 x1.1.2.1 (@lenL S_debtqueue_item x1.2.2.1))
       (brn (@inB .i64 (@I.quo .i64 (@I.sub .i64 x1.1.2.1 (I.of .i64 1)) (I.of .i64 2)) (@lenL S_debtqueue_item x1.2.2.1))
        (brn (@inB .i64 (@I.quo .i64 (@I.sub .i64 x1.1.2.1 (I.of .i64 1)) (I.of .i64 2)) (@lenL S_debtqueue_item x1.2.2.1))
         (brn (@inB .i64 x1.1.2.1 (@lenL S_debtqueue_item (@setL S_debtqueue_item x1.2.2.1 (@I.nat .i64 (@I.quo .i64 (@I.sub .i64 x1.1.2.1 (I.of .i64 1)) (I.of .i64 2))) (@rdL S_debtqueue_item Z_S_debtqueue_item x1.2.2.1 (@I.nat .i64 x1.1.2.1)))))
          (.again (((),((@I.quo .i64 (@I.sub .i64 x1.1.2.1 (I.of .i64 1)) (I.of .i64 2)),())),(((),x1.2.1.2),((@setL S_debtqueue_item (@setL S_debtqueue_item x1.2.2.1 (@I.nat .i64 (@I.quo .i64 (@I.sub .i64 x1.1.2.1 (I.of .i64 1)) (I.of .i64 2))) (@rdL S_debtqueue_item Z_S_debtqueue_item x1.2.2.1 (@I.nat .i64 x1.1.2.1))) (@I.nat .i64 x1.1.2.1) (@rdL S_debtqueue_item Z_S_debtqueue_item x1.2.2.1 (@I.nat .i64 (@I.quo .i64 (@I.sub .i64 x1.1.2.1 (I.of .i64 1)) (I.of .i64 2))))),()))))
          (.done (none)))
         (.done (none)))
        (.done (none)))
       (.done (none)))))
  K (((),((@I.sub .i64 y0.1.1 (I.of .i64 1)),())),(((),h0.2),((@appL S_debtqueue_item h1 (b :: [])),()))))
  (none)
noncomputable def debtqueue_New (K:Nat) (x:(⟨[.pl (.sl (.cons (.int .u64) (.cons (.arr 4 (.int .u64)) (.cons (.arr 4 (.int .u64)) (.cons (.arr 4 (.int .u64)) (.cons (.arr 4 (.int .u64)) (.cons (.int .u64) .nil)))))))],[]⟩:Tm).D):Option (⟨[.ptr 0 []],[.box (.cons (.sl (.cons (.cons (.int .u64) (.cons (.arr 4 (.int .u64)) (.cons (.arr 4 (.int .u64)) (.cons (.arr 4 (.int .u64)) (.cons (.arr 4 (.int .u64)) (.cons (.int .u64) .nil)))))) (.cons (.int .i64) .nil))) .nil) (.pair (.whole 1) (.pl .nil)),.row (.cons (.cons (.int .u64) (.cons (.arr 4 (.int .u64)) (.cons (.arr 4 (.int .u64)) (.cons (.arr 4 (.int .u64)) (.cons (.arr 4 (.int .u64)) (.cons (.int .u64) .nil)))))) (.cons (.int .i64) .nil))]⟩:Tm).D :=
 let a:(List S_api_Poster):=x.1.1
 iter (none) (fun x0 =>
   brn (@I.ltb .i64 x0.1.2.2.1 x0.1.2.1)
    (brn (@inB .i64 x0.1.2.2.1 (@lenL S_api_Poster x0.1.1))
     (brn (bnot (Ty.eqb (.arr 4 (.int .u64)) (@rdL S_api_Poster Z_S_api_Poster x0.1.1 (@I.nat .i64 x0.1.2.2.1)).2.1 Z_U))
      (optF (.done (none)) (container_heap_Push K (((),(((@rdL S_api_Poster Z_S_api_Poster x0.1.1 (@I.nat .i64 x0.1.2.2.1)),(x0.1.2.2.1,())),())),(((),x0.2.1.2),(x0.2.2.1,())))) fun y1 =>
      .again ((x0.1.1,(x0.1.2.1,((@I.add .i64 x0.1.2.2.1 (I.of .i64 1)),()))),(((),y1.2.1.2),(y1.2.2.1,()))))
      (.again ((x0.1.1,(x0.1.2.1,((@I.add .i64 x0.1.2.2.1 (I.of .i64 1)),()))),(((),x0.2.1.2),(x0.2.2.1,())))))
     (.done (none)))
    (.done (some ((),(((),x0.2.1.2),(x0.2.2.1,()))))))
 K ((a,((I.ofNat .i64 (@lenL S_api_Poster a)),((I.of .i64 0),()))),(((),()),([],())))
noncomputable def debtqueue_Queue_Len (K:Nat) (x:(⟨[.ptr 0 []],[.box (.cons (.sl (.cons (.cons (.int .u64) (.cons (.arr 4 (.int .u64)) (.cons (.arr 4 (.int .u64)) (.cons (.arr 4 (.int .u64)) (.cons (.arr 4 (.int .u64)) (.cons (.int .u64) .nil)))))) (.cons (.int .i64) .nil))) .nil) (.pair (.whole 1) (.pl .nil)),.row (.cons (.cons (.int .u64) (.cons (.arr 4 (.int .u64)) (.cons (.arr 4 (.int .u64)) (.cons (.arr 4 (.int .u64)) (.cons (.arr 4 (.int .u64)) (.cons (.int .u64) .nil)))))) (.cons (.int .i64) .nil))]⟩:Tm).D):Option (⟨[.pl (.int .i64)],[.box (.cons (.sl (.cons (.cons (.int .u64) (.cons (.arr 4 (.int .u64)) (.cons (.arr 4 (.int .u64)) (.cons (.arr 4 (.int .u64)) (.cons (.arr 4 (.int .u64)) (.cons (.int .u64) .nil)))))) (.cons (.int .i64) .nil))) .nil) (.pair (.whole 1) (.pl .nil)),.row (.cons (.cons (.int .u64) (.cons (.arr 4 (.int .u64)) (.cons (.arr 4 (.int .u64)) (.cons (.arr 4 (.int .u64)) (.cons (.arr 4 (.int .u64)) (.cons (.int .u64) .nil)))))) (.cons (.int .i64) .nil))]⟩:Tm).D :=
 let h0:(Unit × Unit):=x.2.1
 let h1:(List S_debtqueue_item):=x.2.2.1
 some (((I.ofNat .i64 (@lenL S_debtqueue_item h1)),()),(((),h0.2),(h1,())))
noncomputable def debtqueue_Queue_Peek (K:Nat) (x:(⟨[.ptr 0 []],[.box (.cons (.sl (.cons (.cons (.int .u64) (.cons (.arr 4 (.int .u64)) (.cons (.arr 4 (.int .u64)) (.cons (.arr 4 (.int .u64)) (.cons (.arr 4 (.int .u64)) (.cons (.int .u64) .nil)))))) (.cons (.int .i64) .nil))) .nil) (.pair (.whole 1) (.pl .nil)),.row (.cons (.cons (.int .u64) (.cons (.arr 4 (.int .u64)) (.cons (.arr 4 (.int .u64)) (.cons (.arr 4 (.int .u64)) (.cons (.arr 4 (.int .u64)) (.cons (.int .u64) .nil)))))) (.cons (.int .i64) .nil))]⟩:Tm).D):Option (⟨[.pl (.cons (.int .u64) (.cons (.arr 4 (.int .u64)) (.cons (.arr 4 (.int .u64)) (.cons (.arr 4 (.int .u64)) (.cons (.arr 4 (.int .u64)) (.cons (.int .u64) .nil)))))),.pl .bool],[.box (.cons (.sl (.cons (.cons (.int .u64) (.cons (.arr 4 (.int .u64)) (.cons (.arr 4 (.int .u64)) (.cons (.arr 4 (.int .u64)) (.cons (.arr 4 (.int .u64)) (.cons (.int .u64) .nil)))))) (.cons (.int .i64) .nil))) .nil) (.pair (.whole 1) (.pl .nil)),.row (.cons (.cons (.int .u64) (.cons (.arr 4 (.int .u64)) (.cons (.arr 4 (.int .u64)) (.cons (.arr 4 (.int .u64)) (.cons (.arr 4 (.int .u64)) (.cons (.int .u64) .nil)))))) (.cons (.int .i64) .nil))]⟩:Tm).D :=
 let h0:(Unit × Unit):=x.2.1
 let h1:(List S_debtqueue_item):=x.2.2.1
 optF (none) (debtqueue_Queue_Len K ((),(((),h0.2),(h1,())))) fun y0 =>
 brn (@I.eqb .i64 y0.1.1 (I.of .i64 0))
  (some ((Z_S_api_Poster,(false,())),(((),y0.2.1.2),(y0.2.2.1,()))))
  (brn (@inB .i64 (I.of .i64 0) (@lenL S_debtqueue_item y0.2.2.1))
   (some (((@rdL S_debtqueue_item Z_S_debtqueue_item y0.2.2.1 0).1,(true,())),(((),y0.2.1.2),(y0.2.2.1,()))))
   (none))
noncomputable def debtqueue_Queue_Pop (K:Nat) (x:(⟨[.ptr 0 []],[.box (.cons (.sl (.cons (.cons (.int .u64) (.cons (.arr 4 (.int .u64)) (.cons (.arr 4 (.int .u64)) (.cons (.arr 4 (.int .u64)) (.cons (.arr 4 (.int .u64)) (.cons (.int .u64) .nil)))))) (.cons (.int .i64) .nil))) .nil) (.pair (.whole 1) (.pl .nil)),.row (.cons (.cons (.int .u64) (.cons (.arr 4 (.int .u64)) (.cons (.arr 4 (.int .u64)) (.cons (.arr 4 (.int .u64)) (.cons (.arr 4 (.int .u64)) (.cons (.int .u64) .nil)))))) (.cons (.int .i64) .nil))]⟩:Tm).D):Option (⟨[.pl (.cons (.int .u64) (.cons (.arr 4 (.int .u64)) (.cons (.arr 4 (.int .u64)) (.cons (.arr 4 (.int .u64)) (.cons (.arr 4 (.int .u64)) (.cons (.int .u64) .nil)))))),.pl .bool],[.box (.cons (.sl (.cons (.cons (.int .u64) (.cons (.arr 4 (.int .u64)) (.cons (.arr 4 (.int .u64)) (.cons (.arr 4 (.int .u64)) (.cons (.arr 4 (.int .u64)) (.cons (.int .u64) .nil)))))) (.cons (.int .i64) .nil))) .nil) (.pair (.whole 1) (.pl .nil)),.row (.cons (.cons (.int .u64) (.cons (.arr 4 (.int .u64)) (.cons (.arr 4 (.int .u64)) (.cons (.arr 4 (.int .u64)) (.cons (.arr 4 (.int .u64)) (.cons (.int .u64) .nil)))))) (.cons (.int .i64) .nil))]⟩:Tm).D :=
 let h0:(Unit × Unit):=x.2.1
 let h1:(List S_debtqueue_item):=x.2.2.1
 optF (none) (debtqueue_Queue_Peek K ((),(((),h0.2),(h1,())))) fun y0 =>
 brn y0.1.2.1
  (optF (none) (debtqueue_items_Len K ((y0.2.2.1,()),())) fun y1 =>
  brn (@inB .i64 (@I.sub .i64 y1.1.1 (I.of .i64 1)) (@lenL S_debtqueue_item y0.2.2.1))
   (brn (@inB .i64 (I.of .i64 0) (@lenL S_debtqueue_item y0.2.2.1))
    (brn (@inB .i64 (I.of .i64 0) (@lenL S_debtqueue_item y0.2.2.1))
     (brn (@inB .i64 (@I.sub .i64 y1.1.1 (I.of .i64 1)) (@lenL S_debtqueue_item (@setL S_debtqueue_item y0.2.2.1 0 (@rdL S_debtqueue_item Z_S_debtqueue_item y0.2.2.1 (@I.nat .i64 (@I.sub .i64 y1.1.1 (I.of .i64 1)))))))
      (iter (none) (fun x2 =>
        brn (@I.leb .i64 x2.1.2.2.1 (@I.add .i64 (@I.mul .i64 (I.of .i64 2) x2.1.2.2.2.1) (I.of .i64 1)))
         (.done (brn (@inB .i64 (@I.sub .i64 (I.ofNat .i64 (@lenL S_debtqueue_item x2.2.2.1)) (I.of .i64 1)) (@lenL S_debtqueue_item x2.2.2.1))
          (brn (@inB' .i64 (@I.sub .i64 (I.ofNat .i64 (@lenL S_debtqueue_item x2.2.2.1)) (I.of .i64 1)) (@lenL S_debtqueue_item x2.2.2.1))
           (some ((x2.2.2.2.2.1,(x2.1.2.2.2.2.2.1,())),(((),x2.2.1.2),((@subL S_debtqueue_item x2.2.2.1 0 (@I.nat .i64 (@I.sub .i64 (I.ofNat .i64 (@lenL S_debtqueue_item x2.2.2.1)) (I.of .i64 1)))),()))))
           (none))
          (none)))
         (brn (@I.ltb .i64 (@I.add .i64 (@I.mul .i64 (I.of .i64 2) x2.1.2.2.2.1) (I.of .i64 1)) (I.of .i64 0))
          (.done (brn (@inB .i64 (@I.sub .i64 (I.ofNat .i64 (@lenL S_debtqueue_item x2.2.2.1)) (I.of .i64 1)) (@lenL S_debtqueue_item x2.2.2.1))
           (brn (@inB' .i64 (@I.sub .i64 (I.ofNat .i64 (@lenL S_debtqueue_item x2.2.2.1)) (I.of .i64 1)) (@lenL S_debtqueue_item x2.2.2.1))
            (some ((x2.2.2.2.2.1,(x2.1.2.2.2.2.2.1,())),(((),x2.2.1.2),((@subL S_debtqueue_item x2.2.2.1 0 (@I.nat .i64 (@I.sub .i64 (I.ofNat .i64 (@lenL S_debtqueue_item x2.2.2.1)) (I.of .i64 1)))),()))))
            (none))
           (none)))
          (brn (@I.ltb .i64 (@I.add .i64 (@I.add .i64 (@I.mul .i64 (I.of .i64 2) x2.1.2.2.2.1) (I.of .i64 1)) (I.of .i64 1)) x2.1.2.2.1)
           (optF (.done (none)) (debtqueue_items_Less K ((x2.2.2.1,((@I.add .i64 (@I.add .i64 (@I.mul .i64 (I.of .i64 2) x2.1.2.2.2.1) (I.of .i64 1)) (I.of .i64 1)),((@I.add .i64 (@I.mul .i64 (I.of .i64 2) x2.1.2.2.2.1) (I.of .i64 1)),()))),())) fun y3 =>
           brn y3.1.1
            (optF (.done (none)) (debtqueue_items_Less K ((x2.2.2.1,((@I.add .i64 (@I.add .i64 (@I.mul .i64 (I.of .i64 2) x2.1.2.2.2.1) (I.of .i64 1)) (I.of .i64 1)),(x2.1.2.2.2.1,()))),())) fun y4 =>
            brn (bnot y4.1.1)
             (.done (brn (@inB .i64 (@I.sub .i64 (I.ofNat .i64 (@lenL S_debtqueue_item x2.2.2.1)) (I.of .i64 1)) (@lenL S_debtqueue_item x2.2.2.1))
              (brn (@inB' .i64 (@I.sub .i64 (I.ofNat .i64 (@lenL S_debtqueue_item x2.2.2.1)) (I.of .i64 1)) (@lenL S_debtqueue_item x2.2.2.1))
               (some ((x2.2.2.2.2.1,(x2.1.2.2.2.2.2.1,())),(((),x2.2.1.2),((@subL S_debtqueue_item x2.2.2.1 0 (@I.nat .i64 (@I.sub .i64 (I.ofNat .i64 (@lenL S_debtqueue_item x2.2.2.1)) (I.of .i64 1)))),()))))
               (none))
              (none)))
             (brn (@inB .i64 (@I.add .i64 (@I.add .i64 (@I.mul .i64 (I.of .i64 2) x2.1.2.2.2.1) (I.of .i64 1)) (I.of .i64 1)) (@lenL S_debtqueue_item x2.2.2.1))
              (brn (@inB .i64 x2.1.2.2.2.1 (@lenL S_debtqueue_item x2.2.2.1))
               (brn (@inB .i64 x2.1.2.2.2.1 (@lenL S_debtqueue_item x2.2.2.1))
                (brn (@inB .i64 (@I.add .i64 (@I.add .i64 (@I.mul .i64 (I.of .i64 2) x2.1.2.2.2.1) (I.of .i64 1)) (I.of .i64 1)) (@lenL S_debtqueue_item (@setL S_debtqueue_item x2.2.2.1 (@I.nat .i64 x2.1.2.2.2.1) (@rdL S_debtqueue_item Z_S_debtqueue_item x2.2.2.1 (@I.nat .i64 (@I.add .i64 (@I.add .i64 (@I.mul .i64 (I.of .i64 2) x2.1.2.2.2.1) (I.of .i64 1)) (I.of .i64 1)))))))
                 (.again (((),(x2.1.2.1,(x2.1.2.2.1,((@I.add .i64 (@I.add .i64 (@I.mul .i64 (I.of .i64 2) x2.1.2.2.2.1) (I.of .i64 1)) (I.of .i64 1)),((),(x2.1.2.2.2.2.2.1,())))))),(((),x2.2.1.2),((@setL S_debtqueue_item (@setL S_debtqueue_item x2.2.2.1 (@I.nat .i64 x2.1.2.2.2.1) (@rdL S_debtqueue_item Z_S_debtqueue_item x2.2.2.1 (@I.nat .i64 (@I.add .i64 (@I.add .i64 (@I.mul .i64 (I.of .i64 2) x2.1.2.2.2.1) (I.of .i64 1)) (I.of .i64 1))))) (@I.nat .i64 (@I.add .i64 (@I.add .i64 (@I.mul .i64 (I.of .i64 2) x2.1.2.2.2.1) (I.of .i64 1)) (I.of .i64 1))) (@rdL S_debtqueue_item Z_S_debtqueue_item x2.2.2.1 (@I.nat .i64 x2.1.2.2.2.1))),(x2.2.2.2.1,(x2.2.2.2.2.1,()))))))
                 (.done (none)))
                (.done (none)))
               (.done (none)))
              (.done (none))))
            (optF (.done (none)) (debtqueue_items_Less K ((x2.2.2.1,((@I.add .i64 (@I.mul .i64 (I.of .i64 2) x2.1.2.2.2.1) (I.of .i64 1)),(x2.1.2.2.2.1,()))),())) fun y4 =>
            brn (bnot y4.1.1)
             (.done (brn (@inB .i64 (@I.sub .i64 (I.ofNat .i64 (@lenL S_debtqueue_item x2.2.2.1)) (I.of .i64 1)) (@lenL S_debtqueue_item x2.2.2.1))
              (brn (@inB' .i64 (@I.sub .i64 (I.ofNat .i64 (@lenL S_debtqueue_item x2.2.2.1)) (I.of .i64 1)) (@lenL S_debtqueue_item x2.2.2.1))
               (some ((x2.2.2.2.2.1,(x2.1.2.2.2.2.2.1,())),(((),x2.2.1.2),((@subL S_debtqueue_item x2.2.2.1 0 (@I.nat .i64 (@I.sub .i64 (I.ofNat .i64 (@lenL S_debtqueue_item x2.2.2.1)) (I.of .i64 1)))),()))))
               (none))
              (none)))
             (brn (@inB .i64 (@I.add .i64 (@I.mul .i64 (I.of .i64 2) x2.1.2.2.2.1) (I.of .i64 1)) (@lenL S_debtqueue_item x2.2.2.1))
              (brn (@inB .i64 x2.1.2.2.2.1 (@lenL S_debtqueue_item x2.2.2.1))
               (brn (@inB .i64 x2.1.2.2.2.1 (@lenL S_debtqueue_item x2.2.2.1))
                (brn (@inB .i64 (@I.add .i64 (@I.mul .i64 (I.of .i64 2) x2.1.2.2.2.1) (I.of .i64 1)) (@lenL S_debtqueue_item (@setL S_debtqueue_item x2.2.2.1 (@I.nat .i64 x2.1.2.2.2.1) (@rdL S_debtqueue_item Z_S_debtqueue_item x2.2.2.1 (@I.nat .i64 (@I.add .i64 (@I.mul .i64 (I.of .i64 2) x2.1.2.2.2.1) (I.of .i64 1)))))))
                 (.again (((),(x2.1.2.1,(x2.1.2.2.1,((@I.add .i64 (@I.mul .i64 (I.of .i64 2) x2.1.2.2.2.1) (I.of .i64 1)),((),(x2.1.2.2.2.2.2.1,())))))),(((),x2.2.1.2),((@setL S_debtqueue_item (@setL S_debtqueue_item x2.2.2.1 (@I.nat .i64 x2.1.2.2.2.1) (@rdL S_debtqueue_item Z_S_debtqueue_item x2.2.2.1 (@I.nat .i64 (@I.add .i64 (@I.mul .i64 (I.of .i64 2) x2.1.2.2.2.1) (I.of .i64 1))))) (@I.nat .i64 (@I.add .i64 (@I.mul .i64 (I.of .i64 2) x2.1.2.2.2.1) (I.of .i64 1))) (@rdL S_debtqueue_item Z_S_debtqueue_item x2.2.2.1 (@I.nat .i64 x2.1.2.2.2.1))),(x2.2.2.2.1,(x2.2.2.2.2.1,()))))))
                 (.done (none)))
                (.done (none)))
               (.done (none)))
              (.done (none)))))
           (optF (.done (none)) (debtqueue_items_Less K ((x2.2.2.1,((@I.add .i64 (@I.mul .i64 (I.of .i64 2) x2.1.2.2.2.1) (I.of .i64 1)),(x2.1.2.2.2.1,()))),())) fun y3 =>
           brn (bnot y3.1.1)
            (.done (brn (@inB .i64 (@I.sub .i64 (I.ofNat .i64 (@lenL S_debtqueue_item x2.2.2.1)) (I.of .i64 1)) (@lenL S_debtqueue_item x2.2.2.1))
             (brn (@inB' .i64 (@I.sub .i64 (I.ofNat .i64 (@lenL S_debtqueue_item x2.2.2.1)) (I.of .i64 1)) (@lenL S_debtqueue_item x2.2.2.1))
              (some ((x2.2.2.2.2.1,(x2.1.2.2.2.2.2.1,())),(((),x2.2.1.2),((@subL S_debtqueue_item x2.2.2.1 0 (@I.nat .i64 (@I.sub .i64 (I.ofNat .i64 (@lenL S_debtqueue_item x2.2.2.1)) (I.of .i64 1)))),()))))
              (none))
             (none)))
            (brn (@inB .i64 (@I.add .i64 (@I.mul .i64 (I.of .i64 2) x2.1.2.2.2.1) (I.of .i64 1)) (@lenL S_debtqueue_item x2.2.2.1))
             (brn (@inB .i64 x2.1.2.2.2.1 (@lenL S_debtqueue_item x2.2.2.1))
              (brn (@inB .i64 x2.1.2.2.2.1 (@lenL S_debtqueue_item x2.2.2.1))
               (brn (@inB .i64 (@I.add .i64 (@I.mul .i64 (I.of .i64 2) x2.1.2.2.2.1) (I.of .i64 1)) (@lenL S_debtqueue_item (@setL S_debtqueue_item x2.2.2.1 (@I.nat .i64 x2.1.2.2.2.1) (@rdL S_debtqueue_item Z_S_debtqueue_item x2.2.2.1 (@I.nat .i64 (@I.add .i64 (@I.mul .i64 (I.of .i64 2) x2.1.2.2.2.1) (I.of .i64 1)))))))
                (.again (((),(x2.1.2.1,(x2.1.2.2.1,((@I.add .i64 (@I.mul .i64 (I.of .i64 2) x2.1.2.2.2.1) (I.of .i64 1)),((),(x2.1.2.2.2.2.2.1,())))))),(((),x2.2.1.2),((@setL S_debtqueue_item (@setL S_debtqueue_item x2.2.2.1 (@I.nat .i64 x2.1.2.2.2.1) (@rdL S_debtqueue_item Z_S_debtqueue_item x2.2.2.1 (@I.nat .i64 (@I.add .i64 (@I.mul .i64 (I.of .i64 2) x2.1.2.2.2.1) (I.of .i64 1))))) (@I.nat .i64 (@I.add .i64 (@I.mul .i64 (I.of .i64 2) x2.1.2.2.2.1) (I.of .i64 1))) (@rdL S_debtqueue_item Z_S_debtqueue_item x2.2.2.1 (@I.nat .i64 x2.1.2.2.2.1))),(x2.2.2.2.1,(x2.2.2.2.2.1,()))))))
                (.done (none)))
               (.done (none)))
              (.done (none)))
             (.done (none)))))))
      K (((),((I.of .i64 0),((@I.sub .i64 y1.1.1 (I.of .i64 1)),((I.of .i64 0),((),(y0.1.2.1,())))))),(((),y0.2.1.2),((@setL S_debtqueue_item (@setL S_debtqueue_item y0.2.2.1 0 (@rdL S_debtqueue_item Z_S_debtqueue_item y0.2.2.1 (@I.nat .i64 (@I.sub .i64 y1.1.1 (I.of .i64 1))))) (@I.nat .i64 (@I.sub .i64 y1.1.1 (I.of .i64 1))) (@rdL S_debtqueue_item Z_S_debtqueue_item y0.2.2.1 0)),(Z_S_api_Poster,(y0.1.1,()))))))
      (none))
     (none))
    (none))
   (none))
  (some ((y0.1.1,(y0.1.2.1,())),(((),y0.2.1.2),(y0.2.2.1,()))))
noncomputable def pontagelaw0_EqualPosters (K:Nat) (x:(⟨[.pl (.sl (.cons (.int .u64) (.cons (.arr 4 (.int .u64)) (.cons (.arr 4 (.int .u64)) (.cons (.arr 4 (.int .u64)) (.cons (.arr 4 (.int .u64)) (.cons (.int .u64) .nil))))))),.pl (.sl (.cons (.int .u64) (.cons (.arr 4 (.int .u64)) (.cons (.arr 4 (.int .u64)) (.cons (.arr 4 (.int .u64)) (.cons (.arr 4 (.int .u64)) (.cons (.int .u64) .nil)))))))],[]⟩:Tm).D):Option (⟨[.pl .bool],[]⟩:Tm).D :=
 let a:(List S_api_Poster):=x.1.1
 let b:(List S_api_Poster):=x.1.2.1
 brn (@I.neb .i64 (I.ofNat .i64 (@lenL S_api_Poster a)) (I.ofNat .i64 (@lenL S_api_Poster b)))
  (some ((false,()),()))
  (iter (none) (fun x0 =>
    brn (@I.ltb .i64 x0.1.2.2.1 (I.ofNat .i64 (@lenL S_api_Poster x0.1.1)))
     (brn (@inB .i64 x0.1.2.2.1 (@lenL S_api_Poster x0.1.1))
      (brn (@inB .i64 x0.1.2.2.1 (@lenL S_api_Poster x0.1.2.1))
       (brn (bnot (Ty.eqb (.cons (.int .u64) (.cons (.arr 4 (.int .u64)) (.cons (.arr 4 (.int .u64)) (.cons (.arr 4 (.int .u64)) (.cons (.arr 4 (.int .u64)) (.cons (.int .u64) .nil)))))) (@rdL S_api_Poster Z_S_api_Poster x0.1.1 (@I.nat .i64 x0.1.2.2.1)) (@rdL S_api_Poster Z_S_api_Poster x0.1.2.1 (@I.nat .i64 x0.1.2.2.1))))
        (.done (some ((false,()),())))
        (.again ((x0.1.1,(x0.1.2.1,((@I.add .i64 x0.1.2.2.1 (I.of .i64 1)),()))),())))
       (.done (none)))
      (.done (none)))
     (.done (some ((true,()),()))))
  K ((a,(b,((I.of .i64 0),()))),()))
end Sym

/- The given functions as plain functions, as the printer told them. -/
namespace Sym
open Go
abbrev S_api_Payment:Type:=(I .u64) × (U × Unit)
noncomputable abbrev Z_S_api_Payment:S_api_Payment:=((I.of .u64 0),(Z_U,()))
noncomputable def poster_sum (K:Nat) (x:(⟨[.pl (.arr 4 (.int .u64)),.pl (.arr 4 (.int .u64))],[]⟩:Tm).D):Option (⟨[.pl (.arr 5 (.int .u64))],[]⟩:Tm).D :=
 let a:U:=x.1.1
 let b:U:=x.1.2.1
 iter (none) (fun x0 =>
   brn (@I.ltb .i64 x0.1.2.1 (I.of .i64 4))
    (brn (@inB .i64 x0.1.2.1 4)
     (brn (@inB .i64 x0.1.2.1 4)
      (optF (.done (none)) (add64F (((@Arr.sel (I .u64) (I.of .u64 0) 4 x0.2.1 (@I.nat .i64 x0.1.2.1)),((@Arr.sel (I .u64) (I.of .u64 0) 4 x0.2.2.1 (@I.nat .i64 x0.1.2.1)),(x0.1.1,()))),())) fun y1 =>
      brn (@inB .i64 x0.1.2.1 5)
       (.again ((y1.1.2.1,((@I.add .i64 x0.1.2.1 (I.of .i64 1)),())),(x0.2.1,(x0.2.2.1,(x0.2.2.2.1,((@Arr.upd (I .u64) 5 x0.2.2.2.2.1 (@I.nat .i64 x0.1.2.1) y1.1.1),()))))))
       (.done (none)))
      (.done (none)))
     (.done (none)))
    (.done (some (((x0.2.2.2.2.1.1,(x0.2.2.2.2.1.2.1,(x0.2.2.2.2.1.2.2.1,(x0.2.2.2.2.1.2.2.2.1,(x0.1.1,()))))),()),()))))
 K (((I.of .u64 0),((I.of .i64 0),())),(a,(b,(((I.of .u64 0),Z_U),(((I.of .u64 0),Z_U),())))))
noncomputable def poster_isZero (K:Nat) (x:(⟨[.pl (.arr 4 (.int .u64))],[]⟩:Tm).D):Option (⟨[.pl .bool],[]⟩:Tm).D :=
 let a:U:=x.1.1
 some (((Ty.eqb (.arr 4 (.int .u64)) a Z_U),()),())
noncomputable def poster_Valid (K:Nat) (x:(⟨[.pl (.sl (.cons (.int .u64) (.cons (.arr 4 (.int .u64)) (.cons (.arr 4 (.int .u64)) (.cons (.arr 4 (.int .u64)) (.cons (.arr 4 (.int .u64)) (.cons (.int .u64) .nil)))))))],[]⟩:Tm).D):Option (⟨[.pl .bool],[]⟩:Tm).D :=
 let a:(List S_api_Poster):=x.1.1
 iter (none) (fun x0 =>
   brn (@I.ltb .i64 x0.1.2.2.2.1 x0.1.2.2.1)
    (brn (@inB .i64 x0.1.2.2.2.1 (@lenL S_api_Poster x0.1.2.1))
     (jn (fun (x1:(((List S_api_Poster) × ((List S_api_Poster) × ((I .i64) × ((I .i64) × ((I .i64) × (Bool × (Bool × (Bool × Unit)))))))) × (S_api_Poster × Unit))) =>
       optF (.done (none)) (poster_sum K ((x1.2.1.2.1,(x1.2.1.2.2.2.2.1,())),())) fun y2 =>
       optF (.done (none)) (poster_sum K ((x1.2.1.2.2.1,(x1.2.1.2.2.2.1,())),())) fun y3 =>
       brn (bnot (Ty.eqb (.arr 5 (.int .u64)) y2.1.1 y3.1.1))
        (.done (some ((false,()),())))
        (optF (.done (none)) (poster_isZero K ((x1.2.1.2.1,()),())) fun y4 =>
        brn (bnot (Ty.eqb .bool (@I.eqb .u64 x1.2.1.2.2.2.2.2.1 (I.of .u64 0)) y4.1.1))
         (.done (some ((false,()),())))
         (.again ((x1.1.1,(x1.1.2.1,(x1.1.2.2.1,((@I.add .i64 x1.1.2.2.2.1 (I.of .i64 1)),())))),())))) fun j1 =>
     brn (@I.eqb .u64 (@rdL S_api_Poster Z_S_api_Poster x0.1.2.1 (@I.nat .i64 x0.1.2.2.2.1)).1 (I.of .u64 0))
      (.done (some ((false,()),())))
      (brn (@I.ltb .i64 (I.of .i64 0) x0.1.2.2.2.1)
       (brn (@inB .i64 (@I.sub .i64 x0.1.2.2.2.1 (I.of .i64 1)) (@lenL S_api_Poster x0.1.1))
        (brn (@I.leb .u64 (@rdL S_api_Poster Z_S_api_Poster x0.1.2.1 (@I.nat .i64 x0.1.2.2.2.1)).1 (@rdL S_api_Poster Z_S_api_Poster x0.1.1 (@I.nat .i64 (@I.sub .i64 x0.1.2.2.2.1 (I.of .i64 1)))).1)
         (.done (some ((false,()),())))
         (j1 ((x0.1.1,(x0.1.2.1,(x0.1.2.2.1,(x0.1.2.2.2.1,(x0.1.2.2.2.1,((@I.ltb .i64 (I.of .i64 0) x0.1.2.2.2.1),(true,((@I.leb .u64 (@rdL S_api_Poster Z_S_api_Poster x0.1.2.1 (@I.nat .i64 x0.1.2.2.2.1)).1 (@rdL S_api_Poster Z_S_api_Poster x0.1.1 (@I.nat .i64 (@I.sub .i64 x0.1.2.2.2.1 (I.of .i64 1)))).1),())))))))),((@rdL S_api_Poster Z_S_api_Poster x0.1.2.1 (@I.nat .i64 x0.1.2.2.2.1)),()))))
        (.done (none)))
       (j1 ((x0.1.1,(x0.1.2.1,(x0.1.2.2.1,(x0.1.2.2.2.1,(x0.1.2.2.2.1,((@I.ltb .i64 (I.of .i64 0) x0.1.2.2.2.1),(false,(false,())))))))),((@rdL S_api_Poster Z_S_api_Poster x0.1.2.1 (@I.nat .i64 x0.1.2.2.2.1)),())))))
     (.done (none)))
    (.done (some (((@I.leb .i64 (I.ofNat .i64 (@lenL S_api_Poster x0.1.1)) (I.of .i64 64)),()),()))))
 K ((a,(a,((I.ofNat .i64 (@lenL S_api_Poster a)),((I.of .i64 0),())))),())
noncomputable def payout_Plan (K:Nat) (x:(⟨[.pl (.sl (.cons (.int .u64) (.cons (.arr 4 (.int .u64)) (.cons (.arr 4 (.int .u64)) (.cons (.arr 4 (.int .u64)) (.cons (.arr 4 (.int .u64)) (.cons (.int .u64) .nil))))))),.pl (.arr 4 (.int .u64))],[]⟩:Tm).D):Option (⟨[.pl (.sl (.cons (.int .u64) (.cons (.arr 4 (.int .u64)) .nil))),.pl (.int .i64)],[]⟩:Tm).D :=
 let a:(List S_api_Poster):=x.1.1
 let b:U:=x.1.2.1
 optF (none) (poster_Valid K ((a,()),())) fun y0 =>
 brn (bnot y0.1.1)
  (some (([],((I.of .i64 2),())),()))
  (optF (none) (debtqueue_New K ((a,()),())) fun y1 =>
  optF (none) (debtqueue_Queue_Pop K ((),(((),y1.2.1.2),(y1.2.2.1,())))) fun y2 =>
  iter (none) (fun x3 =>
    jn (fun (x4:((U × (U × (Bool × Unit))) × (U × ((List S_api_Payment) × ((Unit × Unit) × ((List S_debtqueue_item) × (S_api_Poster × Unit))))))) =>
      optF (.done (none)) (uint256_Min K ((x4.2.2.2.2.2.1.2.1,((x4.2.1 :: []),())),())) fun y5 =>
      optF (.done (none)) (uint256_SaturatingSub K ((x4.2.1,(y5.1.1,())),())) fun y6 =>
      brn (fitsLen (@lenL S_api_Payment (@appL S_api_Payment x4.2.2.1 ((x4.2.2.2.2.2.1.1,(y5.1.1,())) :: []))))
       (optF (.done (none)) (debtqueue_Queue_Pop K ((),(((),x4.2.2.2.1.2),(x4.2.2.2.2.1,())))) fun y7 =>
       .again ((y7.1.2.1,()),(y6.1.1,((@appL S_api_Payment x4.2.2.1 ((x4.2.2.2.2.2.1.1,(y5.1.1,())) :: [])),(((),y7.2.1.2),(y7.2.2.1,(y7.1.1,())))))))
       (.done (none))) fun j4 =>
    brn x3.1.1
     (brn (bnot (Ty.eqb (.arr 4 (.int .u64)) x3.2.1 Z_U))
      (j4 ((x3.2.1,(Z_U,((bnot (Ty.eqb (.arr 4 (.int .u64)) x3.2.1 Z_U)),()))),(x3.2.1,(x3.2.2.1,(((),x3.2.2.2.1.2),(x3.2.2.2.2.1,(x3.2.2.2.2.2.1,())))))))
      (.done (some ((x3.2.2.1,((I.of .i64 0),())),()))))
     (.done (some ((x3.2.2.1,((I.of .i64 0),())),()))))
  K ((y2.1.2.1,()),(b,([],(((),y2.2.1.2),(y2.2.2.1,(y2.1.1,())))))))
noncomputable def pontagelaw0_EqualPayments (K:Nat) (x:(⟨[.pl (.sl (.cons (.int .u64) (.cons (.arr 4 (.int .u64)) .nil))),.pl (.sl (.cons (.int .u64) (.cons (.arr 4 (.int .u64)) .nil)))],[]⟩:Tm).D):Option (⟨[.pl .bool],[]⟩:Tm).D :=
 let a:(List S_api_Payment):=x.1.1
 let b:(List S_api_Payment):=x.1.2.1
 brn (@I.neb .i64 (I.ofNat .i64 (@lenL S_api_Payment a)) (I.ofNat .i64 (@lenL S_api_Payment b)))
  (some ((false,()),()))
  (iter (none) (fun x0 =>
    brn (@I.ltb .i64 x0.1.2.2.1 (I.ofNat .i64 (@lenL S_api_Payment x0.1.1)))
     (brn (@inB .i64 x0.1.2.2.1 (@lenL S_api_Payment x0.1.1))
      (brn (@inB .i64 x0.1.2.2.1 (@lenL S_api_Payment x0.1.2.1))
       (brn (bnot (Ty.eqb (.cons (.int .u64) (.cons (.arr 4 (.int .u64)) .nil)) (@rdL S_api_Payment Z_S_api_Payment x0.1.1 (@I.nat .i64 x0.1.2.2.1)) (@rdL S_api_Payment Z_S_api_Payment x0.1.2.1 (@I.nat .i64 x0.1.2.2.1))))
        (.done (some ((false,()),())))
        (.again ((x0.1.1,(x0.1.2.1,((@I.add .i64 x0.1.2.2.1 (I.of .i64 1)),()))),())))
       (.done (none)))
      (.done (none)))
     (.done (some ((true,()),()))))
  K ((a,(b,((I.of .i64 0),()))),()))
noncomputable def slices_Clone___api_Poster_api_Poster_ (K:Nat) (x:(⟨[.pl (.sl (.cons (.int .u64) (.cons (.arr 4 (.int .u64)) (.cons (.arr 4 (.int .u64)) (.cons (.arr 4 (.int .u64)) (.cons (.arr 4 (.int .u64)) (.cons (.int .u64) .nil)))))))],[]⟩:Tm).D):Option (⟨[.whole 0],[.row (.cons (.int .u64) (.cons (.arr 4 (.int .u64)) (.cons (.arr 4 (.int .u64)) (.cons (.arr 4 (.int .u64)) (.cons (.arr 4 (.int .u64)) (.cons (.int .u64) .nil))))))]⟩:Tm).D :=
 let a:(List S_api_Poster):=x.1.1
 brn (emptyN (@lenL S_api_Poster a))
  (both (none)
   (some ((),([],())))
   (brn (fitsLen (@lenL S_api_Poster (@appL S_api_Poster [] a)))
    (some ((),((@appL S_api_Poster [] a),())))
    (none)))
  (brn (fitsLen (@lenL S_api_Poster (@appL S_api_Poster [] a)))
   (some ((),((@appL S_api_Poster [] a),())))
   (none))
noncomputable def poster_Find (K:Nat) (x:(⟨[.pl (.sl (.cons (.int .u64) (.cons (.arr 4 (.int .u64)) (.cons (.arr 4 (.int .u64)) (.cons (.arr 4 (.int .u64)) (.cons (.arr 4 (.int .u64)) (.cons (.int .u64) .nil))))))),.pl (.int .u64)],[]⟩:Tm).D):Option (⟨[.pl (.int .i64)],[]⟩:Tm).D :=
 let a:(List S_api_Poster):=x.1.1
 let b:(I .u64):=x.1.2.1
 iter (none) (fun x0 =>
   brn (@I.ltb .i64 x0.1.2.2.2.1 x0.1.2.2.1)
    (brn (@inB .i64 x0.1.2.2.2.1 (@lenL S_api_Poster x0.1.1))
     (brn (@I.eqb .u64 (@rdL S_api_Poster Z_S_api_Poster x0.1.1 (@I.nat .i64 x0.1.2.2.2.1)).1 x0.2.1)
      (.done (some ((x0.1.2.2.2.1,()),())))
      (.again ((x0.1.1,(((),x0.1.2.1.2),(x0.1.2.2.1,((@I.add .i64 x0.1.2.2.2.1 (I.of .i64 1)),())))),(x0.2.1,()))))
     (.done (none)))
    (.done (some (((I.of .i64 (-1)),()),()))))
 K ((a,(((),()),((I.ofNat .i64 (@lenL S_api_Poster a)),((I.of .i64 0),())))),(b,()))
noncomputable def poster_Settle (K:Nat) (x:(⟨[.pl (.sl (.cons (.int .u64) (.cons (.arr 4 (.int .u64)) (.cons (.arr 4 (.int .u64)) (.cons (.arr 4 (.int .u64)) (.cons (.arr 4 (.int .u64)) (.cons (.int .u64) .nil))))))),.pl (.int .u64),.pl (.arr 4 (.int .u64))],[]⟩:Tm).D):Option (⟨[.pl (.sl (.cons (.int .u64) (.cons (.arr 4 (.int .u64)) (.cons (.arr 4 (.int .u64)) (.cons (.arr 4 (.int .u64)) (.cons (.arr 4 (.int .u64)) (.cons (.int .u64) .nil))))))),.pl (.int .i64)],[]⟩:Tm).D :=
 let a:(List S_api_Poster):=x.1.1
 let b:(I .u64):=x.1.2.1
 let c:U:=x.1.2.2.1
 optF (none) (poster_Find K ((a,(b,())),())) fun y0 =>
 optF (none) (poster_Valid K ((a,()),())) fun y1 =>
 brn (bnot y1.1.1)
  (some (([],((I.of .i64 2),())),()))
  (brn (@I.ltb .i64 y0.1.1 (I.of .i64 0))
   (some (([],((I.of .i64 8),())),()))
   (brn (@inB .i64 y0.1.1 (@lenL S_api_Poster a))
    (optF (none) (uint256_Sub (((@rdL S_api_Poster Z_S_api_Poster a (@I.nat .i64 y0.1.1)).2.1,(c,())),())) fun y2 =>
    brn (@I.neb .i64 y2.1.2.1 (I.of .i64 0))
     (some (([],((I.of .i64 10),())),()))
     (optF (none) (uint256_Add (((@rdL S_api_Poster Z_S_api_Poster a (@I.nat .i64 y0.1.1)).2.2.2.2.1,(c,())),())) fun y3 =>
     brn (@I.neb .i64 y3.1.2.1 (I.of .i64 0))
      (some (([],(y3.1.2.1,())),()))
      (jn (fun (x4:(((List S_api_Poster) × ((I .i64) × Unit)) × (S_api_Poster × Unit))) =>
        optF (none) (slices_Clone___api_Poster_api_Poster_ K ((x4.1.1,()),())) fun y5 =>
        brn (@inB .i64 x4.1.2.1 (@lenL S_api_Poster y5.2.1))
         (some (((@setL S_api_Poster y5.2.1 (@I.nat .i64 x4.1.2.1) x4.2.1),((I.of .i64 0),())),()))
         (none)) fun j4 =>
      optF (none) (poster_isZero K ((y2.1.1,()),())) fun y5 =>
      brn y5.1.1
       (j4 ((a,(y0.1.1,())),(((@rdL S_api_Poster Z_S_api_Poster a (@I.nat .i64 y0.1.1)).1,(y2.1.1,((@rdL S_api_Poster Z_S_api_Poster a (@I.nat .i64 y0.1.1)).2.2.1,((@rdL S_api_Poster Z_S_api_Poster a (@I.nat .i64 y0.1.1)).2.2.2.1,(y3.1.1,((I.of .u64 0),(@rdL S_api_Poster Z_S_api_Poster a (@I.nat .i64 y0.1.1)).2.2.2.2.2.2)))))),())))
       (j4 ((a,(y0.1.1,())),(((@rdL S_api_Poster Z_S_api_Poster a (@I.nat .i64 y0.1.1)).1,(y2.1.1,((@rdL S_api_Poster Z_S_api_Poster a (@I.nat .i64 y0.1.1)).2.2.1,((@rdL S_api_Poster Z_S_api_Poster a (@I.nat .i64 y0.1.1)).2.2.2.1,(y3.1.1,(@rdL S_api_Poster Z_S_api_Poster a (@I.nat .i64 y0.1.1)).2.2.2.2.2))))),()))))))
    (none)))
noncomputable def payout_Apply (K:Nat) (x:(⟨[.pl (.sl (.cons (.int .u64) (.cons (.arr 4 (.int .u64)) (.cons (.arr 4 (.int .u64)) (.cons (.arr 4 (.int .u64)) (.cons (.arr 4 (.int .u64)) (.cons (.int .u64) .nil))))))),.pl (.sl (.cons (.int .u64) (.cons (.arr 4 (.int .u64)) .nil)))],[]⟩:Tm).D):Option (⟨[.pl (.sl (.cons (.int .u64) (.cons (.arr 4 (.int .u64)) (.cons (.arr 4 (.int .u64)) (.cons (.arr 4 (.int .u64)) (.cons (.arr 4 (.int .u64)) (.cons (.int .u64) .nil))))))),.pl (.int .i64)],[]⟩:Tm).D :=
 let a:(List S_api_Poster):=x.1.1
 let b:(List S_api_Payment):=x.1.2.1
 optF (none) (slices_Clone___api_Poster_api_Poster_ K ((a,()),())) fun y0 =>
 iter (none) (fun x1 =>
   brn (@I.ltb .i64 x1.1.2.2.2.1 x1.1.2.2.1)
    (brn (@inB .i64 x1.1.2.2.2.1 (@lenL S_api_Payment x1.1.2.1))
     (optF (.done (none)) (poster_Settle K ((x1.1.1,((@rdL S_api_Payment Z_S_api_Payment x1.1.2.1 (@I.nat .i64 x1.1.2.2.2.1)).1,((@rdL S_api_Payment Z_S_api_Payment x1.1.2.1 (@I.nat .i64 x1.1.2.2.2.1)).2.1,()))),())) fun y2 =>
     brn (@I.neb .i64 y2.1.2.1 (I.of .i64 0))
      (.done (some (([],(y2.1.2.1,())),())))
      (.again ((y2.1.1,(x1.1.2.1,(x1.1.2.2.1,((@I.add .i64 x1.1.2.2.2.1 (I.of .i64 1)),())))),())))
     (.done (none)))
    (.done (some ((x1.1.1,((I.of .i64 0),())),()))))
 K ((y0.2.1,(b,((I.ofNat .i64 (@lenL S_api_Payment b)),((I.of .i64 0),())))),())
noncomputable def payout_Sum (K:Nat) (x:(⟨[.pl (.sl (.cons (.int .u64) (.cons (.arr 4 (.int .u64)) .nil)))],[]⟩:Tm).D):Option (⟨[.pl (.arr 4 (.int .u64)),.pl (.int .i64)],[]⟩:Tm).D :=
 let a:(List S_api_Payment):=x.1.1
 iter (none) (fun x0 =>
   brn (@I.ltb .i64 x0.1.2.2.1 x0.1.2.1)
    (brn (@inB .i64 x0.1.2.2.1 (@lenL S_api_Payment x0.1.1))
     (optF (.done (none)) (uint256_Add ((x0.2.2.1,((@rdL S_api_Payment Z_S_api_Payment x0.1.1 (@I.nat .i64 x0.1.2.2.1)).2.1,())),())) fun y1 =>
     brn (@I.neb .i64 y1.1.2.1 (I.of .i64 0))
      (.done (some ((Z_U,(y1.1.2.1,())),())))
      (.again ((x0.1.1,(x0.1.2.1,((@I.add .i64 x0.1.2.2.1 (I.of .i64 1)),()))),(x0.2.1,(y1.1.1,())))))
     (.done (none)))
    (.done (some ((x0.2.2.1,((I.of .i64 0),())),()))))
 K ((a,((I.ofNat .i64 (@lenL S_api_Payment a)),((I.of .i64 0),()))),(Z_U,(Z_U,())))
noncomputable def poster_TotalDue (K:Nat) (x:(⟨[.pl (.sl (.cons (.int .u64) (.cons (.arr 4 (.int .u64)) (.cons (.arr 4 (.int .u64)) (.cons (.arr 4 (.int .u64)) (.cons (.arr 4 (.int .u64)) (.cons (.int .u64) .nil)))))))],[]⟩:Tm).D):Option (⟨[.pl (.arr 4 (.int .u64)),.pl (.int .i64)],[]⟩:Tm).D :=
 let a:(List S_api_Poster):=x.1.1
 optF (none) (poster_Valid K ((a,()),())) fun y0 =>
 brn (bnot y0.1.1)
  (some ((Z_U,((I.of .i64 2),())),()))
  (iter (none) (fun x1 =>
    brn (@I.ltb .i64 x1.1.2.2.1 x1.1.2.1)
     (brn (@inB .i64 x1.1.2.2.1 (@lenL S_api_Poster x1.1.1))
      (optF (.done (none)) (uint256_Add ((x1.2.2.1,((@rdL S_api_Poster Z_S_api_Poster x1.1.1 (@I.nat .i64 x1.1.2.2.1)).2.1,())),())) fun y2 =>
      brn (@I.neb .i64 y2.1.2.1 (I.of .i64 0))
       (.done (some ((Z_U,(y2.1.2.1,())),())))
       (.again ((x1.1.1,(x1.1.2.1,((@I.add .i64 x1.1.2.2.1 (I.of .i64 1)),()))),(x1.2.1,(y2.1.1,())))))
      (.done (none)))
     (.done (some ((x1.2.2.1,((I.of .i64 0),())),()))))
  K ((a,((I.ofNat .i64 (@lenL S_api_Poster a)),((I.of .i64 0),()))),(Z_U,(Z_U,()))))
end Sym

/- slices.Insert at a slice of posters, as a plain function. -/
namespace Sym
open Go
abbrev pT18:Ty:=.cons (.int .u64) (.cons (.arr 4 (.int .u64)) (.cons (.arr 4 (.int .u64)) (.cons (.arr 4 (.int .u64)) (.cons (.arr 4 (.int .u64)) (.cons (.int .u64) .nil)))))
noncomputable def insertF (x:(⟨[.whole 0,.pl (.int .i64),.whole 1],[.row pT18,.row pT18]⟩:Tm).D):Option (⟨[.whole 0],[.row pT18]⟩:Tm).D :=
  let i:I .i64:=x.1.1
  let l:List pT18.D:=x.2.1
  let ys:List pT18.D:=x.2.2.1
  brn (inB' i (lenL l)) (brn (Nat.ble 1 (lenL ys)) (brn (fitsLen (lenL l + lenL ys)) (some ((),(subL l 0 (I.nat i) ++ ys ++ subL l (I.nat i) (lenL l - I.nat i),()))) none) none) none
noncomputable def insertC:Con:=⟨⟨[.whole 0,.pl (.int .i64),.whole 1],[.row pT18,.row pT18]⟩,⟨[.whole 0],[.row pT18]⟩,insertF⟩
end Sym

/- The given functions as plain functions, as the printer told them. -/
namespace Sym
open Go
noncomputable def KS_0001020203030303_256_633d86:List (I .u8):=bytesL [0,1,2,2,3,3,3,3,4,4,4,4,4,4,4,4,5,5,5,5,5,5,5,5,5,5,5,5,5,5,5,5,6,6,6,6,6,6,6,6,6,6,6,6,6,6,6,6,6,6,6,6,6,6,6,6,6,6,6,6,6,6,6,6,7,7,7,7,7,7,7,7,7,7,7,7,7,7,7,7,7,7,7,7,7,7,7,7,7,7,7,7,7,7,7,7,7,7,7,7,7,7,7,7,7,7,7,7,7,7,7,7,7,7,7,7,7,7,7,7,7,7,7,7,7,7,7,7,8,8,8,8,8,8,8,8,8,8,8,8,8,8,8,8,8,8,8,8,8,8,8,8,8,8,8,8,8,8,8,8,8,8,8,8,8,8,8,8,8,8,8,8,8,8,8,8,8,8,8,8,8,8,8,8,8,8,8,8,8,8,8,8,8,8,8,8,8,8,8,8,8,8,8,8,8,8,8,8,8,8,8,8,8,8,8,8,8,8,8,8,8,8,8,8,8,8,8,8,8,8,8,8,8,8,8,8,8,8,8,8,8,8,8,8,8,8,8,8,8,8,8,8,8,8,8,8]
abbrev S_api_Int256:Type:=Bool × (U × Unit)
noncomputable abbrev Z_S_api_Int256:S_api_Int256:=(false,(Z_U,()))
abbrev S_api_Report:Type:=(I .u64) × S_api_Payment
abbrev S_pricer_Outcome:Type:=(I .u64) × (U × ((List S_api_Payment) × Unit))
abbrev S_api_Params:Type:=(I .u64) × ((I .u64) × ((I .u64) × (U × ((I .u64) × (U × ((I .u64) × (U × U)))))))
noncomputable abbrev Z_S_api_Params:S_api_Params:=((I.of .u64 0),((I.of .u64 0),((I.of .u64 0),(Z_U,((I.of .u64 0),(Z_U,((I.of .u64 0),(Z_U,Z_U))))))))
abbrev S_api_Pricer:Type:=U × ((I .u64) × ((I .u64) × ((I .u64) × (S_api_Int256 × ((List S_api_Poster) × Unit)))))
abbrev Y_api_Int256:Ty:=.cons .bool (.cons u256 .nil)
abbrev Y_api_Payment:Ty:=.cons (.int .u64) (.cons u256 .nil)
abbrev Y_api_Report:Ty:=.cons (.int .u64) Y_api_Payment
abbrev Y_runtime_boundsError:Ty:=.cons (.int .i64) (.cons (.int .i64) (.cons .bool (.cons (.int .u8) .nil)))
abbrev Y_pricer_Outcome:Ty:=.cons (.int .u64) (.cons u256 (.cons (.sl Y_api_Payment) .nil))
abbrev Y_api_Poster:Ty:=.cons (.int .u64) (.cons u256 (.cons u256 (.cons u256 (.cons u256 (.cons (.int .u64) .nil)))))
abbrev Y_debtqueue_item:Ty:=.cons Y_api_Poster (.cons (.int .i64) .nil)
abbrev Y_debtqueue_Queue:Ty:=.cons (.sl Y_debtqueue_item) .nil
abbrev Y_api_Params:Ty:=.cons (.int .u64) (.cons (.int .u64) (.cons (.int .u64) (.cons u256 (.cons (.int .u64) (.cons u256 (.cons (.int .u64) (.cons u256 (.cons (.int .u64) (.cons (.int .u64) (.cons (.int .u64) (.cons (.int .u64) .nil)))))))))))
abbrev Y_api_Pricer:Ty:=.cons u256 (.cons (.int .u64) (.cons (.int .u64) (.cons (.int .u64) (.cons Y_api_Int256 (.cons (.sl Y_api_Poster) .nil)))))
noncomputable def pricer_Genesis (K:Nat) (x:(⟨[],[]⟩:Tm).D):Option (⟨[.pl Y_api_Pricer],[]⟩:Tm).D :=
 optF (none) (uint256_FromUint64 K (((I.of .u64 1000000000),()),())) fun y0 =>
 some (((y0.1.1,((I.of .u64 0),((I.of .u64 0),((I.of .u64 0),(Z_S_api_Int256,([],())))))),()),())
noncomputable def pricer_Valid (K:Nat) (x:(⟨[.pl Y_api_Pricer],[]⟩:Tm).D):Option (⟨[.pl .bool],[]⟩:Tm).D :=
 let a:S_api_Pricer:=x.1.1
 iter (none) (fun x0 =>
   brn (@I.ltb .i64 x0.1.2.2.1 x0.1.2.1)
    (brn (@inB .i64 x0.1.2.2.1 (@lenL S_api_Poster x0.1.1))
     (brn (@I.ltb .u64 x0.2.1.2.2.2.1 (@rdL S_api_Poster Z_S_api_Poster x0.1.1 (@I.nat .i64 x0.1.2.2.1)).2.2.2.2.2.1)
      (.done (some ((false,()),())))
      (.again ((x0.1.1,(x0.1.2.1,((@I.add .i64 x0.1.2.2.1 (I.of .i64 1)),()))),(x0.2.1,()))))
     (.done (none)))
    (.done (optF (none) (poster_Valid K ((x0.2.1.2.2.2.2.2.1,()),())) fun y1 =>
    brn y1.1.1
     (optF (none) (int256_Valid K ((x0.2.1.2.2.2.2.1,()),())) fun y2 =>
     some ((y2.1.1,()),()))
     (some ((false,()),())))))
 K ((a.2.2.2.2.2.1,((I.ofNat .i64 (@lenL S_api_Poster a.2.2.2.2.2.1)),((I.of .i64 0),()))),(a,()))
noncomputable def poster_Add (K:Nat) (x:(⟨[.pl (.sl Y_api_Poster),.pl (.int .u64)],[]⟩:Tm).D):Option (⟨[.pl (.sl Y_api_Poster),.pl (.int .i64)],[]⟩:Tm).D :=
 let a:(List S_api_Poster):=x.1.1
 let b:(I .u64):=x.1.2.1
 jn (fun (x0:(((List S_api_Poster) × ((I .u64) × Unit)) × Unit)) =>
   jn (fun (x1:(((List S_api_Poster) × ((I .u64) × ((I .i64) × Unit))) × Unit)) =>
     optF (none) (slices_Clone___api_Poster_api_Poster_ K ((x1.1.1,()),())) fun y2 =>
     optF (none) (insertF ((x1.1.2.2.1,()),(y2.2.1,(((x1.1.2.1,(Z_U,(Z_U,(Z_U,(Z_U,((I.of .u64 0),())))))) :: []),())))) fun y3 =>
     some ((y3.2.1,((I.of .i64 0),())),())) fun j1 =>
   iter (none) (fun x2 =>
     brn (@I.ltb .i64 x2.1.2.2.1 (I.ofNat .i64 (@lenL S_api_Poster x2.1.1)))
      (brn (@inB .i64 x2.1.2.2.1 (@lenL S_api_Poster x2.1.1))
       (brn (@I.ltb .u64 (@rdL S_api_Poster Z_S_api_Poster x2.1.1 (@I.nat .i64 x2.1.2.2.1)).1 x2.1.2.1)
        (.again ((x2.1.1,(x2.1.2.1,((@I.add .i64 x2.1.2.2.1 (I.of .i64 1)),()))),()))
        (.done (j1 ((x2.1.1,(x2.1.2.1,(x2.1.2.2.1,()))),()))))
       (.done (none)))
      (.done (j1 ((x2.1.1,(x2.1.2.1,(x2.1.2.2.1,()))),()))))
   K ((x0.1.1,(x0.1.2.1,((I.of .i64 0),()))),())) fun j0 =>
 jn (fun (x1:(((List S_api_Poster) × ((I .u64) × (Bool × Unit))) × Unit)) =>
   brn x1.1.2.2.1
    (some (([],((I.of .i64 2),())),()))
    (optF (none) (poster_Find K ((x1.1.1,(x1.1.2.1,())),())) fun y2 =>
    brn (@I.leb .i64 (I.of .i64 0) y2.1.1)
     (some (([],((I.of .i64 9),())),()))
     (brn (@I.eqb .i64 (I.ofNat .i64 (@lenL S_api_Poster x1.1.1)) (I.of .i64 64))
      (some (([],((I.of .i64 7),())),()))
      (j0 ((x1.1.1,(x1.1.2.1,())),()))))) fun j1 =>
 optF (none) (poster_Valid K ((a,()),())) fun y2 =>
 brn (bnot y2.1.1)
  (j1 ((a,(b,(true,()))),()))
  (j1 ((a,(b,((@I.eqb .u64 b (I.of .u64 0)),()))),()))
noncomputable def pricer_AddPoster (K:Nat) (x:(⟨[.pl Y_api_Pricer,.pl (.int .u64)],[]⟩:Tm).D):Option (⟨[.pl Y_api_Pricer,.pl (.int .i64)],[]⟩:Tm).D :=
 let a:S_api_Pricer:=x.1.1
 let b:(I .u64):=x.1.2.1
 optF (none) (pricer_Valid K ((a,()),())) fun y0 =>
 brn (bnot y0.1.1)
  (some (((Z_U,((I.of .u64 0),((I.of .u64 0),((I.of .u64 0),(Z_S_api_Int256,([],())))))),((I.of .i64 2),())),()))
  (optF (none) (poster_Add K ((a.2.2.2.2.2.1,(b,())),())) fun y1 =>
  brn (@I.neb .i64 y1.1.2.1 (I.of .i64 0))
   (some (((Z_U,((I.of .u64 0),((I.of .u64 0),((I.of .u64 0),(Z_S_api_Int256,([],())))))),(y1.1.2.1,())),()))
   (some (((a.1,(a.2.1,(a.2.2.1,(a.2.2.2.1,(a.2.2.2.2.1,(y1.1.1,a.2.2.2.2.2.2)))))),((I.of .i64 0),())),())))
noncomputable def math_bits_Len64 (K:Nat) (x:(⟨[.pl (.int .u64)],[]⟩:Tm).D):Option (⟨[.pl (.int .i64)],[]⟩:Tm).D :=
 let a:(I .u64):=x.1.1
 jn (fun (x0:(((I .u64) × ((I .i64) × Unit)) × Unit)) =>
   jn (fun (x1:(((I .u64) × ((I .i64) × Unit)) × Unit)) =>
     brn (@I.leb .u64 (I.of .u64 256) x1.1.1)
      (brn (@inB .u8 (I.conv (k:=.u64) .u8 (@I.shr .u64 .u64 x1.1.1 (I.of .u64 8))) 256)
       (some (((@I.add .i64 (@I.add .i64 x1.1.2.1 (I.of .i64 8)) (I.conv (k:=.u8) .i64 (@rdL (I .u8) (I.of .u8 0) KS_0001020203030303_256_633d86 (@I.nat .u8 (I.conv (k:=.u64) .u8 (@I.shr .u64 .u64 x1.1.1 (I.of .u64 8))))))),()),()))
       (none))
      (brn (@inB .u8 (I.conv (k:=.u64) .u8 x1.1.1) 256)
       (some (((@I.add .i64 x1.1.2.1 (I.conv (k:=.u8) .i64 (@rdL (I .u8) (I.of .u8 0) KS_0001020203030303_256_633d86 (@I.nat .u8 (I.conv (k:=.u64) .u8 x1.1.1))))),()),()))
       (none))) fun j1 =>
   brn (@I.leb .u64 (I.of .u64 65536) x0.1.1)
    (j1 (((@I.shr .u64 .u64 x0.1.1 (I.of .u64 16)),((@I.add .i64 x0.1.2.1 (I.of .i64 16)),())),()))
    (j1 ((x0.1.1,(x0.1.2.1,())),()))) fun j0 =>
 brn (@I.leb .u64 (I.of .u64 4294967296) a)
  (j0 (((@I.shr .u64 .u64 a (I.of .u64 32)),((I.of .i64 32),())),()))
  (j0 ((a,((I.of .i64 0),())),()))
noncomputable def uint256_BitLen (K:Nat) (x:(⟨[.pl u256],[]⟩:Tm).D):Option (⟨[.pl (.int .i64)],[]⟩:Tm).D :=
 let a:U:=x.1.1
 iter (none) (fun x0 =>
   brn (@I.leb .i64 (I.of .i64 0) x0.1.1)
    (brn (@inB .i64 x0.1.1 4)
     (brn (@I.neb .u64 (@Arr.sel (I .u64) (I.of .u64 0) 4 x0.2.1 (@I.nat .i64 x0.1.1)) (I.of .u64 0))
      (brn (@inB .i64 x0.1.1 4)
       (optF (.done (none)) (math_bits_Len64 K (((@Arr.sel (I .u64) (I.of .u64 0) 4 x0.2.1 (@I.nat .i64 x0.1.1)),()),())) fun y1 =>
       .done (some (((@I.add .i64 (@I.mul .i64 (I.of .i64 64) x0.1.1) y1.1.1),()),())))
       (.done (none)))
      (.again (((@I.sub .i64 x0.1.1 (I.of .i64 1)),()),(x0.2.1,()))))
     (.done (none)))
    (.done (some (((I.of .i64 0),()),()))))
 K (((I.of .i64 3),()),(a,()))
noncomputable def pricer_checkReport (K:Nat) (x:(⟨[.pl Y_api_Pricer,.pl Y_api_Params,.pl Y_api_Report,.pl (.int .u64)],[]⟩:Tm).D):Option (⟨[.pl (.int .i64)],[]⟩:Tm).D :=
 let a:S_api_Pricer:=x.1.1
 let b:S_api_Params:=x.1.2.1
 let c:S_api_Report:=x.1.2.2.1
 let d:(I .u64):=x.1.2.2.2.1
 optF (none) (pricer_Valid K ((a,()),())) fun y0 =>
 brn (bnot y0.1.1)
  (some (((I.of .i64 2),()),()))
  (optF (none) (params_Valid K ((b,()),())) fun y1 =>
  brn (bnot y1.1.1)
   (some (((I.of .i64 15),()),()))
   (optF (none) (poster_Find K ((a.2.2.2.2.2.1,(c.1,())),())) fun y2 =>
   brn (@I.ltb .i64 y2.1.1 (I.of .i64 0))
    (some (((I.of .i64 8),()),()))
    (jn (fun (x3:((Bool × Unit) × (S_api_Pricer × (S_api_Report × Unit)))) =>
      brn x3.1.1
       (some (((I.of .i64 14),()),()))
       (optF (none) (uint256_BitLen K ((x3.2.2.1.2.2.1,()),())) fun y4 =>
       brn (@I.ltb .i64 (I.of .i64 128) y4.1.1)
        (some (((I.of .i64 2),()),()))
        (brn (@I.eqb .u64 x3.2.1.2.2.2.1 (I.of .u64 18446744073709551615))
         (some (((I.of .i64 4),()),()))
         (some (((I.of .i64 0),()),()))))) fun j3 =>
    brn (@I.ltb .u64 c.2.1 a.2.2.1)
     (j3 ((true,()),(a,(c,()))))
     (j3 (((@I.ltb .u64 d c.2.1),()),(a,(c,())))))))
noncomputable def alloc_Allocate (K:Nat) (x:(⟨[.pl (.int .u64),.pl (.int .u64),.pl (.int .u64),.pl (.int .u64)],[]⟩:Tm).D):Option (⟨[.pl (.int .u64),.pl (.int .i64)],[]⟩:Tm).D :=
 let a:(I .u64):=x.1.1
 let b:(I .u64):=x.1.2.1
 let c:(I .u64):=x.1.2.2.1
 let d:(I .u64):=x.1.2.2.2.1
 jn (fun (x0:(U × Unit)) =>
   optF (none) (uint256_FromUint64 K ((x0.1.1,()),())) fun y1 =>
   optF (none) (uint256_FromUint64 K (((@I.sub .u64 x0.1.2.2.1 x0.1.2.1),()),())) fun y2 =>
   optF (none) (uint256_FromUint64 K (((@I.sub .u64 x0.1.2.2.2.1 x0.1.2.1),()),())) fun y3 =>
   optF (none) (muldiv_MulDivFloor K ((y1.1.1,(y2.1.1,(y3.1.1,()))),())) fun y4 =>
   some ((y4.1.1.1,(y4.1.2.1,())),())) fun j0 =>
 jn (fun (x1:(((I .u64) × ((I .u64) × ((I .u64) × ((I .u64) × (Bool × Unit))))) × Unit)) =>
   brn x1.1.2.2.2.2.1
    (some (((I.of .u64 0),((I.of .i64 14),())),()))
    (brn (@I.eqb .u64 x1.1.2.2.2.1 x1.1.2.1)
     (some ((x1.1.1,((I.of .i64 0),())),()))
     (j0 ((x1.1.1,(x1.1.2.1,(x1.1.2.2.1,(x1.1.2.2.2.1,())))),())))) fun j1 =>
 brn (@I.ltb .u64 c b)
  (j1 ((a,(b,(c,(d,(true,()))))),()))
  (j1 ((a,(b,(c,(d,((@I.ltb .u64 d c),()))))),()))
noncomputable def pricer_allocate (K:Nat) (x:(⟨[.pl Y_api_Pricer,.pl Y_api_Params,.pl Y_api_Report,.pl (.int .u64)],[]⟩:Tm).D):Option (⟨[.pl Y_pricer_Outcome,.pl (.int .i64)],[]⟩:Tm).D :=
 let a:S_api_Pricer:=x.1.1
 let b:S_api_Params:=x.1.2.1
 let c:S_api_Report:=x.1.2.2.1
 let d:(I .u64):=x.1.2.2.2.1
 optF (none) (alloc_Allocate K ((a.2.1,(a.2.2.1,(c.2.1,(d,())))),())) fun y0 =>
 brn (@I.neb .i64 y0.1.2.1 (I.of .i64 0))
  (some ((((I.of .u64 0),(Z_U,([],()))),(y0.1.2.1,())),()))
  (optF (none) (uint256_FromUint64 K ((y0.1.1,()),())) fun y1 =>
  optF (none) (uint256_Mul K ((b.2.2.2.2.2.2.2.1,(y1.1.1,())),())) fun y2 =>
  brn (@I.neb .i64 y2.1.2.1 (I.of .i64 0))
   (some ((((I.of .u64 0),(Z_U,([],()))),(y2.1.2.1,())),()))
   (some (((y0.1.1,(y2.1.1,([],()))),((I.of .i64 0),())),())))
noncomputable def poster_Accrue (K:Nat) (x:(⟨[.pl (.sl Y_api_Poster),.pl (.int .u64),.pl u256,.pl u256,.pl (.int .u64)],[]⟩:Tm).D):Option (⟨[.pl (.sl Y_api_Poster),.pl (.int .i64)],[]⟩:Tm).D :=
 let a:(List S_api_Poster):=x.1.1
 let b:(I .u64):=x.1.2.1
 let c:U:=x.1.2.2.1
 let d:U:=x.1.2.2.2.1
 let e:(I .u64):=x.1.2.2.2.2.1
 optF (none) (poster_Find K ((a,(b,())),())) fun y0 =>
 jn (fun (x1:(((List S_api_Poster) × ((I .u64) × ((I .i64) × Unit))) × (U × (U × Unit)))) =>
   brn (@inB .i64 x1.1.2.2.1 (@lenL S_api_Poster x1.1.1))
    (optF (none) (uint256_Add ((x1.2.1,(x1.2.2.1,())),())) fun y2 =>
    optF (none) (uint256_Add (((@rdL S_api_Poster Z_S_api_Poster x1.1.1 (@I.nat .i64 x1.1.2.2.1)).2.1,(y2.1.1,())),())) fun y3 =>
    optF (none) (uint256_Add (((@rdL S_api_Poster Z_S_api_Poster x1.1.1 (@I.nat .i64 x1.1.2.2.1)).2.2.1,(x1.2.1,())),())) fun y4 =>
    optF (none) (uint256_Add (((@rdL S_api_Poster Z_S_api_Poster x1.1.1 (@I.nat .i64 x1.1.2.2.1)).2.2.2.1,(x1.2.2.1,())),())) fun y5 =>
    jn (fun (x6:(((List S_api_Poster) × ((I .u64) × ((I .i64) × Unit))) × (S_api_Poster × (U × (U × (U × Unit)))))) =>
      jn (fun (x7:(((List S_api_Poster) × ((I .i64) × Unit)) × (S_api_Poster × (U × (U × (U × Unit)))))) =>
        optF (none) (slices_Clone___api_Poster_api_Poster_ K ((x7.1.1,()),())) fun y8 =>
        brn (@inB .i64 x7.1.2.1 (@lenL S_api_Poster y8.2.1))
         (some (((@setL S_api_Poster y8.2.1 (@I.nat .i64 x7.1.2.1) (x7.2.1.1,(x7.2.2.1,(x7.2.2.2.1,(x7.2.2.2.2.1,x7.2.1.2.2.2.2))))),((I.of .i64 0),())),()))
         (none)) fun j7 =>
      optF (none) (poster_isZero K ((x6.2.1.2.1,()),())) fun y8 =>
      brn y8.1.1
       (optF (none) (poster_isZero K ((x6.2.2.1,()),())) fun y9 =>
       brn (bnot y9.1.1)
        (j7 ((x6.1.1,(x6.1.2.2.1,())),((x6.2.1.1,(x6.2.1.2.1,(x6.2.1.2.2.1,(x6.2.1.2.2.2.1,(x6.2.1.2.2.2.2.1,(x6.1.2.1,x6.2.1.2.2.2.2.2.2)))))),(x6.2.2.1,(x6.2.2.2.1,(x6.2.2.2.2.1,()))))))
        (j7 ((x6.1.1,(x6.1.2.2.1,())),(x6.2.1,(x6.2.2.1,(x6.2.2.2.1,(x6.2.2.2.2.1,())))))))
       (j7 ((x6.1.1,(x6.1.2.2.1,())),(x6.2.1,(x6.2.2.1,(x6.2.2.2.1,(x6.2.2.2.2.1,()))))))) fun j6 =>
    brn (@I.neb .i64 y2.1.2.1 (I.of .i64 0))
     (some (([],((I.of .i64 4),())),()))
     (brn (@I.neb .i64 y3.1.2.1 (I.of .i64 0))
      (some (([],((I.of .i64 4),())),()))
      (brn (@I.neb .i64 y4.1.2.1 (I.of .i64 0))
       (some (([],((I.of .i64 4),())),()))
       (brn (@I.neb .i64 y5.1.2.1 (I.of .i64 0))
        (some (([],((I.of .i64 4),())),()))
        (j6 ((x1.1.1,(x1.1.2.1,(x1.1.2.2.1,()))),((@rdL S_api_Poster Z_S_api_Poster x1.1.1 (@I.nat .i64 x1.1.2.2.1)),(y3.1.1,(y4.1.1,(y5.1.1,()))))))))))
    (none)) fun j1 =>
 jn (fun (x2:(((List S_api_Poster) × ((I .u64) × ((I .i64) × (Bool × Unit)))) × (U × (U × Unit)))) =>
   brn x2.1.2.2.2.1
    (some (([],((I.of .i64 2),())),()))
    (brn (@I.ltb .i64 x2.1.2.2.1 (I.of .i64 0))
     (some (([],((I.of .i64 8),())),()))
     (j1 ((x2.1.1,(x2.1.2.1,(x2.1.2.2.1,()))),(x2.2.1,(x2.2.2.1,())))))) fun j2 =>
 optF (none) (poster_Valid K ((a,()),())) fun y3 =>
 brn (bnot y3.1.1)
  (j2 ((a,(e,(y0.1.1,(true,())))),(c,(d,()))))
  (j2 ((a,(e,(y0.1.1,((@I.eqb .u64 e (I.of .u64 0)),())))),(c,(d,()))))
noncomputable def pricer_adjust (K:Nat) (x:(⟨[.pl Y_api_Pricer,.pl Y_api_Params,.pl u256,.pl Y_pricer_Outcome],[]⟩:Tm).D):Option (⟨[.pl Y_api_Pricer,.pl (.int .i64)],[]⟩:Tm).D :=
 let a:S_api_Pricer:=x.1.1
 let b:S_api_Params:=x.1.2.1
 let c:U:=x.1.2.2.1
 let d:S_pricer_Outcome:=x.1.2.2.2.1
 optF (none) (payout_Sum K ((d.2.2.1,()),())) fun y0 =>
 brn (@I.neb .i64 y0.1.2.1 (I.of .i64 0))
  (some (((Z_U,((I.of .u64 0),((I.of .u64 0),((I.of .u64 0),(Z_S_api_Int256,([],())))))),(y0.1.2.1,())),()))
  (optF (none) (poster_TotalDue K ((a.2.2.2.2.2.1,()),())) fun y1 =>
  brn (@I.neb .i64 y1.1.2.1 (I.of .i64 0))
   (some (((Z_U,((I.of .u64 0),((I.of .u64 0),((I.of .u64 0),(Z_S_api_Int256,([],())))))),(y1.1.2.1,())),()))
   (brn (@I.eqb .u64 d.1 (I.of .u64 0))
    (some ((a,((I.of .i64 0),())),()))
    (optF (none) (uint256_SaturatingSub K ((c,(y0.1.1,())),())) fun y2 =>
    optF (none) (l1price_Surplus K ((y2.1.1,(y1.1.1,())),())) fun y3 =>
    optF (none) (l1price_Next K ((a.1,(y3.1.1,(a.2.2.2.2.1,(d.1,(b,()))))),())) fun y4 =>
    brn (@I.neb .i64 y4.1.2.1 (I.of .i64 0))
     (some (((Z_U,((I.of .u64 0),((I.of .u64 0),((I.of .u64 0),(Z_S_api_Int256,([],())))))),(y4.1.2.1,())),()))
     (some (((y4.1.1,(a.2.1,(a.2.2.1,(a.2.2.2.1,(y3.1.1,a.2.2.2.2.2))))),((I.of .i64 0),())),())))))
noncomputable def pricer_Report (K:Nat) (x:(⟨[.pl Y_api_Pricer,.pl Y_api_Params,.pl u256,.pl Y_api_Report,.pl (.int .u64)],[]⟩:Tm).D):Option (⟨[.pl Y_api_Pricer,.pl Y_pricer_Outcome,.pl (.int .i64)],[]⟩:Tm).D :=
 let a:S_api_Pricer:=x.1.1
 let b:S_api_Params:=x.1.2.1
 let c:U:=x.1.2.2.1
 let d:S_api_Report:=x.1.2.2.2.1
 let e:(I .u64):=x.1.2.2.2.2.1
 optF (none) (pricer_checkReport K ((a,(b,(d,(e,())))),())) fun y0 =>
 brn (@I.neb .i64 y0.1.1 (I.of .i64 0))
  (some (((Z_U,((I.of .u64 0),((I.of .u64 0),((I.of .u64 0),(Z_S_api_Int256,([],())))))),(((I.of .u64 0),(Z_U,([],()))),(y0.1.1,()))),()))
  (optF (none) (pricer_allocate K ((a,(b,(d,(e,())))),())) fun y1 =>
  jn (fun (x2:(((I .i64) × Unit) × (S_api_Pricer × (S_api_Params × (U × (S_api_Report × (S_api_Pricer × (S_pricer_Outcome × (S_pricer_Outcome × Unit))))))))) =>
    jn (fun (x3:(((I .i64) × Unit) × (S_api_Pricer × (S_api_Params × (U × (S_api_Report × (S_api_Pricer × (S_pricer_Outcome × (S_pricer_Outcome × Unit))))))))) =>
      jn (fun (x4:(((I .i64) × Unit) × (S_api_Pricer × (S_api_Params × (U × (S_api_Report × (S_api_Pricer × (S_pricer_Outcome × (S_pricer_Outcome × Unit))))))))) =>
        jn (fun (x5:(((I .i64) × Unit) × (S_api_Pricer × (S_api_Report × (S_api_Pricer × (S_pricer_Outcome × (S_pricer_Outcome × Unit))))))) =>
          brn (@I.neb .i64 x5.1.1 (I.of .i64 0))
           (some (((Z_U,((I.of .u64 0),((I.of .u64 0),((I.of .u64 0),(Z_S_api_Int256,([],())))))),(((I.of .u64 0),(Z_U,([],()))),(x5.1.1,()))),()))
           (some (((x5.2.1.1,((@I.sub .u64 x5.2.1.2.1 x5.2.2.2.2.2.1.1),(x5.2.2.1.2.1,x5.2.1.2.2.2))),(x5.2.2.2.2.2.1,((I.of .i64 0),()))),()))) fun j5 =>
        brn (@I.eqb .i64 x4.1.1 (I.of .i64 0))
         (optF (none) (pricer_adjust K ((x4.2.1,(x4.2.2.1,(x4.2.2.2.1,(x4.2.2.2.2.2.2.2.1,())))),())) fun y6 =>
         j5 ((y6.1.2.1,()),(y6.1.1,(x4.2.2.2.2.1,(x4.2.2.2.2.2.1,(x4.2.2.2.2.2.2.1,(x4.2.2.2.2.2.2.2.1,())))))))
         (j5 ((x4.1.1,()),(x4.2.1,(x4.2.2.2.2.1,(x4.2.2.2.2.2.1,(x4.2.2.2.2.2.2.1,(x4.2.2.2.2.2.2.2.1,())))))))) fun j4 =>
      brn (@I.eqb .i64 x3.1.1 (I.of .i64 0))
       (optF (none) (payout_Apply K ((x3.2.1.2.2.2.2.2.1,(x3.2.2.2.2.2.2.2.1.2.2.1,())),())) fun y5 =>
       j4 ((y5.1.2.1,()),((x3.2.1.1,(x3.2.1.2.1,(x3.2.1.2.2.1,(x3.2.1.2.2.2.1,(x3.2.1.2.2.2.2.1,(y5.1.1,x3.2.1.2.2.2.2.2.2)))))),(x3.2.2.1,(x3.2.2.2.1,(x3.2.2.2.2.1,(x3.2.2.2.2.2.1,(x3.2.2.2.2.2.2.1,(x3.2.2.2.2.2.2.2.1,())))))))))
       (j4 ((x3.1.1,()),(x3.2.1,(x3.2.2.1,(x3.2.2.2.1,(x3.2.2.2.2.1,(x3.2.2.2.2.2.1,(x3.2.2.2.2.2.2.1,(x3.2.2.2.2.2.2.2.1,())))))))))) fun j3 =>
    brn (@I.eqb .i64 x2.1.1 (I.of .i64 0))
     (optF (none) (payout_Plan K ((x2.2.1.2.2.2.2.2.1,(x2.2.2.2.1,())),())) fun y4 =>
     j3 ((y4.1.2.1,()),(x2.2.1,(x2.2.2.1,(x2.2.2.2.1,(x2.2.2.2.2.1,(x2.2.2.2.2.2.1,(x2.2.2.2.2.2.2.1,((x2.2.2.2.2.2.2.2.1.1,(x2.2.2.2.2.2.2.2.1.2.1,(y4.1.1,x2.2.2.2.2.2.2.2.1.2.2.2))),())))))))))
     (j3 ((x2.1.1,()),(x2.2.1,(x2.2.2.1,(x2.2.2.2.1,(x2.2.2.2.2.1,(x2.2.2.2.2.2.1,(x2.2.2.2.2.2.2.1,(x2.2.2.2.2.2.2.2.1,())))))))))) fun j2 =>
  brn (@I.eqb .i64 y1.1.2.1 (I.of .i64 0))
   (optF (none) (poster_Accrue K ((a.2.2.2.2.2.1,(d.1,(d.2.2.1,(y1.1.1.2.1,((@I.add .u64 a.2.2.2.1 (I.of .u64 1)),()))))),())) fun y3 =>
   j2 ((y3.1.2.1,()),((a.1,(a.2.1,(a.2.2.1,((@I.add .u64 a.2.2.2.1 (I.of .u64 1)),(a.2.2.2.2.1,(y3.1.1,a.2.2.2.2.2.2)))))),(b,(c,(d,((Z_U,((I.of .u64 0),((I.of .u64 0),((I.of .u64 0),(Z_S_api_Int256,([],())))))),(((I.of .u64 0),(Z_U,([],()))),(y1.1.1,())))))))))
   (j2 ((y1.1.2.1,()),(a,(b,(c,(d,((Z_U,((I.of .u64 0),((I.of .u64 0),((I.of .u64 0),(Z_S_api_Int256,([],())))))),(((I.of .u64 0),(Z_U,([],()))),(y1.1.1,()))))))))))
noncomputable def pricer_cloned (K:Nat) (x:(⟨[.pl Y_api_Pricer],[]⟩:Tm).D):Option (⟨[.pl Y_api_Pricer],[]⟩:Tm).D :=
 let a:S_api_Pricer:=x.1.1
 optF (none) (slices_Clone___api_Poster_api_Poster_ K ((a.2.2.2.2.2.1,()),())) fun y0 =>
 some (((a.1,(a.2.1,(a.2.2.1,(a.2.2.2.1,(a.2.2.2.2.1,(y0.2.1,a.2.2.2.2.2.2)))))),()),())
noncomputable def pricer_AddUnits (K:Nat) (x:(⟨[.pl Y_api_Pricer,.pl (.int .u64)],[]⟩:Tm).D):Option (⟨[.pl Y_api_Pricer,.pl (.int .i64)],[]⟩:Tm).D :=
 let a:S_api_Pricer:=x.1.1
 let b:(I .u64):=x.1.2.1
 optF (none) (pricer_Valid K ((a,()),())) fun y0 =>
 brn (bnot y0.1.1)
  (some (((Z_U,((I.of .u64 0),((I.of .u64 0),((I.of .u64 0),(Z_S_api_Int256,([],())))))),((I.of .i64 2),())),()))
  (optF (none) (add64F ((a.2.1,(b,((I.of .u64 0),()))),())) fun y1 =>
  brn (@I.neb .u64 y1.1.2.1 (I.of .u64 0))
   (some (((Z_U,((I.of .u64 0),((I.of .u64 0),((I.of .u64 0),(Z_S_api_Int256,([],())))))),((I.of .i64 4),())),()))
   (optF (none) (pricer_cloned K ((a,()),())) fun y2 =>
   some (((y2.1.1.1,(y1.1.1,y2.1.1.2.2)),((I.of .i64 0),())),())))
end Sym

/- The given functions as plain functions, as the printer told them. -/
namespace Sym
open Go
noncomputable def pontagelaw0_EqualPricer (K:Nat) (x:(⟨[.pl Y_api_Pricer,.pl Y_api_Pricer],[]⟩:Tm).D):Option (⟨[.pl .bool],[]⟩:Tm).D :=
 let a:S_api_Pricer:=x.1.1
 let b:S_api_Pricer:=x.1.2.1
 brn (Ty.eqb u256 a.1 b.1)
  (brn (@I.eqb .u64 a.2.1 b.2.1)
   (brn (@I.eqb .u64 a.2.2.1 b.2.2.1)
    (brn (@I.eqb .u64 a.2.2.2.1 b.2.2.2.1)
     (brn (Ty.eqb Y_api_Int256 a.2.2.2.2.1 b.2.2.2.2.1)
      (optF (none) (pontagelaw0_EqualPosters K ((a.2.2.2.2.2.1,(b.2.2.2.2.2.1,())),())) fun y0 =>
      some ((y0.1.1,()),()))
      (some ((false,()),())))
     (some ((false,()),())))
    (some ((false,()),())))
   (some ((false,()),())))
  (some ((false,()),()))
end Sym

/- The given functions as plain functions, as the printer told them. -/
namespace Sym
open Go
noncomputable def KS_00:List (I .u8):=bytesL [0]
noncomputable def KS_01:List (I .u8):=bytesL [1]
noncomputable def KS_80:List (I .u8):=bytesL [128]
abbrev S_api_Account:Type:=(I .u64) × (U × ((I .u64) × Unit))
noncomputable abbrev Z_S_api_Account:S_api_Account:=((I.of .u64 0),(Z_U,((I.of .u64 0),())))
abbrev S_api_Message:Type:=(I .u64) × S_api_Payment
noncomputable abbrev Z_S_api_Message:S_api_Message:=((I.of .u64 0),Z_S_api_Payment)
abbrev S_api_Block:Type:=(I .u64) × S_api_Message
noncomputable abbrev Z_S_api_Block:S_api_Block:=((I.of .u64 0),Z_S_api_Message)
abbrev S_A8_intu32:Type:=(I .u32) × ((I .u32) × ((I .u32) × ((I .u32) × ((I .u32) × ((I .u32) × ((I .u32) × ((I .u32) × Unit)))))))
noncomputable abbrev Z_S_A8_intu32:S_A8_intu32:=((I.of .u32 0),((I.of .u32 0),((I.of .u32 0),((I.of .u32 0),((I.of .u32 0),((I.of .u32 0),((I.of .u32 0),((I.of .u32 0),()))))))))
abbrev S_A4_U:Type:=U × (U × (U × (U × Unit)))
noncomputable abbrev Z_S_A4_U:S_A4_U:=(Z_U,(Z_U,(Z_U,(Z_U,()))))
abbrev S_api_Transaction:Type:=(I .u64) × ((I .u64) × ((I .u64) × (U × ((I .u64) × (U × (U × ((I .u64) × ((List (I .u8)) × Unit))))))))
abbrev S_api_Charge:Type:=(I .u64) × ((I .u64) × ((I .u64) × ((I .u64) × (Bool × (U × S_A4_U)))))
noncomputable abbrev Z_S_api_Charge:S_api_Charge:=((I.of .u64 0),((I.of .u64 0),((I.of .u64 0),((I.of .u64 0),(false,(Z_U,Z_S_A4_U))))))
abbrev S_A32_intu8:Type:=(I .u8) × ((I .u8) × ((I .u8) × ((I .u8) × ((I .u8) × ((I .u8) × ((I .u8) × ((I .u8) × ((I .u8) × ((I .u8) × ((I .u8) × ((I .u8) × ((I .u8) × ((I .u8) × ((I .u8) × ((I .u8) × ((I .u8) × ((I .u8) × ((I .u8) × ((I .u8) × ((I .u8) × ((I .u8) × ((I .u8) × ((I .u8) × ((I .u8) × ((I .u8) × ((I .u8) × ((I .u8) × ((I .u8) × ((I .u8) × ((I .u8) × ((I .u8) × Unit)))))))))))))))))))))))))))))))
noncomputable abbrev Z_S_A32_intu8:S_A32_intu8:=((I.of .u8 0),((I.of .u8 0),((I.of .u8 0),((I.of .u8 0),((I.of .u8 0),((I.of .u8 0),((I.of .u8 0),((I.of .u8 0),((I.of .u8 0),((I.of .u8 0),((I.of .u8 0),((I.of .u8 0),((I.of .u8 0),((I.of .u8 0),((I.of .u8 0),((I.of .u8 0),((I.of .u8 0),((I.of .u8 0),((I.of .u8 0),((I.of .u8 0),((I.of .u8 0),((I.of .u8 0),((I.of .u8 0),((I.of .u8 0),((I.of .u8 0),((I.of .u8 0),((I.of .u8 0),((I.of .u8 0),((I.of .u8 0),((I.of .u8 0),((I.of .u8 0),((I.of .u8 0),()))))))))))))))))))))))))))))))))
abbrev S_api_Claim:Type:=(I .u64) × ((I .u64) × ((I .u64) × (U × ((List S_A32_intu8) × Unit))))
abbrev S_api_Receipt:Type:=(I .i64) × ((I .i64) × (S_api_Charge × (U × (U × ((I .u64) × (U × (U × ((List S_api_Message) × Unit))))))))
abbrev S_A64_intu32:Type:=(I .u32) × ((I .u32) × ((I .u32) × ((I .u32) × ((I .u32) × ((I .u32) × ((I .u32) × ((I .u32) × ((I .u32) × ((I .u32) × ((I .u32) × ((I .u32) × ((I .u32) × ((I .u32) × ((I .u32) × ((I .u32) × ((I .u32) × ((I .u32) × ((I .u32) × ((I .u32) × ((I .u32) × ((I .u32) × ((I .u32) × ((I .u32) × ((I .u32) × ((I .u32) × ((I .u32) × ((I .u32) × ((I .u32) × ((I .u32) × ((I .u32) × ((I .u32) × ((I .u32) × ((I .u32) × ((I .u32) × ((I .u32) × ((I .u32) × ((I .u32) × ((I .u32) × ((I .u32) × ((I .u32) × ((I .u32) × ((I .u32) × ((I .u32) × ((I .u32) × ((I .u32) × ((I .u32) × ((I .u32) × ((I .u32) × ((I .u32) × ((I .u32) × ((I .u32) × ((I .u32) × ((I .u32) × ((I .u32) × ((I .u32) × S_A8_intu32)))))))))))))))))))))))))))))))))))))))))))))))))))))))
noncomputable abbrev Z_S_A64_intu32:S_A64_intu32:=((I.of .u32 0),((I.of .u32 0),((I.of .u32 0),((I.of .u32 0),((I.of .u32 0),((I.of .u32 0),((I.of .u32 0),((I.of .u32 0),((I.of .u32 0),((I.of .u32 0),((I.of .u32 0),((I.of .u32 0),((I.of .u32 0),((I.of .u32 0),((I.of .u32 0),((I.of .u32 0),((I.of .u32 0),((I.of .u32 0),((I.of .u32 0),((I.of .u32 0),((I.of .u32 0),((I.of .u32 0),((I.of .u32 0),((I.of .u32 0),((I.of .u32 0),((I.of .u32 0),((I.of .u32 0),((I.of .u32 0),((I.of .u32 0),((I.of .u32 0),((I.of .u32 0),((I.of .u32 0),((I.of .u32 0),((I.of .u32 0),((I.of .u32 0),((I.of .u32 0),((I.of .u32 0),((I.of .u32 0),((I.of .u32 0),((I.of .u32 0),((I.of .u32 0),((I.of .u32 0),((I.of .u32 0),((I.of .u32 0),((I.of .u32 0),((I.of .u32 0),((I.of .u32 0),((I.of .u32 0),((I.of .u32 0),((I.of .u32 0),((I.of .u32 0),((I.of .u32 0),((I.of .u32 0),((I.of .u32 0),((I.of .u32 0),((I.of .u32 0),Z_S_A8_intu32))))))))))))))))))))))))))))))))))))))))))))))))))))))))
abbrev S_api_Step:Type:=(I .i64) × (S_api_Transaction × (S_api_Message × ((I .u64) × ((I .i64) × (U × ((I .u64) × (S_api_Claim × Unit)))))))
abbrev S_api_State:Type:=(I .u64) × (S_api_Params × (S_api_Block × ((I .u64) × (S_api_Pricer × ((List S_api_Account) × (S_A4_U × ((List S_api_Message) × ((List Bool) × (U × ((List S_api_Payment) × Unit))))))))))
abbrev O_pontageref28_Machine:Type:=(I .u64) × (S_api_Params × (S_api_Block × ((I .u64) × (S_api_Pricer × (Unit × (Unit × (Unit × Unit)))))))
abbrev O_pontageref11_Ledger:Type:=Unit × (S_A4_U × Unit)
abbrev Y_api_Account:Ty:=.cons (.int .u64) (.cons u256 (.cons (.int .u64) .nil))
abbrev Y_api_Message:Ty:=.cons (.int .u64) Y_api_Payment
abbrev Y_api_Block:Ty:=.cons (.int .u64) Y_api_Message
abbrev Y_api_Claim:Ty:=.cons (.int .u64) (.cons (.int .u64) (.cons (.int .u64) (.cons u256 (.cons (.sl (.arr 32 (.int .u8))) .nil))))
abbrev Y_pontageref11_Ledger:Ty:=.cons (.sl Y_api_Account) (.cons (.arr 4 u256) .nil)
abbrev Y_api_Transaction:Ty:=.cons (.int .u64) (.cons (.int .u64) (.cons (.int .u64) (.cons u256 (.cons (.int .u64) (.cons u256 (.cons u256 (.cons (.int .u64) (.cons (.sl (.int .u8)) .nil))))))))
abbrev Y_api_Charge:Ty:=.cons (.int .u64) (.cons (.int .u64) (.cons (.int .u64) (.cons (.int .u64) (.cons .bool (.cons u256 (.cons u256 (.cons u256 (.cons u256 (.cons u256 .nil)))))))))
abbrev Y_api_Receipt:Ty:=.cons (.int .i64) (.cons (.int .i64) (.cons Y_api_Charge (.cons u256 (.cons u256 (.cons (.int .u64) (.cons u256 (.cons u256 (.cons (.sl Y_api_Message) .nil))))))))
abbrev Y_api_Step:Ty:=.cons (.int .i64) (.cons Y_api_Transaction (.cons Y_api_Message (.cons (.int .u64) (.cons (.int .i64) (.cons u256 (.cons (.int .u64) (.cons Y_api_Claim .nil)))))))
abbrev Y_api_State:Ty:=.cons (.int .u64) (.cons Y_api_Params (.cons Y_api_Block (.cons (.int .u64) (.cons Y_api_Pricer (.cons (.sl Y_api_Account) (.cons (.arr 4 u256) (.cons (.sl Y_api_Message) (.cons (.sl .bool) (.cons u256 (.cons (.sl Y_api_Payment) .nil))))))))))
abbrev H_pontageref11_Ledger:List BSh:=[.box Y_pontageref11_Ledger (.pair (.whole 1) (.pl (.cons (.arr 4 u256) .nil))),.row Y_api_Account]
end Sym

/- The given functions as plain functions, as the printer told them. -/
namespace Sym
open Go
abbrev S_pontageref22_Reader:Type:=(List (I .u8)) × ((I .i64) × (Bool × Unit))
abbrev S_A8_intu64:Type:=(I .u64) × ((I .u64) × ((I .u64) × ((I .u64) × U)))
abbrev S_ledger_Ledger:Type:=(List S_api_Account) × (S_A4_U × Unit)
abbrev S_escrow_Escrow:Type:=(List S_A32_intu8) × ((List Bool) × (U × ((List S_api_Payment) × Unit)))
abbrev S_executor_Machine:Type:=(I .u64) × (S_api_Params × (S_api_Block × ((I .u64) × (S_api_Pricer × (Unit × (Unit × (Unit × Unit)))))))
abbrev O_executor_Machine:Type:=S_executor_Machine
abbrev O_ledger_Ledger:Type:=O_pontageref11_Ledger
abbrev O_outbox_Outbox:Type:=Unit × (Unit × Unit)
abbrev O_escrow_Escrow:Type:=Unit × (Unit × (U × (Unit × Unit)))
abbrev O_merkle_Tree:Type:=Unit × Unit
abbrev Y_wirereader_Reader:Ty:=.cons (.sl (.int .u8)) (.cons (.int .i64) (.cons .bool .nil))
abbrev Y_outbox_Outbox:Ty:=.cons (.sl Y_api_Report) (.cons .opq .nil)
abbrev Y_escrow_Escrow:Ty:=.cons (.sl (.arr 32 (.int .u8))) (.cons (.sl .bool) (.cons u256 (.cons (.sl Y_api_Payment) .nil)))
abbrev Y_executor_Machine:Ty:=.cons (.int .u64) (.cons Y_api_Params (.cons Y_api_Block (.cons (.int .u64) (.cons Y_api_Pricer (.cons .opq (.cons .opq (.cons .opq .nil)))))))
abbrev H_executor_Machine:List BSh:=[.box Y_executor_Machine (.pair (.pl (.int .u64)) (.pair (.pl Y_api_Params) (.pair (.pl Y_api_Block) (.pair (.pl (.int .u64)) (.pair (.pl Y_api_Pricer) (.pair (.ptr 1 []) (.pair (.ptr 2 []) (.pair (.ptr 4 []) (.pl .nil))))))))),.box Y_pontageref11_Ledger (.pair (.whole 5) (.pl (.cons (.arr 4 u256) .nil))),.box Y_outbox_Outbox (.pair (.whole 6) (.pair (.ptr 3 []) (.pl .nil))),.box (.cons (.sl (.arr 32 (.int .u8))) .nil) (.pair (.whole 7) (.pl .nil)),.box Y_escrow_Escrow (.pair (.whole 8) (.pair (.whole 9) (.pair (.pl u256) (.pair (.whole 10) (.pl .nil))))),.row Y_api_Account,.row Y_api_Report,.row (.arr 32 (.int .u8)),.row (.arr 32 (.int .u8)),.row .bool,.row Y_api_Payment]
abbrev H_escrow_Escrow:List BSh:=[.box Y_escrow_Escrow (.pair (.whole 1) (.pair (.whole 2) (.pair (.pl u256) (.pair (.whole 3) (.pl .nil))))),.row (.arr 32 (.int .u8)),.row .bool,.row Y_api_Payment]
abbrev H_outbox_Outbox:List BSh:=[.box Y_outbox_Outbox (.pair (.whole 2) (.pair (.ptr 1 []) (.pl .nil))),.box (.cons (.sl (.arr 32 (.int .u8))) .nil) (.pair (.whole 3) (.pl .nil)),.row Y_api_Report,.row (.arr 32 (.int .u8))]
abbrev H_ledger_Ledger:List BSh:=H_pontageref11_Ledger
abbrev H_merkle_Tree:List BSh:=[.box (.cons (.sl (.arr 32 (.int .u8))) .nil) (.pair (.whole 1) (.pl .nil)),.row (.arr 32 (.int .u8))]
noncomputable def wirereader_New (K:Nat) (x:(⟨[.pl (.sl (.int .u8))],[]⟩:Tm).D):Option (⟨[.ptr 0 []],[.box Y_wirereader_Reader (.pl Y_wirereader_Reader)]⟩:Tm).D :=
 let a:(List (I .u8)):=x.1.1
 some ((),((a,((I.of .i64 0),(false,()))),()))
noncomputable def wirereader_Reader_Done (K:Nat) (x:(⟨[.bp Y_wirereader_Reader],[]⟩:Tm).D):Option (⟨[.pl .bool],[]⟩:Tm).D :=
 let a:S_pontageref22_Reader:=x.1.1
 brn (bnot a.2.2.1)
  (some (((@I.eqb .i64 a.2.1 (I.ofNat .i64 (@lenL (I .u8) a.1))),()),()))
  (some ((false,()),()))
noncomputable def wire_readUint (K:Nat) (x:(⟨[.pl (.sl (.int .u8)),.pl (.int .i64),.pl (.int .i64)],[]⟩:Tm).D):Option (⟨[.pl u256,.pl (.int .i64),.pl (.int .i64)],[]⟩:Tm).D :=
 let a:(List (I .u8)):=x.1.1
 let b:(I .i64):=x.1.2.1
 let c:(I .i64):=x.1.2.2.1
 jn (fun (x0:(((List (I .u8)) × ((I .i64) × ((I .i64) × Unit))) × (U × Unit))) =>
   brn (@inB' .i64 x0.1.2.1 (@lenL (I .u8) x0.1.1))
    (brn (@I.eqb .i64 (I.ofNat .i64 (@lenL (I .u8) (@subL (I .u8) x0.1.1 (@I.nat .i64 x0.1.2.1) ((@lenL (I .u8) x0.1.1) - (@I.nat .i64 x0.1.2.1))))) (I.of .i64 0))
     (some ((Z_U,((I.of .i64 0),((I.of .i64 3),()))),()))
     (brn (@inB .i64 (I.of .i64 0) (@lenL (I .u8) (@subL (I .u8) x0.1.1 (@I.nat .i64 x0.1.2.1) ((@lenL (I .u8) x0.1.1) - (@I.nat .i64 x0.1.2.1)))))
      (brn (@inB' .i64 (I.of .i64 1) (@lenL (I .u8) (@subL (I .u8) x0.1.1 (@I.nat .i64 x0.1.2.1) ((@lenL (I .u8) x0.1.1) - (@I.nat .i64 x0.1.2.1)))))
       (jn (fun (x1:(((I .i64) × ((List (I .u8)) × ((I .i64) × Unit))) × (U × Unit))) =>
         iter (none) (fun x2 =>
           brn (@I.ltb .i64 x2.1.2.2.2.2.1 x2.1.2.2.2.1)
            (brn (@inB .i64 (@I.quo .i64 (@I.sub .i64 (@I.sub .i64 x2.1.2.2.1 (I.of .i64 1)) x2.1.2.2.2.2.1) (I.of .i64 8)) 4)
             (brn (@inB .i64 x2.1.2.2.2.2.1 (@lenL (I .u8) x2.1.2.1))
              (brn (@I.nn .i64 (@I.mul .i64 (I.of .i64 8) (@I.rem .i64 (@I.sub .i64 (@I.sub .i64 x2.1.2.2.1 (I.of .i64 1)) x2.1.2.2.2.2.1) (I.of .i64 8))))
               (brn (@inB .i64 (@I.quo .i64 (@I.sub .i64 (@I.sub .i64 x2.1.2.2.1 (I.of .i64 1)) x2.1.2.2.2.2.1) (I.of .i64 8)) 4)
                (.again ((x2.1.1,(x2.1.2.1,(x2.1.2.2.1,(x2.1.2.2.2.1,((@I.add .i64 x2.1.2.2.2.2.1 (I.of .i64 1)),()))))),(x2.2.1,((@Arr.upd (I .u64) 4 x2.2.2.1 (@I.nat .i64 (@I.quo .i64 (@I.sub .i64 (@I.sub .i64 x2.1.2.2.1 (I.of .i64 1)) x2.1.2.2.2.2.1) (I.of .i64 8))) (@I.or .u64 (@Arr.sel (I .u64) (I.of .u64 0) 4 x2.2.2.1 (@I.nat .i64 (@I.quo .i64 (@I.sub .i64 (@I.sub .i64 x2.1.2.2.1 (I.of .i64 1)) x2.1.2.2.2.2.1) (I.of .i64 8)))) (@I.shl .u64 .i64 (I.conv (k:=.u8) .u64 (@rdL (I .u8) (I.of .u8 0) x2.1.2.1 (@I.nat .i64 x2.1.2.2.2.2.1))) (@I.mul .i64 (I.of .i64 8) (@I.rem .i64 (@I.sub .i64 (@I.sub .i64 x2.1.2.2.1 (I.of .i64 1)) x2.1.2.2.2.2.1) (I.of .i64 8)))))),()))))
                (.done (none)))
               (.done (none)))
              (.done (none)))
             (.done (none)))
            (.done (some ((x2.2.2.1,((@I.add .i64 (@I.add .i64 x2.1.1 (I.of .i64 1)) x2.1.2.2.1),((I.of .i64 0),()))),()))))
         K ((x1.1.1,(x1.1.2.1,(x1.1.2.2.1,(x1.1.2.2.1,((I.of .i64 0),()))))),(x1.2.1,(Z_U,())))) fun j1 =>
       brn (@I.ltb .i64 x0.1.2.2.1 (I.conv (k:=.u8) .i64 (@rdL (I .u8) (I.of .u8 0) (@subL (I .u8) x0.1.1 (@I.nat .i64 x0.1.2.1) ((@lenL (I .u8) x0.1.1) - (@I.nat .i64 x0.1.2.1))) 0)))
        (some ((Z_U,((I.of .i64 0),((I.of .i64 3),()))),()))
        (brn (@I.ltb .i64 (I.ofNat .i64 (@lenL (I .u8) (@subL (I .u8) (@subL (I .u8) x0.1.1 (@I.nat .i64 x0.1.2.1) ((@lenL (I .u8) x0.1.1) - (@I.nat .i64 x0.1.2.1))) 1 ((@lenL (I .u8) (@subL (I .u8) x0.1.1 (@I.nat .i64 x0.1.2.1) ((@lenL (I .u8) x0.1.1) - (@I.nat .i64 x0.1.2.1)))) - 1)))) (I.conv (k:=.u8) .i64 (@rdL (I .u8) (I.of .u8 0) (@subL (I .u8) x0.1.1 (@I.nat .i64 x0.1.2.1) ((@lenL (I .u8) x0.1.1) - (@I.nat .i64 x0.1.2.1))) 0)))
         (some ((Z_U,((I.of .i64 0),((I.of .i64 3),()))),()))
         (brn (@I.ltb .i64 (I.of .i64 0) (I.conv (k:=.u8) .i64 (@rdL (I .u8) (I.of .u8 0) (@subL (I .u8) x0.1.1 (@I.nat .i64 x0.1.2.1) ((@lenL (I .u8) x0.1.1) - (@I.nat .i64 x0.1.2.1))) 0)))
          (brn (@inB .i64 (I.of .i64 0) (@lenL (I .u8) (@subL (I .u8) (@subL (I .u8) x0.1.1 (@I.nat .i64 x0.1.2.1) ((@lenL (I .u8) x0.1.1) - (@I.nat .i64 x0.1.2.1))) 1 ((@lenL (I .u8) (@subL (I .u8) x0.1.1 (@I.nat .i64 x0.1.2.1) ((@lenL (I .u8) x0.1.1) - (@I.nat .i64 x0.1.2.1)))) - 1))))
           (brn (@I.eqb .u8 (@rdL (I .u8) (I.of .u8 0) (@subL (I .u8) (@subL (I .u8) x0.1.1 (@I.nat .i64 x0.1.2.1) ((@lenL (I .u8) x0.1.1) - (@I.nat .i64 x0.1.2.1))) 1 ((@lenL (I .u8) (@subL (I .u8) x0.1.1 (@I.nat .i64 x0.1.2.1) ((@lenL (I .u8) x0.1.1) - (@I.nat .i64 x0.1.2.1)))) - 1)) 0) (I.of .u8 0))
            (some ((Z_U,((I.of .i64 0),((I.of .i64 3),()))),()))
            (j1 ((x0.1.2.1,((@subL (I .u8) (@subL (I .u8) x0.1.1 (@I.nat .i64 x0.1.2.1) ((@lenL (I .u8) x0.1.1) - (@I.nat .i64 x0.1.2.1))) 1 ((@lenL (I .u8) (@subL (I .u8) x0.1.1 (@I.nat .i64 x0.1.2.1) ((@lenL (I .u8) x0.1.1) - (@I.nat .i64 x0.1.2.1)))) - 1)),((I.conv (k:=.u8) .i64 (@rdL (I .u8) (I.of .u8 0) (@subL (I .u8) x0.1.1 (@I.nat .i64 x0.1.2.1) ((@lenL (I .u8) x0.1.1) - (@I.nat .i64 x0.1.2.1))) 0)),()))),(x0.2.1,()))))
           (none))
          (j1 ((x0.1.2.1,((@subL (I .u8) (@subL (I .u8) x0.1.1 (@I.nat .i64 x0.1.2.1) ((@lenL (I .u8) x0.1.1) - (@I.nat .i64 x0.1.2.1))) 1 ((@lenL (I .u8) (@subL (I .u8) x0.1.1 (@I.nat .i64 x0.1.2.1) ((@lenL (I .u8) x0.1.1) - (@I.nat .i64 x0.1.2.1)))) - 1)),((I.conv (k:=.u8) .i64 (@rdL (I .u8) (I.of .u8 0) (@subL (I .u8) x0.1.1 (@I.nat .i64 x0.1.2.1) ((@lenL (I .u8) x0.1.1) - (@I.nat .i64 x0.1.2.1))) 0)),()))),(x0.2.1,()))))))
       (none))
      (none)))
    (none)) fun j0 =>
 brn (@I.ltb .i64 b (I.of .i64 0))
  (some ((Z_U,((I.of .i64 0),((I.of .i64 2),()))),()))
  (brn (@I.ltb .i64 (I.ofNat .i64 (@lenL (I .u8) a)) b)
   (some ((Z_U,((I.of .i64 0),((I.of .i64 2),()))),()))
   (j0 ((a,(b,(c,()))),(Z_U,()))))
noncomputable def wire_ReadUint64 (K:Nat) (x:(⟨[.pl (.sl (.int .u8)),.pl (.int .i64)],[]⟩:Tm).D):Option (⟨[.pl (.int .u64),.pl (.int .i64),.pl (.int .i64)],[]⟩:Tm).D :=
 let a:(List (I .u8)):=x.1.1
 let b:(I .i64):=x.1.2.1
 optF (none) (wire_readUint K ((a,(b,((I.of .i64 8),()))),())) fun y0 =>
 some ((y0.1.1.1,(y0.1.2.1,(y0.1.2.2.1,()))),())
noncomputable def slices_Clone___byte_byte_ (K:Nat) (x:(⟨[.pl (.sl (.int .u8))],[]⟩:Tm).D):Option (⟨[.pl (.sl (.int .u8))],[]⟩:Tm).D :=
 let a:(List (I .u8)):=x.1.1
 brn (emptyN (@lenL (I .u8) a))
  (both (none)
   (some (([],()),()))
   (brn (fitsLen (@lenL (I .u8) (@appL (I .u8) [] a)))
    (some (((@appL (I .u8) [] a),()),()))
    (none)))
  (brn (fitsLen (@lenL (I .u8) (@appL (I .u8) [] a)))
   (some (((@appL (I .u8) [] a),()),()))
   (none))
noncomputable def slices_Clone___byte_byte_c (K:Nat) (x:(⟨[.pl (.sl (.int .u8))],[]⟩:Tm).D):Option (⟨[.pl (.sl (.int .u8))],[]⟩:Tm).D:=brn (fitsLen (lenL x.1.1)) (some ((x.1.1,()),())) none
theorem slices_Clone___byte_byte_c_eq (K:Nat):∀ x,slices_Clone___byte_byte_ K x = slices_Clone___byte_byte_c K x
  | ⟨⟨[],⟨⟩⟩,⟨⟩⟩=>both_eq rfl
  | ⟨⟨_ :: _,⟨⟩⟩,⟨⟩⟩=>rfl
noncomputable def wire_ReadBytes (K:Nat) (x:(⟨[.pl (.sl (.int .u8)),.pl (.int .i64)],[]⟩:Tm).D):Option (⟨[.pl (.sl (.int .u8)),.pl (.int .i64),.pl (.int .i64)],[]⟩:Tm).D :=
 let a:(List (I .u8)):=x.1.1
 let b:(I .i64):=x.1.2.1
 optF (none) (wire_ReadUint64 K ((a,(b,())),())) fun y0 =>
 brn (@I.neb .i64 y0.1.2.2.1 (I.of .i64 0))
  (some (([],((I.of .i64 0),(y0.1.2.2.1,()))),()))
  (brn (@I.ltb .u64 (I.conv (k:=.i64) .u64 (@I.sub .i64 (I.ofNat .i64 (@lenL (I .u8) a)) y0.1.2.1)) y0.1.1)
   (some (([],((I.of .i64 0),((I.of .i64 3),()))),()))
   (brn (@inB' .i64 y0.1.2.1 (@I.nat .i64 (@I.add .i64 y0.1.2.1 (I.conv (k:=.u64) .i64 y0.1.1))))
    (brn (@inB' .i64 (@I.add .i64 y0.1.2.1 (I.conv (k:=.u64) .i64 y0.1.1)) (@lenL (I .u8) a))
     (optF (none) (slices_Clone___byte_byte_c K (((@subL (I .u8) a (@I.nat .i64 y0.1.2.1) ((@I.nat .i64 (@I.add .i64 y0.1.2.1 (I.conv (k:=.u64) .i64 y0.1.1))) - (@I.nat .i64 y0.1.2.1))),()),())) fun y1 =>
     some ((y1.1.1,((@I.add .i64 y0.1.2.1 (I.conv (k:=.u64) .i64 y0.1.1)),((I.of .i64 0),()))),()))
     (none))
    (none)))
noncomputable def wirereader_Reader_advance (K:Nat) (x:(⟨[.ptr 0 [],.pl (.int .i64),.pl (.int .i64)],[.box Y_wirereader_Reader (.pl Y_wirereader_Reader)]⟩:Tm).D):Option (⟨[.pl .bool],[.box Y_wirereader_Reader (.pl Y_wirereader_Reader)]⟩:Tm).D :=
 let a:(I .i64):=x.1.1
 let b:(I .i64):=x.1.2.1
 let h0:S_pontageref22_Reader:=x.2.1
 brn h0.2.2.1
  (some ((false,()),((h0.1,(h0.2.1,(true,h0.2.2.2))),())))
  (brn (@I.neb .i64 b (I.of .i64 0))
   (some ((false,()),((h0.1,(h0.2.1,(true,h0.2.2.2))),())))
   (some ((true,()),((h0.1,(a,h0.2.2)),()))))
noncomputable def wirereader_Reader_Bytes (K:Nat) (x:(⟨[.ptr 0 []],[.box Y_wirereader_Reader (.pl Y_wirereader_Reader)]⟩:Tm).D):Option (⟨[.pl (.sl (.int .u8))],[.box Y_wirereader_Reader (.pl Y_wirereader_Reader)]⟩:Tm).D :=
 let h0:S_pontageref22_Reader:=x.2.1
 optF (none) (wire_ReadBytes K ((h0.1,(h0.2.1,())),())) fun y0 =>
 optF (none) (wirereader_Reader_advance K ((y0.1.2.1,(y0.1.2.2.1,())),(h0,()))) fun y1 =>
 brn (bnot y1.1.1)
  (some (([],()),(y1.2.1,())))
  (some ((y0.1.1,()),(y1.2.1,())))
noncomputable def backlog_Drain (K:Nat) (x:(⟨[.pl (.int .u64),.pl (.int .u64),.pl (.int .u64)],[]⟩:Tm).D):Option (⟨[.pl (.int .u64)],[]⟩:Tm).D :=
 let a:(I .u64):=x.1.1
 let b:(I .u64):=x.1.2.1
 let c:(I .u64):=x.1.2.2.1
 optF (none) (math_bits_Mul64 K ((b,(c,())),())) fun y0 =>
 brn (@I.neb .u64 y0.1.1 (I.of .u64 0))
  (some (((I.of .u64 0),()),()))
  (brn (@I.ltb .u64 a y0.1.2.1)
   (some (((I.of .u64 0),()),()))
   (some (((@I.sub .u64 a y0.1.2.1),()),())))
noncomputable def backlog_Excess (K:Nat) (x:(⟨[.pl (.int .u64),.pl (.int .u64),.pl (.int .u64)],[]⟩:Tm).D):Option (⟨[.pl (.int .u64)],[]⟩:Tm).D :=
 let a:(I .u64):=x.1.1
 let b:(I .u64):=x.1.2.1
 let c:(I .u64):=x.1.2.2.1
 optF (none) (backlog_Drain K ((a,(b,(c,()))),())) fun y0 =>
 some ((y0.1.1,()),())
noncomputable def math_bits_LeadingZeros64 (K:Nat) (x:(⟨[.pl (.int .u64)],[]⟩:Tm).D):Option (⟨[.pl (.int .i64)],[]⟩:Tm).D :=
 let a:(I .u64):=x.1.1
 optF (none) (math_bits_Len64 K ((a,()),())) fun y0 =>
 some (((@I.sub .i64 (I.of .i64 64) y0.1.1),()),())
noncomputable def math_bits_Div64 (K:Nat) (x:(⟨[.pl (.int .u64),.pl (.int .u64),.pl (.int .u64)],[]⟩:Tm).D):Option (⟨[.pl (.int .u64),.pl (.int .u64)],[]⟩:Tm).D :=
 let a:(I .u64):=x.1.1
 let b:(I .u64):=x.1.2.1
 let c:(I .u64):=x.1.2.2.1
 jn (fun (x0:(((I .u64) × ((I .u64) × ((I .u64) × Unit))) × Unit)) =>
   jn (fun (x1:(((I .u64) × ((I .u64) × ((I .u64) × Unit))) × Unit)) =>
     brn (@I.eqb .u64 x1.1.1 (I.of .u64 0))
      (brn (@I.nz .u64 x1.1.2.2.1)
       (brn (@I.nz .u64 x1.1.2.2.1)
        (some (((@I.quo .u64 x1.1.2.1 x1.1.2.2.1),((@I.rem .u64 x1.1.2.1 x1.1.2.2.1),())),()))
        (none))
       (none))
      (optF (none) (math_bits_LeadingZeros64 K ((x1.1.2.2.1,()),())) fun y2 =>
      brn (@I.nn .u64 (I.conv (k:=.i64) .u64 y2.1.1))
       (brn (@I.nn .u64 (I.conv (k:=.i64) .u64 y2.1.1))
        (brn (@I.nn .u64 (@I.sub .u64 (I.of .u64 64) (I.conv (k:=.i64) .u64 y2.1.1)))
         (brn (@I.nn .u64 (I.conv (k:=.i64) .u64 y2.1.1))
          (brn (@I.nz .u64 (@I.shr .u64 .u64 (@I.shl .u64 .u64 x1.1.2.2.1 (I.conv (k:=.i64) .u64 y2.1.1)) (I.of .u64 32)))
           (jn (fun (x3:(S_A8_intu64 × Unit)) =>
             brn (@I.nz .u64 x3.1.2.2.1)
              (jn (fun (x4:(((I .u64) × ((I .u64) × U)) × Unit)) =>
                brn (@I.nn .u64 x4.1.2.1)
                 (some (((@I.add .u64 (@I.mul .u64 x4.1.2.2.2.1 (I.of .u64 4294967296)) x4.1.2.2.2.2.2.1),((@I.shr .u64 .u64 (@I.sub .u64 (@I.add .u64 (@I.mul .u64 x4.1.2.2.2.2.1 (I.of .u64 4294967296)) x4.1.2.2.1) (@I.mul .u64 x4.1.2.2.2.2.2.1 x4.1.1)) x4.1.2.1),())),()))
                 (none)) fun j4 =>
              iter (none) (fun x5 =>
                jn (fun (x6:(((I .u64) × S_A8_intu64) × Unit)) =>
                  brn (@I.leb .u64 (I.of .u64 4294967296) (@I.add .u64 x6.1.2.2.2.2.2.2.1 x6.1.2.2.1))
                   (.done (j4 ((x6.1.1,(x6.1.2.1,(x6.1.2.2.2.2.1,(x6.1.2.2.2.2.2.1,(x6.1.2.2.2.2.2.2.2.1,((@I.sub .u64 x6.1.2.2.2.2.2.2.2.2.1 (I.of .u64 1)),())))))),())))
                   (.again ((x6.1.1,(x6.1.2.1,(x6.1.2.2.1,(x6.1.2.2.2.1,(x6.1.2.2.2.2.1,(x6.1.2.2.2.2.2.1,((@I.add .u64 x6.1.2.2.2.2.2.2.1 x6.1.2.2.1),(x6.1.2.2.2.2.2.2.2.1,((@I.sub .u64 x6.1.2.2.2.2.2.2.2.2.1 (I.of .u64 1)),()))))))))),()))) fun j6 =>
                brn (@I.leb .u64 (I.of .u64 4294967296) x5.1.2.2.2.2.2.2.2.2.1)
                 (j6 ((x5.1.1,(x5.1.2.1,(x5.1.2.2.1,(x5.1.2.2.2.1,(x5.1.2.2.2.2.1,(x5.1.2.2.2.2.2.1,(x5.1.2.2.2.2.2.2.1,(x5.1.2.2.2.2.2.2.2.1,(x5.1.2.2.2.2.2.2.2.2.1,()))))))))),()))
                 (brn (@I.ltb .u64 (@I.add .u64 (@I.mul .u64 (I.of .u64 4294967296) x5.1.2.2.2.2.2.2.1) x5.1.2.2.2.2.1) (@I.mul .u64 x5.1.2.2.2.2.2.2.2.2.1 x5.1.2.2.2.1))
                  (j6 ((x5.1.1,(x5.1.2.1,(x5.1.2.2.1,(x5.1.2.2.2.1,(x5.1.2.2.2.2.1,(x5.1.2.2.2.2.2.1,(x5.1.2.2.2.2.2.2.1,(x5.1.2.2.2.2.2.2.2.1,(x5.1.2.2.2.2.2.2.2.2.1,()))))))))),()))
                  (.done (j4 ((x5.1.1,(x5.1.2.1,(x5.1.2.2.2.2.1,(x5.1.2.2.2.2.2.1,(x5.1.2.2.2.2.2.2.2.1,(x5.1.2.2.2.2.2.2.2.2.1,())))))),())))))
              K ((x3.1.1,(x3.1.2.1,(x3.1.2.2.1,(x3.1.2.2.2.1,(x3.1.2.2.2.2.2.2.1,(x3.1.2.2.2.2.2.2.2.1,((@I.sub .u64 (@I.sub .u64 (@I.add .u64 (@I.mul .u64 x3.1.2.2.2.2.1 (I.of .u64 4294967296)) x3.1.2.2.2.2.2.1) (@I.mul .u64 x3.1.2.2.2.2.2.2.2.1 x3.1.1)) (@I.mul .u64 (@I.quo .u64 (@I.sub .u64 (@I.add .u64 (@I.mul .u64 x3.1.2.2.2.2.1 (I.of .u64 4294967296)) x3.1.2.2.2.2.2.1) (@I.mul .u64 x3.1.2.2.2.2.2.2.2.1 x3.1.1)) x3.1.2.2.1) x3.1.2.2.1)),((@I.sub .u64 (@I.add .u64 (@I.mul .u64 x3.1.2.2.2.2.1 (I.of .u64 4294967296)) x3.1.2.2.2.2.2.1) (@I.mul .u64 x3.1.2.2.2.2.2.2.2.1 x3.1.1)),((@I.quo .u64 (@I.sub .u64 (@I.add .u64 (@I.mul .u64 x3.1.2.2.2.2.1 (I.of .u64 4294967296)) x3.1.2.2.2.2.2.1) (@I.mul .u64 x3.1.2.2.2.2.2.2.2.1 x3.1.1)) x3.1.2.2.1),()))))))))),()))
              (none)) fun j3 =>
           iter (none) (fun x4 =>
             jn (fun (x5:(((I .u64) × S_A8_intu64) × Unit)) =>
               brn (@I.leb .u64 (I.of .u64 4294967296) (@I.add .u64 x5.1.2.2.2.2.2.2.2.2.1 x5.1.2.2.1))
                (.done (j3 ((x5.1.1,(x5.1.2.1,(x5.1.2.2.1,(x5.1.2.2.2.1,(x5.1.2.2.2.2.1,(x5.1.2.2.2.2.2.1,(x5.1.2.2.2.2.2.2.1,((@I.sub .u64 x5.1.2.2.2.2.2.2.2.1 (I.of .u64 1)),())))))))),())))
                (.again ((x5.1.1,(x5.1.2.1,(x5.1.2.2.1,(x5.1.2.2.2.1,(x5.1.2.2.2.2.1,(x5.1.2.2.2.2.2.1,(x5.1.2.2.2.2.2.2.1,((@I.sub .u64 x5.1.2.2.2.2.2.2.2.1 (I.of .u64 1)),((@I.add .u64 x5.1.2.2.2.2.2.2.2.2.1 x5.1.2.2.1),()))))))))),()))) fun j5 =>
             brn (@I.leb .u64 (I.of .u64 4294967296) x4.1.2.2.2.2.2.2.2.1)
              (j5 ((x4.1.1,(x4.1.2.1,(x4.1.2.2.1,(x4.1.2.2.2.1,(x4.1.2.2.2.2.1,(x4.1.2.2.2.2.2.1,(x4.1.2.2.2.2.2.2.1,(x4.1.2.2.2.2.2.2.2.1,(x4.1.2.2.2.2.2.2.2.2.1,()))))))))),()))
              (brn (@I.ltb .u64 (@I.add .u64 (@I.mul .u64 (I.of .u64 4294967296) x4.1.2.2.2.2.2.2.2.2.1) x4.1.2.2.2.2.2.1) (@I.mul .u64 x4.1.2.2.2.2.2.2.2.1 x4.1.2.2.2.1))
               (j5 ((x4.1.1,(x4.1.2.1,(x4.1.2.2.1,(x4.1.2.2.2.1,(x4.1.2.2.2.2.1,(x4.1.2.2.2.2.2.1,(x4.1.2.2.2.2.2.2.1,(x4.1.2.2.2.2.2.2.2.1,(x4.1.2.2.2.2.2.2.2.2.1,()))))))))),()))
               (.done (j3 ((x4.1.1,(x4.1.2.1,(x4.1.2.2.1,(x4.1.2.2.2.1,(x4.1.2.2.2.2.1,(x4.1.2.2.2.2.2.1,(x4.1.2.2.2.2.2.2.1,(x4.1.2.2.2.2.2.2.2.1,())))))))),())))))
           K (((@I.shl .u64 .u64 x1.1.2.2.1 (I.conv (k:=.i64) .u64 y2.1.1)),((I.conv (k:=.i64) .u64 y2.1.1),((@I.shr .u64 .u64 (@I.shl .u64 .u64 x1.1.2.2.1 (I.conv (k:=.i64) .u64 y2.1.1)) (I.of .u64 32)),((@I.and .u64 (@I.shl .u64 .u64 x1.1.2.2.1 (I.conv (k:=.i64) .u64 y2.1.1)) (I.of .u64 4294967295)),((@I.or .u64 (@I.shl .u64 .u64 x1.1.1 (I.conv (k:=.i64) .u64 y2.1.1)) (@I.shr .u64 .u64 x1.1.2.1 (@I.sub .u64 (I.of .u64 64) (I.conv (k:=.i64) .u64 y2.1.1)))),((@I.shr .u64 .u64 (@I.shl .u64 .u64 x1.1.2.1 (I.conv (k:=.i64) .u64 y2.1.1)) (I.of .u64 32)),((@I.and .u64 (@I.shl .u64 .u64 x1.1.2.1 (I.conv (k:=.i64) .u64 y2.1.1)) (I.of .u64 4294967295)),((@I.quo .u64 (@I.or .u64 (@I.shl .u64 .u64 x1.1.1 (I.conv (k:=.i64) .u64 y2.1.1)) (@I.shr .u64 .u64 x1.1.2.1 (@I.sub .u64 (I.of .u64 64) (I.conv (k:=.i64) .u64 y2.1.1)))) (@I.shr .u64 .u64 (@I.shl .u64 .u64 x1.1.2.2.1 (I.conv (k:=.i64) .u64 y2.1.1)) (I.of .u64 32))),((@I.sub .u64 (@I.or .u64 (@I.shl .u64 .u64 x1.1.1 (I.conv (k:=.i64) .u64 y2.1.1)) (@I.shr .u64 .u64 x1.1.2.1 (@I.sub .u64 (I.of .u64 64) (I.conv (k:=.i64) .u64 y2.1.1)))) (@I.mul .u64 (@I.quo .u64 (@I.or .u64 (@I.shl .u64 .u64 x1.1.1 (I.conv (k:=.i64) .u64 y2.1.1)) (@I.shr .u64 .u64 x1.1.2.1 (@I.sub .u64 (I.of .u64 64) (I.conv (k:=.i64) .u64 y2.1.1)))) (@I.shr .u64 .u64 (@I.shl .u64 .u64 x1.1.2.2.1 (I.conv (k:=.i64) .u64 y2.1.1)) (I.of .u64 32))) (@I.shr .u64 .u64 (@I.shl .u64 .u64 x1.1.2.2.1 (I.conv (k:=.i64) .u64 y2.1.1)) (I.of .u64 32)))),()))))))))),()))
           (none))
          (none))
         (none))
        (none))
       (none))) fun j1 =>
   brn (@I.leb .u64 x0.1.2.2.1 x0.1.1)
    (none)
    (j1 ((x0.1.1,(x0.1.2.1,(x0.1.2.2.1,()))),()))) fun j0 =>
 brn (@I.eqb .u64 c (I.of .u64 0))
  (none)
  (j0 ((a,(b,(c,()))),()))
noncomputable def basefee_Exponent (K:Nat) (x:(⟨[.pl (.int .u64),.pl Y_api_Params],[]⟩:Tm).D):Option (⟨[.pl (.int .u64),.pl (.int .i64)],[]⟩:Tm).D :=
 let a:(I .u64):=x.1.1
 let b:S_api_Params:=x.1.2.1
 optF (none) (params_Valid K ((b,()),())) fun y0 =>
 brn (bnot y0.1.1)
  (some (((I.of .u64 0),((I.of .i64 15),())),()))
  (optF (none) (backlog_Excess K ((a,(b.1,(b.2.1,()))),())) fun y1 =>
  optF (none) (math_bits_Mul64 K ((y1.1.1,((I.of .u64 10000),())),())) fun y2 =>
  brn (@I.leb .u64 (@I.mul .u64 b.2.2.1 b.1) y2.1.1)
   (some (((I.of .u64 200000),((I.of .i64 0),())),()))
   (optF (none) (math_bits_Div64 K ((y2.1.1,(y2.1.2.1,((@I.mul .u64 b.2.2.1 b.1),()))),())) fun y3 =>
   some (((@I.mn .u64 y3.1.1 (I.of .u64 200000)),((I.of .i64 0),())),())))
noncomputable def bips_Exp (K:Nat) (x:(⟨[.pl (.int .u64),.pl (.int .i64)],[]⟩:Tm).D):Option (⟨[.pl (.int .u64),.pl (.int .i64)],[]⟩:Tm).D :=
 let a:(I .u64):=x.1.1
 let b:(I .i64):=x.1.2.1
 jn (fun (x0:(((I .u64) × ((I .i64) × Unit)) × Unit)) =>
   iter (none) (fun x1 =>
     brn (@I.leb .i64 (I.of .i64 1) x1.1.2.2.1)
      (brn (@I.nz .u64 (@I.mul .u64 (I.conv (k:=.i64) .u64 x1.1.2.2.1) (I.of .u64 10000)))
       (.again ((x1.1.1,((@I.add .u64 (I.of .u64 10000) (@I.quo .u64 (@I.mul .u64 x1.1.2.1 x1.1.1) (@I.mul .u64 (I.conv (k:=.i64) .u64 x1.1.2.2.1) (I.of .u64 10000)))),((@I.sub .i64 x1.1.2.2.1 (I.of .i64 1)),()))),()))
       (.done (none)))
      (.done (some ((x1.1.2.1,((I.of .i64 0),())),()))))
   K ((x0.1.1,((I.of .u64 10000),(x0.1.2.1,()))),())) fun j0 =>
 brn (@I.ltb .u64 (I.of .u64 200000) a)
  (some (((I.of .u64 0),((I.of .i64 2),())),()))
  (brn (@I.ltb .i64 b (I.of .i64 1))
   (some (((I.of .u64 0),((I.of .i64 2),())),()))
   (brn (@I.ltb .i64 (I.of .i64 20) b)
    (some (((I.of .u64 0),((I.of .i64 2),())),()))
    (j0 ((a,(b,())),()))))
noncomputable def bips_ScaleExp (K:Nat) (x:(⟨[.pl u256,.pl (.int .u64),.pl (.int .i64)],[]⟩:Tm).D):Option (⟨[.pl u256,.pl (.int .i64)],[]⟩:Tm).D :=
 let a:U:=x.1.1
 let b:(I .u64):=x.1.2.1
 let c:(I .i64):=x.1.2.2.1
 optF (none) (bips_Exp K ((b,(c,())),())) fun y0 =>
 brn (@I.neb .i64 y0.1.2.1 (I.of .i64 0))
  (some ((Z_U,(y0.1.2.1,())),()))
  (optF (none) (bips_Scale K ((a,(y0.1.1,())),())) fun y1 =>
  some ((y1.1.1,(y1.1.2.1,())),()))
noncomputable def basefee_Fee (K:Nat) (x:(⟨[.pl (.int .u64),.pl Y_api_Params],[]⟩:Tm).D):Option (⟨[.pl u256,.pl (.int .i64)],[]⟩:Tm).D :=
 let a:(I .u64):=x.1.1
 let b:S_api_Params:=x.1.2.1
 optF (none) (basefee_Exponent K ((a,(b,())),())) fun y0 =>
 brn (@I.neb .i64 y0.1.2.1 (I.of .i64 0))
  (some ((Z_U,(y0.1.2.1,())),()))
  (optF (none) (bips_ScaleExp K ((b.2.2.2.1,(y0.1.1,((I.of .i64 10),()))),())) fun y1 =>
  some ((y1.1.1,(y1.1.2.1,())),()))
noncomputable def block_Genesis (K:Nat) (x:(⟨[.pl Y_api_Params],[]⟩:Tm).D):Option (⟨[.pl Y_api_Block,.pl (.int .i64)],[]⟩:Tm).D :=
 let a:S_api_Params:=x.1.1
 optF (none) (basefee_Fee K (((I.of .u64 0),(a,())),())) fun y0 =>
 brn (@I.neb .i64 y0.1.2.1 (I.of .i64 0))
  (some ((Z_S_api_Block,(y0.1.2.1,())),()))
  (some ((((I.of .u64 1),((I.of .u64 0),((I.of .u64 0),(y0.1.1,())))),((I.of .i64 0),())),()))
noncomputable def ledger_New (K:Nat) (x:(⟨[],[]⟩:Tm).D):Option (⟨[.ptr 0 []],H_ledger_Ledger⟩:Tm).D :=
 some ((),(((),(Z_S_A4_U,())),([],())))
noncomputable def merkle_New (K:Nat) (x:(⟨[],[]⟩:Tm).D):Option (⟨[.ptr 0 []],H_merkle_Tree⟩:Tm).D :=
 some ((),(((),()),([],())))
noncomputable def outbox_New (K:Nat) (x:(⟨[],[]⟩:Tm).D):Option (⟨[.ptr 0 []],H_outbox_Outbox⟩:Tm).D :=
 optF (none) (merkle_New K ((),())) fun y0 =>
 some ((),(((),((),())),(y0.2.1,([],(y0.2.2.1,())))))
noncomputable def escrow_New (K:Nat) (x:(⟨[],[]⟩:Tm).D):Option (⟨[.ptr 0 []],H_escrow_Escrow⟩:Tm).D :=
 some ((),(((),((),(Z_U,((),())))),([],([],([],())))))
noncomputable def executor_New (K:Nat) (x:(⟨[],[]⟩:Tm).D):Option (⟨[.ptr 0 []],H_executor_Machine⟩:Tm).D :=
 optF (none) (params_Genesis K ((),())) fun y0 =>
 optF (none) (block_Genesis K ((y0.1.1,()),())) fun y1 =>
 optF (none) (pricer_Genesis K ((),())) fun y2 =>
 optF (none) (ledger_New K ((),())) fun y3 =>
 optF (none) (outbox_New K ((),())) fun y4 =>
 optF (none) (escrow_New K ((),())) fun y5 =>
 some ((),(((I.of .u64 0),(y0.1.1,(y1.1.1,((I.of .u64 0),(y2.1.1,((),((),((),())))))))),(y3.2.1,(y4.2.1,(y4.2.2.1,(y5.2.1,(y3.2.2.1,(y4.2.2.2.1,(y4.2.2.2.2.1,(y5.2.2.1,(y5.2.2.2.1,(y5.2.2.2.2.1,()))))))))))))
noncomputable def slices_Clone___api_Account_api_Account_ (K:Nat) (x:(⟨[.pl (.sl Y_api_Account)],[]⟩:Tm).D):Option (⟨[.whole 0],[.row Y_api_Account]⟩:Tm).D :=
 let a:(List S_api_Account):=x.1.1
 brn (emptyN (@lenL S_api_Account a))
  (both (none)
   (some ((),([],())))
   (brn (fitsLen (@lenL S_api_Account (@appL S_api_Account [] a)))
    (some ((),((@appL S_api_Account [] a),())))
    (none)))
  (brn (fitsLen (@lenL S_api_Account (@appL S_api_Account [] a)))
   (some ((),((@appL S_api_Account [] a),())))
   (none))
noncomputable def slices_Clone___api_Account_api_Account_c (K:Nat) (x:(⟨[.pl (.sl Y_api_Account)],[]⟩:Tm).D):Option (⟨[.whole 0],[.row Y_api_Account]⟩:Tm).D:=brn (fitsLen (lenL x.1.1)) (some ((),(x.1.1,()))) none
theorem slices_Clone___api_Account_api_Account_c_eq (K:Nat):∀ x,slices_Clone___api_Account_api_Account_ K x = slices_Clone___api_Account_api_Account_c K x
  | ⟨⟨[],⟨⟩⟩,⟨⟩⟩=>both_eq rfl
  | ⟨⟨_ :: _,⟨⟩⟩,⟨⟩⟩=>rfl
noncomputable def ledger_Ledger_Accounts (K:Nat) (x:(⟨[.bp Y_pontageref11_Ledger],[]⟩:Tm).D):Option (⟨[.whole 0],[.row Y_api_Account]⟩:Tm).D :=
 let a:S_ledger_Ledger:=x.1.1
 optF (none) (slices_Clone___api_Account_api_Account_c K ((a.1,()),())) fun y0 =>
 some ((),(y0.2.1,()))
noncomputable def ledger_Ledger_Vaults (K:Nat) (x:(⟨[.bp Y_pontageref11_Ledger],[]⟩:Tm).D):Option (⟨[.pl (.arr 4 u256)],[]⟩:Tm).D :=
 let a:S_ledger_Ledger:=x.1.1
 some ((a.2.1,()),())
noncomputable def slices_Clone___api_Message_api_Message_ (K:Nat) (x:(⟨[.pl (.sl Y_api_Report)],[]⟩:Tm).D):Option (⟨[.whole 0],[.row Y_api_Report]⟩:Tm).D :=
 let a:(List S_api_Message):=x.1.1
 brn (emptyN (@lenL S_api_Message a))
  (both (none)
   (some ((),([],())))
   (brn (fitsLen (@lenL S_api_Message (@appL S_api_Message [] a)))
    (some ((),((@appL S_api_Message [] a),())))
    (none)))
  (brn (fitsLen (@lenL S_api_Message (@appL S_api_Message [] a)))
   (some ((),((@appL S_api_Message [] a),())))
   (none))
noncomputable def slices_Clone___api_Message_api_Message_c (K:Nat) (x:(⟨[.pl (.sl Y_api_Report)],[]⟩:Tm).D):Option (⟨[.whole 0],[.row Y_api_Report]⟩:Tm).D:=brn (fitsLen (lenL x.1.1)) (some ((),(x.1.1,()))) none
theorem slices_Clone___api_Message_api_Message_c_eq (K:Nat):∀ x,slices_Clone___api_Message_api_Message_ K x = slices_Clone___api_Message_api_Message_c K x
  | ⟨⟨[],⟨⟩⟩,⟨⟩⟩=>both_eq rfl
  | ⟨⟨_ :: _,⟨⟩⟩,⟨⟩⟩=>rfl
noncomputable def outbox_Outbox_All (K:Nat) (x:(⟨[.ptr 0 []],H_outbox_Outbox⟩:Tm).D):Option (⟨[.whole 4],[.box Y_outbox_Outbox (.pair (.whole 2) (.pair (.ptr 1 []) (.pl .nil))),.box (.cons (.sl (.arr 32 (.int .u8))) .nil) (.pair (.whole 3) (.pl .nil)),.row Y_api_Report,.row (.arr 32 (.int .u8)),.row Y_api_Report]⟩:Tm).D :=
 let h0:O_outbox_Outbox:=x.2.1
 let h1:O_merkle_Tree:=x.2.2.1
 let h2:(List S_api_Message):=x.2.2.2.1
 let h3:(List S_A32_intu8):=x.2.2.2.2.1
 optF (none) (slices_Clone___api_Message_api_Message_c K ((h2,()),())) fun y0 =>
 some ((),(h0,(h1,(h2,(h3,(y0.2.1,()))))))
noncomputable def escrow_Escrow_Balance (K:Nat) (x:(⟨[.bp Y_escrow_Escrow],[]⟩:Tm).D):Option (⟨[.pl u256],[]⟩:Tm).D :=
 let a:S_escrow_Escrow:=x.1.1
 some ((a.2.2.1,()),())
noncomputable def slices_Clone___api_Payment_api_Payment_ (K:Nat) (x:(⟨[.pl (.sl Y_api_Payment)],[]⟩:Tm).D):Option (⟨[.whole 0],[.row Y_api_Payment]⟩:Tm).D :=
 let a:(List S_api_Payment):=x.1.1
 brn (emptyN (@lenL S_api_Payment a))
  (both (none)
   (some ((),([],())))
   (brn (fitsLen (@lenL S_api_Payment (@appL S_api_Payment [] a)))
    (some ((),((@appL S_api_Payment [] a),())))
    (none)))
  (brn (fitsLen (@lenL S_api_Payment (@appL S_api_Payment [] a)))
   (some ((),((@appL S_api_Payment [] a),())))
   (none))
noncomputable def slices_Clone___api_Payment_api_Payment_c (K:Nat) (x:(⟨[.pl (.sl Y_api_Payment)],[]⟩:Tm).D):Option (⟨[.whole 0],[.row Y_api_Payment]⟩:Tm).D:=brn (fitsLen (lenL x.1.1)) (some ((),(x.1.1,()))) none
theorem slices_Clone___api_Payment_api_Payment_c_eq (K:Nat):∀ x,slices_Clone___api_Payment_api_Payment_ K x = slices_Clone___api_Payment_api_Payment_c K x
  | ⟨⟨[],⟨⟩⟩,⟨⟩⟩=>both_eq rfl
  | ⟨⟨_ :: _,⟨⟩⟩,⟨⟩⟩=>rfl
noncomputable def escrow_Escrow_L1Balances (K:Nat) (x:(⟨[.bp Y_escrow_Escrow],[]⟩:Tm).D):Option (⟨[.whole 0],[.row Y_api_Payment]⟩:Tm).D :=
 let a:S_escrow_Escrow:=x.1.1
 optF (none) (slices_Clone___api_Payment_api_Payment_c K ((a.2.2.2.1,()),())) fun y0 =>
 some ((),(y0.2.1,()))
noncomputable def slices_Clone___api_Poster_api_Poster_c (K:Nat) (x:(⟨[.pl (.sl Y_api_Poster)],[]⟩:Tm).D):Option (⟨[.whole 0],[.row Y_api_Poster]⟩:Tm).D:=brn (fitsLen (lenL x.1.1)) (some ((),(x.1.1,()))) none
theorem slices_Clone___api_Poster_api_Poster_c_eq (K:Nat):∀ x,slices_Clone___api_Poster_api_Poster_ K x = slices_Clone___api_Poster_api_Poster_c K x
  | ⟨⟨[],⟨⟩⟩,⟨⟩⟩=>both_eq rfl
  | ⟨⟨_ :: _,⟨⟩⟩,⟨⟩⟩=>rfl
noncomputable def escrow_Escrow_Size (K:Nat) (x:(⟨[.bp Y_escrow_Escrow],[]⟩:Tm).D):Option (⟨[.pl (.int .i64)],[]⟩:Tm).D :=
 let a:S_escrow_Escrow:=x.1.1
 some (((I.ofNat .i64 (@lenL S_A32_intu8 a.1)),()),())
noncomputable def escrow_Escrow_Claimed (K:Nat) (x:(⟨[.bp Y_escrow_Escrow,.pl (.int .u64)],[]⟩:Tm).D):Option (⟨[.pl .bool],[]⟩:Tm).D :=
 let a:S_escrow_Escrow:=x.1.1
 let b:(I .u64):=x.1.2.1
 optF (none) (escrow_Escrow_Size K ((a,()),())) fun y0 =>
 brn (@I.ltb .u64 b (I.conv (k:=.i64) .u64 y0.1.1))
  (brn (@inB .u64 b (@lenL Bool a.2.1))
   (some (((@rdL Bool false a.2.1 (@I.nat .u64 b)),()),()))
   (none))
  (some ((false,()),()))
noncomputable def executor_Machine_State (K:Nat) (x:(⟨[.ptr 0 []],H_executor_Machine⟩:Tm).D):Option (⟨[.pair (.pl (.int .u64)) (.pair (.pl Y_api_Params) (.pair (.pl Y_api_Block) (.pair (.pl (.int .u64)) (.pair (.pair (.pl u256) (.pair (.pl (.int .u64)) (.pair (.pl (.int .u64)) (.pair (.pl (.int .u64)) (.pair (.pl Y_api_Int256) (.pair (.whole 11) (.pl .nil))))))) (.pair (.whole 12) (.pair (.pl (.arr 4 u256)) (.pair (.whole 13) (.pair (.whole 14) (.pair (.pl u256) (.pair (.whole 15) (.pl .nil)))))))))))],[.box Y_executor_Machine (.pair (.pl (.int .u64)) (.pair (.pl Y_api_Params) (.pair (.pl Y_api_Block) (.pair (.pl (.int .u64)) (.pair (.pl Y_api_Pricer) (.pair (.ptr 1 []) (.pair (.ptr 2 []) (.pair (.ptr 4 []) (.pl .nil))))))))),.box Y_pontageref11_Ledger (.pair (.whole 5) (.pl (.cons (.arr 4 u256) .nil))),.box Y_outbox_Outbox (.pair (.whole 6) (.pair (.ptr 3 []) (.pl .nil))),.box (.cons (.sl (.arr 32 (.int .u8))) .nil) (.pair (.whole 7) (.pl .nil)),.box Y_escrow_Escrow (.pair (.whole 8) (.pair (.whole 9) (.pair (.pl u256) (.pair (.whole 10) (.pl .nil))))),.row Y_api_Account,.row Y_api_Report,.row (.arr 32 (.int .u8)),.row (.arr 32 (.int .u8)),.row .bool,.row Y_api_Payment,.row Y_api_Poster,.row Y_api_Account,.row Y_api_Report,.row .bool,.row Y_api_Payment]⟩:Tm).D :=
 let h0:O_pontageref28_Machine:=x.2.1
 let h1:O_ledger_Ledger:=x.2.2.1
 let h2:O_outbox_Outbox:=x.2.2.2.1
 let h3:O_merkle_Tree:=x.2.2.2.2.1
 let h4:O_escrow_Escrow:=x.2.2.2.2.2.1
 let h5:(List S_api_Account):=x.2.2.2.2.2.2.1
 let h6:(List S_api_Message):=x.2.2.2.2.2.2.2.1
 let h7:(List S_A32_intu8):=x.2.2.2.2.2.2.2.2.1
 let h8:(List S_A32_intu8):=x.2.2.2.2.2.2.2.2.2.1
 let h9:(List Bool):=x.2.2.2.2.2.2.2.2.2.2.1
 let h10:(List S_api_Payment):=x.2.2.2.2.2.2.2.2.2.2.2.1
 optF (none) (ledger_Ledger_Accounts K (((h5,h1.2),()),())) fun y0 =>
 optF (none) (ledger_Ledger_Vaults K (((h5,h1.2),()),())) fun y1 =>
 optF (none) (outbox_Outbox_All K ((),(((),((),h2.2.2)),(((),h3.2),(h6,(h7,())))))) fun y2 =>
 optF (none) (escrow_Escrow_Balance K (((h8,(h9,(h4.2.2.1,(h10,h4.2.2.2.2)))),()),())) fun y3 =>
 optF (none) (escrow_Escrow_L1Balances K (((h8,(h9,(h4.2.2.1,(h10,h4.2.2.2.2)))),()),())) fun y4 =>
 optF (none) (slices_Clone___api_Poster_api_Poster_c K ((h0.2.2.2.2.1.2.2.2.2.2.1,()),())) fun y5 =>
 iter (none) (fun (x6:(((I .i64) × ((I .i64) × Unit)) × (O_pontageref28_Machine × (O_ledger_Ledger × ((List S_api_Account) × (O_outbox_Outbox × ((List S_api_Message) × (O_merkle_Tree × ((List S_A32_intu8) × (O_escrow_Escrow × ((List S_A32_intu8) × ((List Bool) × ((List S_api_Payment) × (((I .u64) × (S_api_Params × (S_api_Block × ((I .u64) × ((U × ((I .u64) × ((I .u64) × ((I .u64) × (S_api_Int256 × O_merkle_Tree))))) × (Unit × (S_A4_U × O_escrow_Escrow))))))) × ((List S_api_Poster) × ((List S_api_Account) × ((List S_api_Message) × ((List Bool) × ((List S_api_Payment) × (((I .u64) × (S_api_Params × (S_api_Block × ((I .u64) × ((U × ((I .u64) × ((I .u64) × ((I .u64) × (S_api_Int256 × O_merkle_Tree))))) × (Unit × (S_A4_U × O_escrow_Escrow))))))) × ((List S_api_Poster) × ((List S_api_Account) × ((List S_api_Message) × ((List Bool) × ((List S_api_Payment) × Unit))))))))))))))))))))))))) =>
   brn (@I.ltb .i64 x6.1.2.1 x6.1.1)
    (optF (.done (none)) (escrow_Escrow_Claimed K (((x6.2.2.2.2.2.2.2.2.2.1,(x6.2.2.2.2.2.2.2.2.2.2.1,(x6.2.2.2.2.2.2.2.2.1.2.2.1,(x6.2.2.2.2.2.2.2.2.2.2.2.1,x6.2.2.2.2.2.2.2.2.1.2.2.2.2)))),((I.conv (k:=.i64) .u64 x6.1.2.1),())),())) fun y7 =>
    brn (fitsLen (@lenL Bool (@appL Bool x6.2.2.2.2.2.2.2.2.2.2.2.2.2.2.2.2.2.2.2.2.2.2.1 (y7.1.1 :: []))))
     (.again ((x6.1.1,((@I.add .i64 x6.1.2.1 (I.of .i64 1)),())),((x6.2.1.1,(x6.2.1.2.1,(x6.2.1.2.2.1,(x6.2.1.2.2.2.1,(x6.2.1.2.2.2.2.1,((),((),((),x6.2.1.2.2.2.2.2.2.2.2)))))))),(((),x6.2.2.1.2),(x6.2.2.2.1,(((),((),x6.2.2.2.2.1.2.2)),(x6.2.2.2.2.2.1,(((),x6.2.2.2.2.2.2.1.2),(x6.2.2.2.2.2.2.2.1,(((),((),(x6.2.2.2.2.2.2.2.2.1.2.2.1,((),x6.2.2.2.2.2.2.2.2.1.2.2.2.2)))),(x6.2.2.2.2.2.2.2.2.2.1,(x6.2.2.2.2.2.2.2.2.2.2.1,(x6.2.2.2.2.2.2.2.2.2.2.2.1,((x6.2.2.2.2.2.2.2.2.2.2.2.2.1.1,(x6.2.2.2.2.2.2.2.2.2.2.2.2.1.2.1,(x6.2.2.2.2.2.2.2.2.2.2.2.2.1.2.2.1,(x6.2.2.2.2.2.2.2.2.2.2.2.2.1.2.2.2.1,((x6.2.2.2.2.2.2.2.2.2.2.2.2.1.2.2.2.2.1.1,(x6.2.2.2.2.2.2.2.2.2.2.2.2.1.2.2.2.2.1.2.1,(x6.2.2.2.2.2.2.2.2.2.2.2.2.1.2.2.2.2.1.2.2.1,(x6.2.2.2.2.2.2.2.2.2.2.2.2.1.2.2.2.2.1.2.2.2.1,(x6.2.2.2.2.2.2.2.2.2.2.2.2.1.2.2.2.2.1.2.2.2.2.1,((),x6.2.2.2.2.2.2.2.2.2.2.2.2.1.2.2.2.2.1.2.2.2.2.2.2)))))),((),(x6.2.2.2.2.2.2.2.2.2.2.2.2.1.2.2.2.2.2.2.1,((),((),(x6.2.2.2.2.2.2.2.2.2.2.2.2.1.2.2.2.2.2.2.2.2.2.1,((),x6.2.2.2.2.2.2.2.2.2.2.2.2.1.2.2.2.2.2.2.2.2.2.2.2))))))))))),(x6.2.2.2.2.2.2.2.2.2.2.2.2.2.1,(x6.2.2.2.2.2.2.2.2.2.2.2.2.2.2.1,(x6.2.2.2.2.2.2.2.2.2.2.2.2.2.2.2.1,(x6.2.2.2.2.2.2.2.2.2.2.2.2.2.2.2.2.1,(x6.2.2.2.2.2.2.2.2.2.2.2.2.2.2.2.2.2.1,((x6.2.2.2.2.2.2.2.2.2.2.2.2.2.2.2.2.2.2.1.1,(x6.2.2.2.2.2.2.2.2.2.2.2.2.2.2.2.2.2.2.1.2.1,(x6.2.2.2.2.2.2.2.2.2.2.2.2.2.2.2.2.2.2.1.2.2.1,(x6.2.2.2.2.2.2.2.2.2.2.2.2.2.2.2.2.2.2.1.2.2.2.1,((x6.2.2.2.2.2.2.2.2.2.2.2.2.2.2.2.2.2.2.1.2.2.2.2.1.1,(x6.2.2.2.2.2.2.2.2.2.2.2.2.2.2.2.2.2.2.1.2.2.2.2.1.2.1,(x6.2.2.2.2.2.2.2.2.2.2.2.2.2.2.2.2.2.2.1.2.2.2.2.1.2.2.1,(x6.2.2.2.2.2.2.2.2.2.2.2.2.2.2.2.2.2.2.1.2.2.2.2.1.2.2.2.1,(x6.2.2.2.2.2.2.2.2.2.2.2.2.2.2.2.2.2.2.1.2.2.2.2.1.2.2.2.2.1,((),x6.2.2.2.2.2.2.2.2.2.2.2.2.2.2.2.2.2.2.1.2.2.2.2.1.2.2.2.2.2.2)))))),((),(x6.2.2.2.2.2.2.2.2.2.2.2.2.2.2.2.2.2.2.1.2.2.2.2.2.2.1,((),((),(x6.2.2.2.2.2.2.2.2.2.2.2.2.2.2.2.2.2.2.1.2.2.2.2.2.2.2.2.2.1,((),x6.2.2.2.2.2.2.2.2.2.2.2.2.2.2.2.2.2.2.1.2.2.2.2.2.2.2.2.2.2.2))))))))))),(x6.2.2.2.2.2.2.2.2.2.2.2.2.2.2.2.2.2.2.2.1,(x6.2.2.2.2.2.2.2.2.2.2.2.2.2.2.2.2.2.2.2.2.1,(x6.2.2.2.2.2.2.2.2.2.2.2.2.2.2.2.2.2.2.2.2.2.1,((@appL Bool x6.2.2.2.2.2.2.2.2.2.2.2.2.2.2.2.2.2.2.2.2.2.2.1 (y7.1.1 :: [])),(x6.2.2.2.2.2.2.2.2.2.2.2.2.2.2.2.2.2.2.2.2.2.2.2.1,())))))))))))))))))))))))))
     (.done (none)))
    (.done (some (((x6.2.2.2.2.2.2.2.2.2.2.2.2.2.2.2.2.2.2.1.1,(x6.2.2.2.2.2.2.2.2.2.2.2.2.2.2.2.2.2.2.1.2.1,(x6.2.2.2.2.2.2.2.2.2.2.2.2.2.2.2.2.2.2.1.2.2.1,(x6.2.2.2.2.2.2.2.2.2.2.2.2.2.2.2.2.2.2.1.2.2.2.1,((x6.2.2.2.2.2.2.2.2.2.2.2.2.2.2.2.2.2.2.1.2.2.2.2.1.1,(x6.2.2.2.2.2.2.2.2.2.2.2.2.2.2.2.2.2.2.1.2.2.2.2.1.2.1,(x6.2.2.2.2.2.2.2.2.2.2.2.2.2.2.2.2.2.2.1.2.2.2.2.1.2.2.1,(x6.2.2.2.2.2.2.2.2.2.2.2.2.2.2.2.2.2.2.1.2.2.2.2.1.2.2.2.1,(x6.2.2.2.2.2.2.2.2.2.2.2.2.2.2.2.2.2.2.1.2.2.2.2.1.2.2.2.2.1,((),x6.2.2.2.2.2.2.2.2.2.2.2.2.2.2.2.2.2.2.1.2.2.2.2.1.2.2.2.2.2.2)))))),((),(x6.2.2.2.2.2.2.2.2.2.2.2.2.2.2.2.2.2.2.1.2.2.2.2.2.2.1,((),((),(x6.2.2.2.2.2.2.2.2.2.2.2.2.2.2.2.2.2.2.1.2.2.2.2.2.2.2.2.2.1,((),x6.2.2.2.2.2.2.2.2.2.2.2.2.2.2.2.2.2.2.1.2.2.2.2.2.2.2.2.2.2.2))))))))))),()),((x6.2.1.1,(x6.2.1.2.1,(x6.2.1.2.2.1,(x6.2.1.2.2.2.1,(x6.2.1.2.2.2.2.1,((),((),((),x6.2.1.2.2.2.2.2.2.2.2)))))))),(((),x6.2.2.1.2),(((),((),x6.2.2.2.2.1.2.2)),(((),x6.2.2.2.2.2.2.1.2),(((),((),(x6.2.2.2.2.2.2.2.2.1.2.2.1,((),x6.2.2.2.2.2.2.2.2.1.2.2.2.2)))),(x6.2.2.2.1,(x6.2.2.2.2.2.1,(x6.2.2.2.2.2.2.2.1,(x6.2.2.2.2.2.2.2.2.2.1,(x6.2.2.2.2.2.2.2.2.2.2.1,(x6.2.2.2.2.2.2.2.2.2.2.2.1,(x6.2.2.2.2.2.2.2.2.2.2.2.2.2.2.2.2.2.2.2.1,(x6.2.2.2.2.2.2.2.2.2.2.2.2.2.2.2.2.2.2.2.2.1,(x6.2.2.2.2.2.2.2.2.2.2.2.2.2.2.2.2.2.2.2.2.2.1,(x6.2.2.2.2.2.2.2.2.2.2.2.2.2.2.2.2.2.2.2.2.2.2.1,(x6.2.2.2.2.2.2.2.2.2.2.2.2.2.2.2.2.2.2.2.2.2.2.2.1,()))))))))))))))))))))
 K (((I.ofNat .i64 (@lenL S_api_Message y2.2.2.2.2.2.1)),((I.of .i64 0),())),((h0.1,(h0.2.1,(h0.2.2.1,(h0.2.2.2.1,(h0.2.2.2.2.1,((),((),((),h0.2.2.2.2.2.2.2.2)))))))),(((),h1.2),(h5,(((),((),y2.2.1.2.2)),(y2.2.2.2.1,(((),y2.2.2.1.2),(y2.2.2.2.2.1,(((),((),(h4.2.2.1,((),h4.2.2.2.2)))),(h8,(h9,(h10,(((I.of .u64 0),(Z_S_api_Params,(Z_S_api_Block,((I.of .u64 0),((Z_U,((I.of .u64 0),((I.of .u64 0),((I.of .u64 0),(Z_S_api_Int256,((),())))))),((),(Z_S_A4_U,((),((),(Z_U,((),()))))))))))),([],([],([],([],([],((h0.1,(h0.2.1,(h0.2.2.1,(h0.2.2.2.1,((h0.2.2.2.2.1.1,(h0.2.2.2.2.1.2.1,(h0.2.2.2.2.1.2.2.1,(h0.2.2.2.2.1.2.2.2.1,(h0.2.2.2.2.1.2.2.2.2.1,((),h0.2.2.2.2.1.2.2.2.2.2.2)))))),((),(y1.1.1,((),((),(y3.1.1,((),()))))))))))),(y5.2.1,(y0.2.1,(y2.2.2.2.2.2.1,([],(y4.2.1,()))))))))))))))))))))))))
noncomputable def slices_Concat___byte_byte_ (K:Nat) (x:(⟨[.pl (.sl (.sl (.int .u8)))],[]⟩:Tm).D):Option (⟨[.whole 0],[.row (.int .u8)]⟩:Tm).D :=
 let a:(List (List (I .u8))):=x.1.1
 iter (none) (fun x0 =>
   brn (@I.ltb .i64 x0.1.2.2.2.2.1 x0.1.2.2.2.1)
    (brn (@inB .i64 x0.1.2.2.2.2.1 (@lenL (List (I .u8)) x0.1.2.2.1))
     (brn (@I.ltb .i64 (@I.add .i64 x0.1.2.1 (I.ofNat .i64 (@lenL (I .u8) (@rdL (List (I .u8)) [] x0.1.2.2.1 (@I.nat .i64 x0.1.2.2.2.2.1))))) (I.of .i64 0))
      (.done (none))
      (.again ((x0.1.1,((@I.add .i64 x0.1.2.1 (I.ofNat .i64 (@lenL (I .u8) (@rdL (List (I .u8)) [] x0.1.2.2.1 (@I.nat .i64 x0.1.2.2.2.2.1))))),(x0.1.2.2.1,(x0.1.2.2.2.1,((@I.add .i64 x0.1.2.2.2.2.1 (I.of .i64 1)),()))))),())))
     (.done (none)))
    (.done (brn (@I.ltb .i64 x0.1.2.1 (I.of .i64 0))
     (none)
     (brn (@I.ltb .i64 (I.of .i64 0) (@I.sub .i64 x0.1.2.1 (I.of .i64 0)))
      (brn (@I.ltb .i64 (I.of .i64 0) (@I.sub .i64 x0.1.2.1 (I.of .i64 0)))
       (brn (@inB' .i64 (@I.sub .i64 x0.1.2.1 (I.of .i64 0)) 1073741824)
        (brn (@inB' .i64 (I.of .i64 0) (@lenL (I .u8) (@zrow (I .u8) (@I.nat .i64 (@I.sub .i64 x0.1.2.1 (I.of .i64 0))) (I.of .u8 0))))
         (iter (none) (fun x1 =>
           brn (@I.ltb .i64 x1.1.2.2.1 x1.1.2.1)
            (brn (@inB .i64 x1.1.2.2.1 (@lenL (List (I .u8)) x1.1.1))
             (brn (fitsLen (@lenL (I .u8) (@appL (I .u8) x1.2.1 (@rdL (List (I .u8)) [] x1.1.1 (@I.nat .i64 x1.1.2.2.1)))))
              (.again ((x1.1.1,(x1.1.2.1,((@I.add .i64 x1.1.2.2.1 (I.of .i64 1)),()))),((@appL (I .u8) x1.2.1 (@rdL (List (I .u8)) [] x1.1.1 (@I.nat .i64 x1.1.2.2.1))),())))
              (.done (none)))
             (.done (none)))
            (.done (some ((),(x1.2.1,())))))
         K ((x0.1.1,((I.ofNat .i64 (@lenL (List (I .u8)) x0.1.1)),((I.of .i64 0),()))),((@subL (I .u8) (@zrow (I .u8) (@I.nat .i64 (@I.sub .i64 x0.1.2.1 (I.of .i64 0))) (I.of .u8 0)) 0 0),())))
         (none))
        (none))
       (none))
      (none)))))
 K ((a,((I.of .i64 0),(a,((I.ofNat .i64 (@lenL (List (I .u8)) a)),((I.of .i64 0),()))))),())
noncomputable def wire_encode (K:Nat) (x:(⟨[.pl u256],[]⟩:Tm).D):Option (⟨[.pl (.sl (.int .u8))],[]⟩:Tm).D :=
 let a:U:=x.1.1
 optF (none) (uint256_BitLen K ((a,()),())) fun y0 =>
 iter (none) (fun (x1:(((I .i64) × Unit) × (U × ((List (I .u8)) × Unit)))) =>
   brn (@I.leb .i64 (I.of .i64 0) x1.1.1)
    (brn (@inB .i64 (@I.quo .i64 x1.1.1 (I.of .i64 8)) 4)
     (brn (@I.nn .i64 (@I.mul .i64 (I.of .i64 8) (@I.rem .i64 x1.1.1 (I.of .i64 8))))
      (brn (fitsLen (@lenL (I .u8) (@appL (I .u8) x1.2.2.1 ((I.conv (k:=.u64) .u8 (@I.shr .u64 .i64 (@Arr.sel (I .u64) (I.of .u64 0) 4 x1.2.1 (@I.nat .i64 (@I.quo .i64 x1.1.1 (I.of .i64 8)))) (@I.mul .i64 (I.of .i64 8) (@I.rem .i64 x1.1.1 (I.of .i64 8))))) :: []))))
       (.again (((@I.sub .i64 x1.1.1 (I.of .i64 1)),()),(x1.2.1,((@appL (I .u8) x1.2.2.1 ((I.conv (k:=.u64) .u8 (@I.shr .u64 .i64 (@Arr.sel (I .u64) (I.of .u64 0) 4 x1.2.1 (@I.nat .i64 (@I.quo .i64 x1.1.1 (I.of .i64 8)))) (@I.mul .i64 (I.of .i64 8) (@I.rem .i64 x1.1.1 (I.of .i64 8))))) :: [])),()))))
       (.done (none)))
      (.done (none)))
     (.done (none)))
    (.done (some ((x1.2.2.1,()),()))))
 K (((@I.sub .i64 (@I.quo .i64 (@I.add .i64 y0.1.1 (I.of .i64 7)) (I.of .i64 8)) (I.of .i64 1)),()),(a,(((I.conv (k:=.i64) .u8 (@I.quo .i64 (@I.add .i64 y0.1.1 (I.of .i64 7)) (I.of .i64 8))) :: []),())))
end Sym

/- The given functions as plain functions, as the printer told them. -/
namespace Sym
open Go
noncomputable def wire_AppendUint256 (K:Nat) (x:(⟨[.pl (.sl (.int .u8)),.pl u256],[]⟩:Tm).D):Option (⟨[.whole 0],[.row (.int .u8)]⟩:Tm).D :=
 let a:(List (I .u8)):=x.1.1
 let b:U:=x.1.2.1
 optF (none) (wire_encode K ((b,()),())) fun y0 =>
 optF (none) (slices_Concat___byte_byte_ K (((a :: (y0.1.1 :: [])),()),())) fun y1 =>
 some ((),(y1.2.1,()))
noncomputable def wire_AppendUint64 (K:Nat) (x:(⟨[.pl (.sl (.int .u8)),.pl (.int .u64)],[]⟩:Tm).D):Option (⟨[.whole 0],[.row (.int .u8)]⟩:Tm).D :=
 let a:(List (I .u8)):=x.1.1
 let b:(I .u64):=x.1.2.1
 optF (none) (uint256_FromUint64 K ((b,()),())) fun y0 =>
 optF (none) (wire_AppendUint256 K ((a,(y0.1.1,())),())) fun y1 =>
 some ((),(y1.2.1,()))
end Sym

/- slices.Insert and slices.Delete at rows of any elements, as the machine runs them. -/
namespace Sym
open Go Go.Proofs Go.RowKit Go.Lib Go.Shelf
structure InsP (P:Program) (ρ:Go.Shelf.Ren) (s:Nat):Prop where
  pos:0 < s
  mixed:P.follows .mixedOrders = true
  f22:Bears P (ρ.f 22) (Body2.n22 ρ)
  t3:P.underlying (ρ.t 3) = some (.int .i64)
  a3:∀ w,(isAgg (ρ.t 3)).run P w = .ok false w
  a24:∀ w,(isAgg (ρ.t 24)).run P w = .ok false w
  t24:P.underlying (ρ.t 24) = some (.slice (ρ.t 9))
  i9:(P.info? (ρ.t 9)).map (·.size) = some s
  ov : ∃ fn, P.funcs[ρ.f 29]? = some fn ∧ fn.body = none ∧ (fn.name == "runtime.NumGoroutine") = false ∧ (Extern.findNext fn).isNone = true ∧ Extern.find fn = some (Extern.SlicesOverlaps.overlaps #[ρ.t 24, ρ.t 24] #[ρ.t 4])
section
variable {P:Program} {ρ:Go.Shelf.Ren} {s:Nat}
theorem run_copy_rowN (w : World) (dT sT ty elem : TypeId) (g o dLen dCap : Nat) (a : Addr) (sLen sCap : Nat) (cur : Array Value) (t : TypeId) (cs : List Value) (sz : Nat)
    (hu:P.underlying dT = some (.slice elem)) (hs:(P.info? elem).map (·.size) = some sz)
    (hg:w.heap[g]? = some (.cells cur t (0,0))) (hn:cs.length = Nat.min sLen dLen * sz)
    (hsrc:∀ j v,cs[j]? = some v→w.cell? (a.add j) = some v) (hfit:o + cs.length ≤ cur.size) (h1:∀ v ∈ cs,v.oneCell' = true) :
    (Builtin.copy_ #[dT,sT] ty #[.slice (some ⟨g,o,none⟩) dLen dCap,.slice (some a) sLen sCap]).run P w =
      .ok (goInt (Nat.min sLen dLen)) (w.setRow g (cur.toList.take o ++ cs ++ cur.toList.drop (o + cs.length)).toArray):=by
  have hl:=run_loadCells_list (P:=P) w a cs hsrc
  have hst:=run_storeCells_at P g o t cs 0 cur w hg (by simpa using hfit) h1
  cases hq:P.info? elem with
  | none=>simp [hq] at hs
  | some i =>
    have hi:i.size = sz:=by simpa [hq] using hs
    simp [Builtin.copy_,run_underlying hu,Builtin.lenOf,Builtin.firstCells,Go.sizeOf,typeInfo,hq,hi,← hn,hl,hst]
theorem InsP.sizeOf (h:InsP P ρ s) (w:World):(Go.sizeOf (ρ.t 9)).run P w = .ok s w:=by
  have h:=h.i9
  cases hq:P.info? (ρ.t 9) with
  | none=>rw [hq] at h; cases h
  | some i =>
    have hi:i.size = s:=by rw [hq] at h; simpa using h
    simp [Go.sizeOf,typeInfo,hq,hi]
set_option maxHeartbeats 1000000 in
set_option maxRecDepth 100000 in
theorem insert_end (h : InsP P ρ s) (n m : Nat) (hd hv : Value) (w w' : World) (hd' : Value) (hm : 0 < m) (hn : n ≤ 1073741824)
    (hdl:hd = .slice none 0 0∧n = 0 ∨ ∃ g cap,hd = .slice (some ⟨g,0,none⟩) n cap∧n ≤ cap∧cap ≤ maxLen) (hvl:∃ a c,hv = .slice a m c)
    (hrun:(Builtin.append_ #[(ρ.t 24),(ρ.t 24)] (ρ.t 24) #[hd,hv]).run P w = .ok hd' w') :
    Calls P (ρ.f 22) #[hd,.int .i64 n,hv] w fun e w2=>e = .returned hd'∧w2 = w':=by
  obtain ⟨a,c,rfl⟩:=hvl
  have mixed:=h.mixed
  obtain ⟨_,_,FG⟩:=h.f22
  have z9:=h.sizeOf; have t24:=h.t24; have t3:=h.t3; have a3:=h.a3; have a24:=h.a24; have u24:=run_underlying h.t24; have u3:=run_underlying h.t3
  have hz1:¬ ((m:Int) = 0):=by omega
  go_enter FG,Body2.n22_ntmps ρ
  rcases hdl with ⟨rfl,rfl⟩ | ⟨g,cap,rfl,h1,h2⟩
  · go_wp2_with (at_builtin; refine Lib.wpList_append_run _ rfl _ _ _ _ rfl _ _ rfl rfl _ _ hrun ?_)
    go_ret
    exact ⟨rfl,rfl⟩
  · go_wp2_with (at_builtin; refine Lib.wpList_append_run _ rfl _ _ _ _ rfl _ _ rfl rfl _ _ hrun ?_)
    all_goals (go_ret; exact ⟨rfl,rfl⟩)
set_option maxHeartbeats 1000000 in
set_option maxRecDepth 100000 in
theorem insert_room (h : InsP P ρ s) (n m i cap vc g vb : Nat) (cur curv cur1 cur2 : Array Value) (cs vs : List Value) (e ev : TypeId) (w : World) (hm : 0 < m) (hi : i < n) (hroom : n + m ≤ cap) (hc63 : cap ≤ maxLen) (hvb : vb ≠ g)
    (hg:w.heap[g]? = some (.cells cur e (0,0))) (hv:w.heap[vb]? = some (.cells curv ev (0,0))) (hcs:cur.size = cap * s) (hvs:m * s ≤ curv.size)
    (h1:∀ v ∈ cs,v.oneCell' = true) (h1v:∀ v ∈ vs,v.oneCell' = true)
    (hcs0:cs = (cur.toList.drop (i * s)).take ((n - i) * s)) (hvs0:vs = curv.toList.take (m * s))
    (hc1:cur1 = (cur.toList.take ((i + m) * s) ++ cs ++ cur.toList.drop ((i + m) * s + cs.length)).toArray)
    (hc2:cur2 = (cur1.toList.take (i * s) ++ vs ++ cur1.toList.drop (i * s + vs.length)).toArray) :
    Calls P (ρ.f 22) #[.slice (some ⟨g,0,none⟩) n cap,.int .i64 i,.slice (some ⟨vb,0,none⟩) m vc] w fun e w2=>e = .returned (.slice (some ⟨g,0,none⟩) (n + m) cap)∧w2 = (w.drew.setRow g cur1).setRow g cur2:=by
  have mixed:=h.mixed
  obtain ⟨_,_,FG⟩:=h.f22
  obtain ⟨fo,o1,o2,o3,o4,o5⟩:=h.ov
  have hpos:=h.pos; have z9:=h.sizeOf; have t24:=h.t24; have t3:=h.t3; have a3:=h.a3; have a24:=h.a24; have u24:=run_underlying h.t24; have u3:=run_underlying h.t3
  have e0:i * s + (n - i) * s = n * s:=by rw [← Nat.add_mul]; congr 1; omega
  have e4:(i + m) * s = i * s + m * s:=Nat.add_mul _ _ _
  have e5:(n + m) * s = n * s + m * s:=Nat.add_mul _ _ _
  have e6:(n + m - i) * s = (n + m) * s - i * s:=Nat.sub_mul _ _ _
  have e8:(n - i) * s = n * s - i * s:=Nat.sub_mul _ _ _
  have e9:i * s ≤ n * s:=Nat.mul_le_mul_right _ (by omega)
  have e2:(n + m) * s ≤ cap * s:=Nat.mul_le_mul_right _ hroom
  have e7:n * s ≤ cap * s:=Nat.mul_le_mul_right _ (by omega)
  have hz1:¬ ((m:Int) = 0):=by omega
  have hz2:¬ ((i:Int) = (n:Int)):=by omega
  have hov:∀ lb cb,(callFunc (ρ.f 29) #[.slice (some ⟨vb,0,none⟩) m vc,.slice (some ⟨g,(i + m) * s,none⟩) lb cb]).run P w = .ok (.value (.bool false)) w:=fun lb cb=>by
    rw [run_callFunc_extern o1 o3 (by rw [o2]; rfl) (Option.isNone_iff_eq_none.1 o4) o5,
      Lib.run_overlaps_apart w (ρ.t 24) (ρ.t 4) (ρ.t 9) h.t24 s h.sizeOf ⟨vb,0,none⟩ ⟨g,(i + m) * s,none⟩ m vc lb cb hvb ev e curv.size cur.size (by simp [World.shape?,hv]) (by simp [World.shape?,hg]) (by rw [hcs]; exact Nat.ne_of_gt (Nat.mul_pos (by omega) hpos)) (by simp [World.frozen?,hv]) (by simp [World.frozen?,hv])]
    rfl
  have hw1:IntKind.i64.wrap ((i:Int) + (m:Int)) = (i:Int) + (m:Int):=by rw [IntKind.wrap_i64]; unfold maxLen at hc63; omega
  have hw2:IntKind.i64.wrap ((n:Int) + (m:Int)) = (n:Int) + (m:Int):=by rw [IntKind.wrap_i64]; unfold maxLen at hc63; omega
  have hb1:(0:Int) ≤ (i:Int) + (m:Int):=by omega
  have hin:i ≤ n:=by omega
  have htn:((i:Int) + (m:Int)).toNat = i + m:=by omega
  have hb2:¬ (cap = i + m):=by omega
  have hb3:(i:Int) ≤ (n:Int) + (m:Int):=by omega
  have hb4:¬ (cap = i):=by omega
  have e1:(i + m) * s + (n - i) * s = (n + m) * s:=by omega
  have hcl:cs.length = (n - i) * s:=by rw [hcs0,List.length_take,List.length_drop,Array.length_toList,hcs]; omega
  have hvl:vs.length = m * s:=by rw [hvs0,List.length_take,Array.length_toList]; omega
  have hc1s:cur1.size = cap * s:=by rw [hc1]; simp only [List.size_toArray,List.length_append,List.length_take,List.length_drop,Array.length_toList,hcl,hcs]; omega
  have hcp1:∀ ty dc sc,(Builtin.copy_ #[(ρ.t 24),(ρ.t 24)] ty #[.slice (some ⟨g,(i + m) * s,none⟩) (n + m - (i + m)) dc,.slice (some ⟨g,i * s,none⟩) (n + m - i) sc]).run P w.drew = .ok (goInt (Nat.min (n + m - i) (n + m - (i + m)))) (w.drew.setRow g cur1):=fun ty dc sc=>by
    have hmin:Nat.min (n + m - i) (n + m - (i + m)) = n - i:=by simp only [Nat.min_def]; split <;> omega
    rw [hc1]
    exact run_copy_rowN w.drew (ρ.t 24) (ρ.t 24) ty (ρ.t 9) g ((i + m) * s) _ dc ⟨g,i * s,none⟩ _ sc cur e cs s h.t24 h.i9 hg (by rw [hmin]; exact hcl)
      (fun j v hj=>by
        rw [Addr.add_lit]
        have:(cur.toList.drop (i * s))[j]? = some v:=by rw [hcs0,List.getElem?_take] at hj; split at hj; exact hj; cases hj
        rw [List.getElem?_drop] at this
        have h2:w.drew.heap[g]? = some (.cells cur e (0,0)):=hg
        simp only [World.cell?,h2]
        simpa using this) (by omega) h1
  have hcp2:∀ (W:World),W.heap = (w.drew.setRow g cur1).heap→∀ ty dc,(Builtin.copy_ #[(ρ.t 24),(ρ.t 24)] ty #[.slice (some ⟨g,i * s,none⟩) (n + m - i) dc,.slice (some ⟨vb,0,none⟩) m vc]).run P W = .ok (goInt (Nat.min m (n + m - i))) (W.setRow g cur2):=fun W hW ty dc=>by
    rw [hc2]
    have hmin:Nat.min m (n + m - i) = m:=by simp only [Nat.min_def]; split <;> omega
    exact run_copy_rowN W (ρ.t 24) (ρ.t 24) ty (ρ.t 9) g (i * s) _ dc ⟨vb,0,none⟩ _ vc cur1 e vs s h.t24 h.i9 (by rw [hW]; exact setRow_heap w.drew g cur cur1 e _ hg) (by rw [hmin]; exact hvl)
      (fun j v hj=>by
        rw [Addr.add_lit]
        have:curv.toList[j]? = some v:=by rw [hvs0,List.getElem?_take] at hj; split at hj; exact hj; cases hj
        have h2:W.heap[vb]? = some (.cells curv ev (0,0)):=by rw [hW,setRow_other w.drew g vb cur1 hvb]; exact hv
        simp only [World.cell?,h2]
        simpa using this) (by omega) h1v
  clear hc1 hc2 hcs0 hvs0 hcl hvl hc1s e1 e2 e0 e4 e5 e6 e7 e8 e9
  go_enter FG,Body2.n22_ntmps ρ
  go_wp2_with (simp only [hov])
  go_region_law_o (refine step_copy_runI rfl _ _ (ρ.t 24) (ρ.t 24) rfl _ _ (by simp [Act.eval,Act.put]) (by simp [Act.eval,Act.put]) (hcp1 _ _ _) ?_)
  go_wp2_with (at_builtin; refine wpList_copy_runI _ rfl _ _ (ρ.t 24) (ρ.t 24) rfl _ _ rfl rfl (hcp2 _ rfl _ _) ?_)
  go_ret
  exact ⟨rfl,rfl⟩
set_option maxHeartbeats 2000000 in
set_option maxRecDepth 100000 in
theorem insert_grow (h : InsP P ρ s) (n m i cap vc g vb : Nat) (cur curv ROW ROW1 ROW2 : Array Value) (cs vs olds : List Value) (e ev : TypeId) (w : World) (i0 : TypeInfo) (z : Value) (hi0 : P.info? (ρ.t 9) = some i0) (hz0 : i0.zero = some z) (hzs : i0.size = s) (hzc : z.cells.size = s) (hby : i0.bytes ≤ 131072)
    (hm:0 < m) (hi:i < n) (hnc:n ≤ cap) (hroom:cap < n + m) (hlim:n + m ≤ 1073741824) (hvb:vb ≠ g)
    (hg:w.heap[g]? = some (.cells cur e (0,0))) (hv:w.heap[vb]? = some (.cells curv ev (0,0))) (hcs:cur.size = cap * s) (hvs:m * s ≤ curv.size)
    (h1:∀ v ∈ cs,v.oneCell' = true) (h1v:∀ v ∈ vs,v.oneCell' = true)
    (hol:olds = cur.toList.take (i * s)) (hcs0:cs = (cur.toList.drop (i * s)).take ((n - i) * s)) (hvs0:vs = curv.toList.take (m * s))
    (hROW:ROW = olds.toArray ++ Builtin.zeroCells z.cells (n + m - i) ++ Builtin.zeroCells z.cells (grownCap w (n + m) cap (ρ.t 9) - (n + m)))
    (hc1:ROW1 = (ROW.toList.take (i * s) ++ vs ++ ROW.toList.drop (i * s + vs.length)).toArray)
    (hc2:ROW2 = (ROW1.toList.take ((i + m) * s) ++ cs ++ ROW1.toList.drop ((i + m) * s + cs.length)).toArray) :
    Calls P (ρ.f 22) #[.slice (some ⟨g,0,none⟩) n cap,.int .i64 i,.slice (some ⟨vb,0,none⟩) m vc] w fun e w2=>e = .returned (.slice (some ⟨w.heap.size,0,none⟩) (n + m) (grownCap w (n + m) cap (ρ.t 9))) ∧
      w2 = (((w.drew.alloc (.cells ROW (ρ.t 9))).setRow w.heap.size ROW1).drew).setRow w.heap.size ROW2:=by
  have mixed:=h.mixed
  obtain ⟨_,_,FG⟩:=h.f22
  obtain ⟨fo,o1,o2,o3,o4,o5⟩:=h.ov
  have hpos:=h.pos; have z9:=h.sizeOf; have t24:=h.t24; have t3:=h.t3; have a3:=h.a3; have a24:=h.a24; have u24:=run_underlying h.t24; have u3:=run_underlying h.t3
  have e0:i * s + (n - i) * s = n * s:=by rw [← Nat.add_mul]; congr 1; omega
  have e4:(i + m) * s = i * s + m * s:=Nat.add_mul _ _ _
  have e5:(n + m) * s = n * s + m * s:=Nat.add_mul _ _ _
  have e6:(n + m - i) * s = (n + m) * s - i * s:=Nat.sub_mul _ _ _
  have e8:(n - i) * s = n * s - i * s:=Nat.sub_mul _ _ _
  have e9:i * s ≤ n * s:=Nat.mul_le_mul_right _ (by omega)
  have hz1:¬ ((m:Int) = 0):=by omega
  have hz2:¬ ((i:Int) = (n:Int)):=by omega
  have hz3:(cap:Int) < (n:Int) + (m:Int):=by omega
  have hgw:g < w.heap.size:=by
    have:=hg
    rcases Nat.lt_or_ge g w.heap.size with h | h
    · exact h
    · rw [Array.getElem?_eq_none h] at this; cases this
  have hvw:vb < w.heap.size:=by
    have:=hv
    rcases Nat.lt_or_ge vb w.heap.size with h | h
    · exact h
    · rw [Array.getElem?_eq_none h] at this; cases this
  have hkk:(n:Int) + (m:Int) - (i:Int) = ((n + m - i:Nat):Int):=by omega
  have hik:i + (n + m - i) = n + m:=by omega
  have hbytes:(n + m) * i0.bytes ≤ 140737488355328:=Nat.le_trans (Nat.mul_le_mul hlim hby) (by decide)
  have e0':i * s ≤ cap * s:=Nat.mul_le_mul_right _ (by omega)
  have holl:olds.length = i * s:=by rw [hol,List.length_take,Array.length_toList,hcs]; omega
  have hold:(Builtin.firstCells i0.size i (.slice (some ⟨g,0,none⟩) i cap)).run P w.drew = .ok olds.toArray w.drew:=by
    rw [hzs]
    exact run_firstCells_some w.drew s i ⟨g,0,none⟩ i cap olds holl (fun j v hj=>by
      rw [Addr.add_lit]
      have:cur.toList[j]? = some v:=by rw [hol,List.getElem?_take] at hj; split at hj; exact hj; cases hj
      have h2:w.drew.heap[g]? = some (.cells cur e (0,0)):=hg
      simp only [World.cell?,h2]
      simpa using this)
  have hrz : ∀ ty, (Builtin.append_ #[(ρ.t 24), (ρ.t 3)] ty #[.slice (some ⟨g, 0, none⟩) i cap, .int .i64 ((n : Int) + (m : Int) - (i : Int))]).run P w =
      .ok (.slice (some ⟨w.heap.size,0,none⟩) (n + m) (grownCap w (n + m) cap (ρ.t 9))) (w.drew.alloc (.cells ROW (ρ.t 9))):=fun ty=>by
    have h:=Lib.run_append_grow_zeros w (ρ.t 24) (ρ.t 3) ty (ρ.t 9) i0 z .i64 .i64 h.t24 h.t3 hi0 hz0 (some ⟨g,0,none⟩) i cap olds hold (n + m - i) (by omega) (by omega) (by omega) (by omega) (by
      have:(n + m - i) * i0.bytes ≤ (n + m) * i0.bytes:=Nat.mul_le_mul_right _ (by omega)
      omega) (by rw [hik]; exact growslice_fits hroom hbytes)
    rw [hik] at h
    rw [hkk,hROW]
    exact h
  obtain ⟨G,hG⟩:∃ G,G = grownCap w (n + m) cap (ρ.t 9):=⟨_,rfl⟩
  have hGn:n + m ≤ G:=by rw [hG]; exact grownCap_ge w _ _ _
  have hG63:G ≤ 9223372036854775807:=by
    have:=grownCap_le_maxLen w (n + m) cap (ρ.t 9) (by unfold maxLen; omega)
    rw [← hG] at this
    unfold maxLen at this
    omega
  rw [← hG] at hrz ⊢
  have zl:∀ k,(Builtin.zeroCells z.cells k).size = k * s:=fun k=>by rw [size_zeroCells,hzc]
  have hRl:ROW.size = G * s:=by
    rw [hROW,← hG]
    simp only [Array.size_append,zl,List.size_toArray,holl,Nat.sub_mul]
    have:=Nat.mul_le_mul_right s hGn
    omega
  have e1:(i + m) * s + (n - i) * s = (n + m) * s:=by omega
  have e2:(n + m) * s ≤ G * s:=Nat.mul_le_mul_right _ hGn
  have e3:n * s ≤ cap * s:=Nat.mul_le_mul_right _ hnc
  have hcl:cs.length = (n - i) * s:=by rw [hcs0,List.length_take,List.length_drop,Array.length_toList,hcs]; omega
  have hvl:vs.length = m * s:=by rw [hvs0,List.length_take,Array.length_toList]; omega
  have hR1l:ROW1.size = G * s:=by rw [hc1]; simp only [List.size_toArray,List.length_append,List.length_take,List.length_drop,Array.length_toList,hvl,hRl]; omega
  obtain ⟨W1,hW1⟩:∃ W1,W1 = w.drew.alloc (.cells ROW (ρ.t 9)):=⟨_,rfl⟩
  rw [← hW1] at hrz ⊢
  have hN:W1.heap[w.heap.size]? = some (.cells ROW (ρ.t 9) (0,0)):=by rw [hW1]; exact heap_new w.drew _
  have hOg:W1.heap[g]? = some (.cells cur e (0,0)):=by rw [hW1,heap_old w.drew _ hgw]; exact hg
  have hOv:W1.heap[vb]? = some (.cells curv ev (0,0)):=by rw [hW1,heap_old w.drew _ hvw]; exact hv
  have hcpA:∀ (W:World),W.heap = W1.heap→∀ ty dc,(Builtin.copy_ #[(ρ.t 24),(ρ.t 24)] ty #[.slice (some ⟨w.heap.size,i * s,none⟩) (n + m - i) dc,.slice (some ⟨vb,0,none⟩) m vc]).run P W = .ok (goInt (Nat.min m (n + m - i))) (W.setRow w.heap.size ROW1):=fun W hW ty dc=>by
    have hmin:Nat.min m (n + m - i) = m:=by simp only [Nat.min_def]; split <;> omega
    rw [hc1]
    exact run_copy_rowN W (ρ.t 24) (ρ.t 24) ty (ρ.t 9) w.heap.size (i * s) _ dc ⟨vb,0,none⟩ _ vc ROW (ρ.t 9) vs s h.t24 h.i9 (by rw [hW]; exact hN) (by rw [hmin]; exact hvl)
      (fun j v hj=>by
        rw [Addr.add_lit]
        have:curv.toList[j]? = some v:=by rw [hvs0,List.getElem?_take] at hj; split at hj; exact hj; cases hj
        have h2:W.heap[vb]? = some (.cells curv ev (0,0)):=by rw [hW]; exact hOv
        simp only [World.cell?,h2]
        simpa using this) (by omega) h1v
  have hcpB:∀ (W:World),W.heap = (W1.setRow w.heap.size ROW1).heap→∀ ty dc sc,(Builtin.copy_ #[(ρ.t 24),(ρ.t 24)] ty #[.slice (some ⟨w.heap.size,(i + m) * s,none⟩) (n + m - (i + m)) dc,.slice (some ⟨g,i * s,none⟩) (n - i) sc]).run P W = .ok (goInt (Nat.min (n - i) (n + m - (i + m)))) (W.setRow w.heap.size ROW2):=fun W hW ty dc sc=>by
    have hmin:Nat.min (n - i) (n + m - (i + m)) = n - i:=by simp only [Nat.min_def]; split <;> omega
    rw [hc2]
    exact run_copy_rowN W (ρ.t 24) (ρ.t 24) ty (ρ.t 9) w.heap.size ((i + m) * s) _ dc ⟨g,i * s,none⟩ _ sc ROW1 (ρ.t 9) cs s h.t24 h.i9 (by rw [hW]; exact setRow_heap W1 _ ROW ROW1 (ρ.t 9) _ hN) (by rw [hmin]; exact hcl)
      (fun j v hj=>by
        rw [Addr.add_lit]
        have:(cur.toList.drop (i * s))[j]? = some v:=by rw [hcs0,List.getElem?_take] at hj; split at hj; exact hj; cases hj
        rw [List.getElem?_drop] at this
        have h2:W.heap[g]? = some (.cells cur e (0,0)):=by rw [hW,setRow_other W1 _ g ROW1 (by omega)]; exact hOg
        simp only [World.cell?,h2]
        simpa using this) (by omega) h1
  have hGi:¬ (G = i):=by omega
  have hGim:¬ (G = i + m):=by omega
  have hci:¬ (cap = i):=by omega
  have hw1:IntKind.i64.wrap ((i:Int) + (m:Int)) = (i:Int) + (m:Int):=by rw [IntKind.wrap_i64]; omega
  have hw2:IntKind.i64.wrap ((n:Int) + (m:Int)) = (n:Int) + (m:Int):=by rw [IntKind.wrap_i64]; omega
  have hb1:(0:Int) ≤ (i:Int) + (m:Int):=by omega
  have hin:i ≤ n:=by omega
  have htn:((i:Int) + (m:Int)).toNat = i + m:=by omega
  have hb3:(i:Int) ≤ (n:Int):=by omega
  clear hc1 hc2 hROW hcs0 hvs0 hol hcl hvl hRl hR1l e0' e0 e4 e5 e6 e8 e9 e1 e2 e3 hold holl hkk hik hG hN hOg hOv hW1
  go_enter FG,Body2.n22_ntmps ρ
  go_wp2_with (first
    | (at_builtin; refine Lib.wpList_append_run _ rfl _ _ _ _ rfl _ _ rfl rfl _ _ (hrz _) ?_)
    | (at_builtin; refine wpList_copy_runI _ rfl _ _ (ρ.t 24) (ρ.t 24) rfl _ _ rfl rfl (hcpA _ rfl _ _) ?_)
    | (at_builtin; refine wpList_copy_runI _ rfl _ _ (ρ.t 24) (ρ.t 24) rfl _ _ rfl rfl (hcpB _ rfl _ _ _) ?_))
  go_region_law_o (refine step_copy_runI rfl _ _ (ρ.t 24) (ρ.t 24) rfl (.slice (some ⟨w.heap.size,(i + m) * s,none⟩) (n + m - (i + m)) (G - (i + m))) (.slice (some ⟨g,i * s,none⟩) (n - i) (cap - i)) (by simp [Act.eval,Act.put]) (by simp [Act.eval,Act.put]) (hcpB (W1.setRow w.heap.size ROW1).drew rfl (ρ.t 3) (G - (i + m)) (cap - i)) ?_)
  go_wp2
  go_ret
  exact ⟨rfl,rfl⟩
end
end Sym

/- slices.Delete at rows of any elements, as the machine runs it. -/
namespace Sym
open Go Go.Proofs Go.RowKit Go.Lib Go.Shelf Go.Sort
structure DelP (P:Program) (ρ:Go.Shelf.Ren) (s:Nat) (z:Value):Prop where
  pos:0 < s
  mixed:P.follows .mixedOrders = true
  f45:Bears P (ρ.f 45) (SlBodyN.n45 ρ)
  t3:P.underlying (ρ.t 3) = some (.int .i64)
  a3:∀ w,(isAgg (ρ.t 3)).run P w = .ok false w
  t22:P.underlying (ρ.t 22) = some (.slice (ρ.t 23))
  a22:∀ w,(isAgg (ρ.t 22)).run P w = .ok false w
  i23:∃ i0,P.info? (ρ.t 23) = some i0∧i0.size = s
  v23:∀ w,(zeroValue (ρ.t 23)).run P w = .ok z w
  zs:z.cells.size = s
  z1:∀ v ∈ z.cells.toList,v.oneCell' = true
section
variable {P:Program} {ρ:Go.Shelf.Ren} {s:Nat} {z:Value}
theorem DelP.sizeOf (h:DelP P ρ s z) (w:World):(Go.sizeOf (ρ.t 23)).run P w = .ok s w:=by
  obtain ⟨i,hq,hi⟩:=h.i23
  simp [Go.sizeOf,typeInfo,hq,hi]
theorem setCells_row (w : World) (g o : Nat) (t : TypeId) (cur : Array Value) (vs : List Value) (hg : w.heap[g]? = some (.cells cur t (0, 0))) (hl : o + vs.length ≤ cur.size) (h1 : ∀ v ∈ vs, v.oneCell' = true) :
    w.setCells g o vs = w.setRow g (cur.toList.take o ++ vs ++ cur.toList.drop (o + vs.length)).toArray:=by
  have a:=run_storeCells_at (P:=default) g o t vs 0 cur w hg (by omega) h1
  have b:=run_storeCells_cells (P:=default) g o vs 0 w (fun j hj=>by simp only [World.cell?,hg]; simp; omega) (fun j hj=>by simp [World.frozen?,hg]) h1
  simp only [Nat.add_zero] at a b
  rw [a] at b
  exact (Result.ok.inj b).2.symm
theorem zeroCells_one (c:Array Value) (h:∀ v ∈ c.toList,v.oneCell' = true) (k:Nat):∀ v ∈ (Builtin.zeroCells c k).toList,v.oneCell' = true:=by
  intro v hv
  rw [show Builtin.zeroCells c k = Builtin.zeroCells c.toList.toArray k from rfl,zero_flat] at hv
  obtain ⟨l,hl,hv⟩:=List.mem_flatten.1 hv
  have:∀ n,∀ l ∈ repL n c.toList,l = c.toList:=by
    intro n
    induction n with
    | zero=>intro l h; cases h
    | succ n ih=>intro l h; exact (List.mem_cons.1 h).elim (fun h=>h) (ih l)
  rw [this k l hl] at hv
  exact h v hv
set_option maxHeartbeats 4000000 in
set_option maxRecDepth 1000000 in
theorem delete_cut (h : DelP P ρ s z) (n i j cap g : Nat) (cur W1c W2c : Array Value) (news : List Value) (e : TypeId) (w : World) (hij : i < j) (hj : j ≤ n) (hnc : n ≤ cap) (hcap : cap ≤ maxLen)
    (hg:w.heap[g]? = some (.cells cur e (0,0))) (hcs:cur.size = cap * s) (h1:∀ v ∈ news,v.oneCell' = true)
    (hn:news = (cur.toList.drop (j * s)).take ((n - j) * s))
    (hw1:W1c = (cur.toList.take (i * s) ++ news ++ cur.toList.drop (i * s + news.length)).toArray)
    (hw2:W2c = (W1c.toList.take ((i + (n - j)) * s) ++ (Builtin.zeroCells z.cells (n - (i + (n - j)))).toList ++ W1c.toList.drop ((i + (n - j)) * s + (Builtin.zeroCells z.cells (n - (i + (n - j)))).toList.length)).toArray) :
    Calls P (ρ.f 45) #[.slice (some ⟨g,0,none⟩) n cap,.int .i64 i,.int .i64 j] w fun en w2=>en = .returned (.slice (some ⟨g,0,none⟩) (n - (j - i)) cap)∧w2 = (w.drew.setRow g W1c).setRow g W2c:=by
  have mixed:=h.mixed; have t3:=h.t3; have a3:=h.a3; have t22:=h.t22; have a22:=h.a22; have z23:=h.sizeOf; have u22:=run_underlying h.t22; have u3:=run_underlying h.t3
  obtain ⟨i0,hi0,hz1⟩:=h.i23
  have e1:(n - j) * s = n * s - j * s:=Nat.sub_mul _ _ _
  have e2:(i + (n - j)) * s = i * s + (n - j) * s:=Nat.add_mul _ _ _
  have e3:j * s ≤ n * s:=Nat.mul_le_mul_right _ hj
  have e4:n * s ≤ cap * s:=Nat.mul_le_mul_right _ hnc
  have e5:i * s ≤ j * s:=Nat.mul_le_mul_right _ (by omega)
  have hlen:news.length = (n - j) * s:=by rw [hn,List.length_take,List.length_drop,Array.length_toList,hcs]; omega
  have hget:∀ t u,news[t]? = some u→w.drew.cell? ⟨g,j * s + t,none⟩ = some u:=fun t u hu=>by
    have:(cur.toList.drop (j * s))[t]? = some u:=by rw [hn,List.getElem?_take] at hu; split at hu; exact hu; cases hu
    rw [List.getElem?_drop] at this
    have h2:w.drew.heap[g]? = some (.cells cur e (0,0)):=hg
    simp only [World.cell?,h2]
    simpa using this
  obtain ⟨A,hA,hsrc⟩:∃ A:Addr,(if cap = j then some (⟨g,0,none⟩:Addr) else some ⟨g,j * s,none⟩) = some A∧Hid (∀ t u,news[t]? = some u→w.drew.cell? (A.add t) = some u):=by
    by_cases hc:cap = j
    · refine ⟨⟨g,0,none⟩,by simp [hc],fun t u hu=>?_⟩
      have h0 : news.length = 0 := by rw [hlen, e1]; have : n = j := by omega
                                      subst this; omega
      rw [List.length_eq_zero_iff.1 h0] at hu
      simp at hu
    · refine ⟨⟨g,j * s,none⟩,by simp [hc],fun t u hu=>?_⟩
      rw [Addr.add_lit]
      exact hget t u hu
  have s1:Hid (news.length = (n - j) * s):=hlen
  have s2:Hid (∀ u ∈ news,u.oneCell' = true):=h1
  have s3:Hid (∀ t,t < news.length→(w.drew.cell? ⟨g,0 + i * s + t,none⟩).isSome = true∧w.drew.frozen? ⟨g,0 + i * s + t,none⟩ = false):=by
    intro t ht
    have h2:w.drew.heap[g]? = some (.cells cur e (0,0)):=hg
    rw [hlen] at ht
    exact ⟨by simp only [World.cell?,h2]; simp; omega,by simp [World.frozen?,h2]⟩
  obtain ⟨W1,hW1⟩:∃ W1,W1 = w.drew.setCells g (0 + i * s) news:=⟨_,rfl⟩
  have hW1':W1 = w.drew.setRow g W1c:=by
    rw [hW1,hw1,Nat.zero_add]
    exact setCells_row w.drew g (i * s) e cur news hg (by omega) h1
  have hg1:W1.heap[g]? = some (.cells W1c e (0,0)):=by rw [hW1']; exact setRow_heap w.drew g cur W1c e _ hg
  have hs1:W1c.size = cap * s:=by rw [hw1]; simp only [List.size_toArray,List.length_append,List.length_take,List.length_drop,Array.length_toList,hlen,hcs]; omega
  have e6:(n - (i + (n - j))) * s = n * s - (i + (n - j)) * s:=Nat.sub_mul _ _ _
  have hzl:(Builtin.zeroCells z.cells (n - (i + (n - j)))).toList.length = (n - (i + (n - j))) * s:=by rw [Array.length_toList,size_zeroCells,h.zs]
  have hcl:∀ ty,(Builtin.clear_ #[ρ.t 22] ty #[.slice (some ⟨g,(i + (n - j)) * s,none⟩) (n - (i + (n - j))) (cap - (i + (n - j)))]).run P W1 = .ok (.tuple #[]) (W1.setRow g W2c):=fun ty=>by
    have hst:=run_storeCells_at (P:=P) g ((i + (n - j)) * s) e (Builtin.zeroCells z.cells (n - (i + (n - j)))).toList 0 W1c W1 hg1 (by rw [hzl,hs1]; omega) (zeroCells_one z.cells h.z1 _)
    simp only [Nat.add_zero] at hst
    rw [← hw2] at hst
    obtain ⟨m,hm⟩:∃ m,n - (i + (n - j)) = m + 1:=⟨n - (i + (n - j)) - 1,by omega⟩
    rw [hm] at hst ⊢
    simp [Builtin.clear_,run_underlying t22,h.v23,hst]
  have hW:Hid (W1 = w.drew.setCells g (0 + i * s) news):=hW1
  have X:Aside (W1 = w.drew.setRow g W1c):=hW1'
  have hic:i ≤ cap:=by omega
  have hjc:j ≤ cap:=by omega
  have hne:¬ ((i:Int) = (j:Int)):=by omega
  clear hW1 hW1' hg1 hs1 e1 e2 e3 e4 e5 e6 hlen hget hzl hw1 hw2 hn h1
  obtain ⟨_,_,FG⟩:=h.f45
  go_enter FG,SlBodyN.n45_ntmps ρ
  go_wp2_with fail
  go_region_law_o (refine step_append_room rfl (.tmp 22) (.tmp 25) (ρ.t 22) rfl (ρ.t 23) i0 s t22 hi0 hz1 g 0 i cap (by simp [Act.eval,Act.put]) A (n - j) (cap - j) news (by simp [Act.eval,Act.put]) s1.out hsrc.out s2.out (by omega) s3.out ?_; rw [← hW.out])
  go_wp2
  go_ret
  refine ⟨by rw [show n - (j - i) = i + (n - j) by omega]; rfl,?_⟩
  rw [← X.out]
end
end Sym

/- slices.Insert at rows of any elements: what it does to rows. -/
namespace Sym
open Go Go.Proofs
section
variable {P:Program} {ρ:Go.Shelf.Ren}
theorem EncL_cut {X:Type} {E:X→List Value→Prop} {s:Nat} (hl:∀ x cs,E x cs→cs.length = s):∀ (l:List X) (xs:List Value) (i:Nat),EncL E l xs→EncL E (l.take i) (xs.take (i * s))∧EncL E (l.drop i) (xs.drop (i * s))
  | l,xs,0,h=>by simp only [Nat.zero_mul,List.take_zero,List.drop_zero]; exact ⟨rfl,h⟩
  | [],xs,i + 1,h=>by
    have h:xs = []:=h
    subst h
    simp only [List.take_nil,List.drop_nil]
    exact ⟨rfl,rfl⟩
  | x :: l,xs,i + 1,h=>by
    obtain ⟨c1,c2,rfl,h1,h2⟩:=h
    have hc:=hl x c1 h1
    have ⟨g1,g2⟩:=EncL_cut hl l c2 i h2
    have e:(i + 1) * s = c1.length + i * s:=by rw [hc,Nat.succ_mul]; omega
    refine ⟨⟨c1,c2.take (i * s),?_,h1,g1⟩,?_⟩
    · rw [e,List.take_append,List.take_of_length_le (by omega),Nat.add_sub_cancel_left]
    · rw [e]
      simpa using g2
theorem ins_list {α : Type} {L X V C : List α} {a b c : Nat} (h1 : L.take a = X) (ha : X.length = a) (hv : V.length = b) (hc : C.length = c) (hl : a + b + c ≤ L.length) :
    (((L.take (a + b) ++ C ++ L.drop (a + b + C.length)).take a ++ V ++ (L.take (a + b) ++ C ++ L.drop (a + b + C.length)).drop (a + V.length))).length = L.length ∧
    (((L.take (a + b) ++ C ++ L.drop (a + b + C.length)).take a ++ V ++ (L.take (a + b) ++ C ++ L.drop (a + b + C.length)).drop (a + V.length))).take (a + b + c) = X ++ V ++ C:=by
  have e1:(L.take (a + b) ++ C ++ L.drop (a + b + C.length)).take a = X:=by
    rw [List.append_assoc,List.take_append,List.length_take,Nat.sub_eq_zero_of_le (by omega),List.take_zero,List.append_nil,List.take_take,Nat.min_eq_left (by omega)]
    exact h1
  have e2:(L.take (a + b) ++ C ++ L.drop (a + b + C.length)).drop (a + V.length) = C ++ L.drop (a + b + C.length):=by
    rw [List.append_assoc,hv,List.drop_append,List.drop_of_length_le (by rw [List.length_take]; omega),List.length_take,Nat.sub_eq_zero_of_le (by omega)]
    rfl
  rw [e1,e2]
  refine ⟨by simp only [List.length_append,List.length_drop]; omega,?_⟩
  rw [← List.append_assoc,List.take_append,List.take_of_length_le (by simp only [List.length_append]; omega),Nat.sub_eq_zero_of_le (by simp only [List.length_append]; omega),List.take_zero,List.append_nil]
theorem ins_list2 {α : Type} {L X V C : List α} {a b c : Nat} (h1 : L.take a = X) (ha : X.length = a) (hv : V.length = b) (hc : C.length = c) (hl : a + b + c ≤ L.length) :
    (((L.take a ++ V ++ L.drop (a + V.length)).take (a + b) ++ C ++ (L.take a ++ V ++ L.drop (a + V.length)).drop (a + b + C.length))).length = L.length ∧
    (((L.take a ++ V ++ L.drop (a + V.length)).take (a + b) ++ C ++ (L.take a ++ V ++ L.drop (a + V.length)).drop (a + b + C.length))).take (a + b + c) = X ++ V ++ C:=by
  have e1:(L.take a ++ V ++ L.drop (a + V.length)).take (a + b) = X ++ V:=by
    rw [h1,List.take_append,List.take_of_length_le (by simp only [List.length_append]; omega),Nat.sub_eq_zero_of_le (by simp only [List.length_append]; omega),List.take_zero,List.append_nil]
  have e2:(L.take a ++ V ++ L.drop (a + V.length)).length = L.length:=by rw [h1]; simp only [List.length_append,List.length_drop]; omega
  rw [e1]
  refine ⟨by simp only [List.length_append,List.length_drop] at e2 ⊢; omega,?_⟩
  rw [List.take_append,List.take_of_length_le (by simp only [List.length_append]; omega),Nat.sub_eq_zero_of_le (by simp only [List.length_append]; omega),List.take_zero,List.append_nil]
set_option maxRecDepth 100000 in
theorem insert_any {t : Ty} (h : InsP P ρ t.sz) (ht : TI P (ρ.t 9) t) (ht2 : TI P (ρ.t 24) (.sl t)) (hno : t.isOpq = false) (hsz : 1 ≤ t.sz) (n m i : Nat) (hd hv : Value) (xs vs : List Value) (e ev : TypeId) (w : World) (hm : 0 < m) (hi : i ≤ n) (hlim : n + m ≤ 1073741824)
    (ho:w.ownsRow 0 e t.sz hd n xs) (hov:w.ownsRow 0 ev t.sz hv m vs) (hne:∀ r,blkOf hd = some r→blkOf hv ≠ some r)
    (h1:∀ v ∈ xs,v.oneCell' = true) (h1v:∀ v ∈ vs,v.oneCell' = true) :
    Calls P (ρ.f 22) #[hd,.int .i64 i,hv] w fun en w2=>∃ hd' e'',en = .returned hd'∧w2.ownsRow 0 e'' t.sz hd' (n + m) (xs.take (i * t.sz) ++ vs ++ xs.drop (i * t.sz))∧w.grownBy w2 (blkOf hd)∧(∀ r,blkOf hd' = some r→w.heap.size ≤ r ∨ blkOf hd = some r):=by
  obtain ⟨i0,hi0,hby,hz0⟩:=ht.info
  have hz0:=hz0.resolve_right (by intro h; subst h; cases hno)
  have hzs:i0.size = t.sz:=by have:=ht.ok.size; simp [Program.cellsOf,hi0] at this; exact this
  have hcz:(mkZ t).cells = (zCells t).toArray:=cells_mkV (zCells_len t) (zCells_one t)
  have hzc:(mkZ t).cells.size = t.sz:=by rw [hcz,List.size_toArray,zCells_len]
  have e1:i * t.sz ≤ n * t.sz:=Nat.mul_le_mul_right _ hi
  have e5:(n + m) * t.sz = n * t.sz + m * t.sz:=Nat.add_mul _ _ _
  rcases own_cells hov with ⟨_,h0,_⟩ | ⟨vb,vc,curv,f1,f2,f3,f4,f5,f6,f7⟩
  · omega
  have hvsl:m * t.sz ≤ curv.size:=by rw [f5]; exact Nat.mul_le_mul_right _ f3
  rcases Nat.lt_or_ge i n with hin | hin
  · rcases own_cells ho with ⟨_,h0,_⟩ | ⟨g,cap,cur,g1,g2,g3,g4,g5,g6,g7⟩
    · omega
    have hvb:vb ≠ g:=fun e=>hne g (by rw [g1]; rfl) (by rw [f1,e]; rfl)
    subst g1 f1
    have hol:cur.toList.take (i * t.sz) = xs.take (i * t.sz):=by rw [← g6,List.take_take,Nat.min_eq_left e1]
    have hcs:(cur.toList.drop (i * t.sz)).take ((n - i) * t.sz) = xs.drop (i * t.sz):=by
      rw [← g6,List.drop_take,Nat.sub_mul]
    have hxl:xs.length = n * t.sz:=ho.1
    have hdl:(xs.drop (i * t.sz)).length = (n - i) * t.sz:=by rw [List.length_drop,hxl,Nat.sub_mul]
    have hvl:vs.length = m * t.sz:=hov.1
    have htl:(xs.take (i * t.sz)).length = i * t.sz:=by rw [List.length_take,hxl]; exact Nat.min_eq_left e1
    have e3:i * t.sz + m * t.sz = (i + m) * t.sz:=by rw [Nat.add_mul]
    have e6:i * t.sz + (n - i) * t.sz = n * t.sz:=by rw [← Nat.add_mul]; congr 1; omega
    have e4:(i + m) * t.sz + (n - i) * t.sz = (n + m) * t.sz:=by omega
    have hall:(xs.take (i * t.sz) ++ vs ++ xs.drop (i * t.sz)).length = (n + m) * t.sz:=by simp only [List.length_append,htl,hvl,hdl]; omega
    rcases Nat.lt_or_ge cap (n + m) with hroom | hroom
    · have hw:=insert_grow h n m i cap vc g vb cur curv _ _ _ (xs.drop (i * t.sz)) vs (xs.take (i * t.sz)) e ev w i0 _ hi0 hz0 hzs hzc hby hm hin g3 hroom hlim hvb g2 f2 g5 hvsl (fun v hv=>h1 v (List.mem_of_mem_drop hv)) h1v hol.symm hcs.symm f6.symm rfl rfl rfl
      obtain ⟨G,hG⟩:∃ G,G = grownCap w (n + m) cap (ρ.t 9):=⟨_,rfl⟩
      have hGn:n + m ≤ G:=by rw [hG]; exact grownCap_ge w _ _ _
      have hGm:G ≤ maxLen:=by rw [hG]; exact grownCap_le_maxLen w (n + m) cap (ρ.t 9) (by unfold maxLen; omega)
      obtain ⟨ROW,hR⟩:∃ ROW:Array Value,ROW = (xs.take (i * t.sz)).toArray ++ Builtin.zeroCells (mkZ t).cells (n + m - i) ++ Builtin.zeroCells (mkZ t).cells (G - (n + m)):=⟨_,rfl⟩
      rw [← hG] at hw
      rw [← hR] at hw
      have zl:∀ k,(Builtin.zeroCells (mkZ t).cells k).size = k * t.sz:=fun k=>by rw [size_zeroCells,hzc]
      have e7:(n + m - i) * t.sz = (n + m) * t.sz - i * t.sz:=Nat.sub_mul _ _ _
      have e8:(n + m) * t.sz ≤ G * t.sz:=Nat.mul_le_mul_right _ hGn
      have hRl:ROW.size = G * t.sz:=by
        rw [hR]
        simp only [Array.size_append,zl,List.size_toArray,htl,Nat.sub_mul]
        omega
      have hRt:ROW.toList.take (i * t.sz) = xs.take (i * t.sz):=by
        rw [hR]
        simp only [Array.toList_append,List.append_assoc]
        rw [List.take_append,htl,Nat.sub_self,List.take_zero,List.append_nil,List.take_of_length_le (by rw [htl]; exact Nat.le_refl _)]
      have ⟨q1,q2⟩:=ins_list2 (L:=ROW.toList) hRt htl hvl hdl (by rw [Array.length_toList,hRl]; omega)
      refine Calls.mono hw ?_
      rintro en w2 ⟨rfl,rfl⟩
      have hN:((w.drew.alloc (.cells ROW (ρ.t 9))).setRow w.heap.size (ROW.toList.take (i * t.sz) ++ vs ++ ROW.toList.drop (i * t.sz + vs.length)).toArray).heap[w.heap.size]? = some (.cells (ROW.toList.take (i * t.sz) ++ vs ++ ROW.toList.drop (i * t.sz + vs.length)).toArray (ρ.t 9) (0,0)):=setRow_heap _ _ ROW _ (ρ.t 9) _ (heap_new w.drew _)
      refine ⟨_,(ρ.t 9),rfl,⟨hall,.inr ⟨w.heap.size,G,_,rfl,Nat.zero_le _,setRow_heap _ _ _ _ (ρ.t 9) _ hN,hGn,hGm,?_,?_⟩⟩,⟨rfl,rfl,rfl,by simp,fun k hk _=>?_⟩,fun r hr=>by simp only [blkOf,Option.some.injEq] at hr; left; omega⟩
      · rw [List.size_toArray,← hRl,← Array.length_toList,← e3]
        exact q1
      · rw [← e4,← e3]
        exact q2
      · rw [setRow_other _ _ k _ (by omega)]
        show ((w.drew.alloc _).setRow w.heap.size _).heap[k]? = _
        rw [setRow_other _ _ k _ (by omega)]
        exact heap_old w.drew _ hk
    · have e8:(n + m) * t.sz ≤ cap * t.sz:=Nat.mul_le_mul_right _ hroom
      have hw:=insert_room h n m i cap vc g vb cur curv _ _ (xs.drop (i * t.sz)) vs e ev w hm hin hroom g4 hvb g2 f2 g5 hvsl (fun v hv=>h1 v (List.mem_of_mem_drop hv)) h1v hcs.symm f6.symm rfl rfl
      have ⟨q1,q2⟩:=ins_list (L:=cur.toList) hol htl hvl hdl (by rw [Array.length_toList,g5]; omega)
      refine Calls.mono hw ?_
      rintro en w2 ⟨rfl,rfl⟩
      refine ⟨_,e,rfl,⟨hall,.inr ⟨g,cap,_,rfl,Nat.zero_le _,setRow_heap _ _ _ _ e _ (setRow_heap w.drew g cur _ e _ g2),hroom,g4,?_,?_⟩⟩,⟨rfl,rfl,rfl,by simp,fun k _ hk=>?_⟩,fun r hr=>.inr hr⟩
      · rw [List.size_toArray,← g5,← Array.length_toList,← e3]
        exact q1
      · rw [← e4,← e3]
        exact q2
      · have hkg:k ≠ g:=fun e=>hk (by rw [e]; rfl)
        rw [setRow_other _ g k _ hkg,setRow_other _ g k _ hkg]
        rfl
  · have:i = n:=by omega
    subst this
    subst f1
    obtain ⟨e63,hu,he,j0,hj0,hjb,hjz⟩:=ht2.elem t rfl
    have hjz:=hjz.resolve_right (by intro h; subst h; cases hno)
    obtain ⟨hd',w',e'',hrun,hown,hgb,hnew⟩:=run_append_any (P:=P) w (ρ.t 24) hu he hj0 hjb hjz hsz hd i xs (e':=e) ho (.slice (some ⟨vb,0,none⟩) m vc) m rfl vs hov.1
      (fun w' hw'=>by
        have hh:w'.heap = w.heap:=by rcases hw' with rfl | rfl <;> rfl
        exact run_firstCells_some (P:=P) w' t.sz m ⟨vb,0,none⟩ m vc vs hov.1 fun j v hj=>by
          rw [add_lit]
          have h2:w'.heap[vb]? = some (.cells curv ev (0,0)):=by rw [hh]; exact f2
          have:=f7 j v hj
          simp only [World.cell?,h2]
          simpa using this) h1v hlim
    have hxl:xs.length = i * t.sz:=ho.1
    have hdl:hd = .slice none 0 0∧i = 0 ∨ ∃ g cap,hd = .slice (some ⟨g,0,none⟩) i cap∧i ≤ cap∧cap ≤ maxLen:=by
      rcases own_cells ho with ⟨a1,a2,_⟩ | ⟨g,cap,cur,g1,g2,g3,g4,_⟩
      · exact .inl ⟨a1,a2⟩
      · exact .inr ⟨g,cap,g1,g3,g4⟩
    refine Calls.mono (insert_end h i m hd _ w w' hd' hm (by omega) hdl ⟨_,_,rfl⟩ hrun) ?_
    rintro en w2 ⟨rfl,rfl⟩
    refine ⟨hd',e'',rfl,?_,hgb,hnew⟩
    rw [← hxl,List.take_length,List.drop_length,List.append_nil]
    exact hown
end
end Sym

/- slices.Insert at rows of any elements: its contract. -/
namespace Sym
open Go Go.Proofs
theorem Ty.beq_self:∀ t:Ty,Ty.beq t t = true:=by
  intro t
  induction t with
  | int k=>cases k <;> rfl
  | cons a b ha hb=>simp [Ty.beq,ha,hb]
  | arr n t h=>simp [Ty.beq,h]
  | sl t h=>exact h
  | _=>rfl
theorem cast_self (t:Ty) (x:t.D):Ty.cast t t x = some x:=by
  unfold Ty.cast
  split
  · rfl
  · rename_i h; rw [Ty.beq_self] at h; cases h
def rnm (l:List (Nat × Nat)) (n:Nat):Nat:=(lookN l n).getD 0
noncomputable def insF (t:Ty) (x:(⟨[.whole 0,.pl (.int .i64),.whole 1],[.row t,.row t]⟩:Tm).D):Option (⟨[.whole 0],[.row t]⟩:Tm).D :=
  let i:I .i64:=x.1.1
  let l:List t.D:=x.2.1
  let ys:List t.D:=x.2.2.1
  brn (inB' i (lenL l)) (brn (Nat.ble 1 (lenL ys)) (brn (fitsLen (lenL l + lenL ys)) (some ((),(subL l 0 (I.nat i) ++ ys ++ subL l (I.nat i) (lenL l - I.nat i),()))) none) none) none
noncomputable def insC (t:Ty):Con:=⟨⟨[.whole 0,.pl (.int .i64),.whole 1],[.row t,.row t]⟩,⟨[.whole 0],[.row t]⟩,insF t⟩
section
variable {P:Program} {ρ:Go.Shelf.Ren}
theorem ins_ok {t:Ty} (h:InsP P ρ t.sz) (ht:TI P (ρ.t 9) t) (ht2:TI P (ρ.t 24) (.sl t)) (hno:t.isOpq = false) (hsz:1 ≤ t.sz) (hodd:noOdd P):ConOk P (ρ.f 22) (insC t):=by
  intro x y hxy c vals hS hH hargs
  obtain ⟨i,l,ys,rfl⟩:∃ (i:I .i64) (l ys:List t.D),x = ((i,()),(l,(ys,()))):=⟨x.1.1,x.2.1,x.2.2.1,rfl⟩
  have hF:insF t ((i,()),(l,(ys,()))) = some y:=hxy
  unfold insF at hF
  simp only [lenL] at hF
  have c1:inB' i l.length = true:=by cases h:inB' i l.length with | true=>rfl | false=>rw [h] at hF; cases hF
  rw [c1] at hF
  have c2:Nat.ble 1 ys.length = true:=by cases h:Nat.ble 1 ys.length with | true=>rfl | false=>rw [h] at hF; cases hF
  rw [c2] at hF
  have c3:fitsLen (l.length + ys.length) = true:=by cases h:fitsLen (l.length + ys.length) with | true=>rfl | false=>rw [h] at hF; cases hF
  rw [c3] at hF
  have hy:((),(subL l 0 (I.nat i) ++ ys ++ subL l (I.nat i) (l.length - I.nat i),())) = y:=Option.some.inj hF
  clear hF hxy
  subst hy
  have hH:c.H = [.row t l,.row t ys]:=hH
  simp only [inB',Bool.and_eq_true,decide_eq_true_eq] at c1
  have hm:=Nat.le_of_ble_eq_true c2
  simp only [fitsLen,decide_eq_true_eq] at c3
  obtain ⟨k,hk⟩:∃ k,k = I.nat i:=⟨_,rfl⟩
  have hki:i.val = (k:Int):=by rw [hk]; unfold I.nat; omega
  have hkl:k ≤ l.length:=by omega
  have b0:blkAt c.H 0 = .row t l:=by rw [hH]; rfl
  have b1:blkAt c.H 1 = .row t ys:=by rw [hH]; rfl
  match vals,hargs with
  | [v0,v1,v2],hargs =>
    obtain ⟨h0,h1,h2,_⟩:=hargs
    have whole:∀ b (u:Ty) (l:List u.D) v,blkAt c.H b = .row u l→VOk c (.whole b) v→v = c.ρ b:=by
      intro b u l v hb hv
      obtain ⟨cs,⟨u2,rfl,_,hw⟩,hxv⟩:=hv
      unfold WholeOk at hw
      simp only [hb] at hw
      rw [← hw]
      exact hxv
    have e0:=whole 0 t l v0 b0 h0
    have e2:=whole 1 t ys v2 b1 h2
    have e1:=v_int h1
    subst e0 e1 e2
    have hM:=hS.mem
    have B0:=hS.blk 0
    have B1:=hS.blk 1
    unfold BlkOk at B0 B1
    simp only [b0] at B0
    simp only [b1] at B1
    obtain ⟨hl0,ee0,xs,ho0,hx0⟩:=B0
    obtain ⟨hl1,ee1,vs,ho1,hx1⟩:=B1
    have hne:∀ r,blkOf (c.ρ 0) = some r→blkOf (c.ρ 1) ≠ some r:=fun r q1 q2=>by
      have:=hS.inj 0 1 r (by rw [b0]; rfl) (by rw [b1]; rfl) q1 q2
      cases this
    have hc:=insert_any h ht ht2 hno hsz l.length ys.length k (c.ρ 0) (c.ρ 1) xs vs ee0 ee1 c.w hm hkl c3 ho0 ho1 hne (EncL_one l xs hx0) (EncL_one ys vs hx1)
    obtain ⟨nm,hnm,hfn⟩:=h.f22
    obtain ⟨body,hbd⟩:∃ b,(Go.Proofs.Body2.n22 ρ).body = some b:=⟨_,rfl⟩
    right
    rw [hki]
    refine ⟨run_callFunc hfn hbd (hodd (ρ.f 22) _ hfn),Calls.mono hc ?_⟩
    rintro en w2 ⟨hd',e'',rfl,ho2,hg,hnew⟩
    refine ⟨hd',rfl,?_⟩
    have ⟨t1,t2⟩:=EncL_cut (fun x cs=>Enc_len t x cs) l xs k hx0
    have hlen:(l.take k ++ ys ++ l.drop k).length = l.length + ys.length:=by
      simp only [List.length_append,List.length_take,List.length_drop]; omega
    obtain ⟨c',k1,k2,k3,k4,k5⟩:=mem_row hM (nb:=2) (by rw [hH]; rfl) (t:=t) (l:=l.take k ++ ys ++ l.drop k) (blkOf (c.ρ 0)) hg (by rw [hlen]; exact ho2) (EncL_app _ _ _ _ (EncL_app _ _ _ _ t1 hx1) t2) (by rw [hlen]; simp only [LIM]; omega) (some 0)
      (fun i h=>by cases h; exact ⟨by rw [b0]; rfl,by decide⟩) (fun r h _=>⟨0,rfl,h⟩) (fun r h=>(hnew r h).imp _root_.id fun h=>⟨0,rfl,h⟩)
    have hsub:subL l 0 (I.nat i) ++ ys ++ subL l (I.nat i) (l.length - I.nat i) = l.take k ++ ys ++ l.drop k:=by
      rw [← hk]
      simp only [subL,List.drop_zero]
      rw [List.take_of_length_le (l:=l.drop k) (by rw [List.length_drop]; exact Nat.le_refl _)]
    have hH':c'.H = [.dead,.row t ys,.row t (l.take k ++ ys ++ l.drop k)]:=by rw [k2,hH]; rfl
    obtain ⟨m,hz⟩:∃ m,(insC t).Out.ext [.whole 2] c'.H = some (((),(l.take k ++ ys ++ l.drop k,())),m):=by
      rw [hH']
      refine ⟨⟨[(0,2)],[]⟩,?_⟩
      have hc:Ty.cast (.sl t) (.sl t) (l.take k ++ ys ++ l.drop k) = some (l.take k ++ ys ++ l.drop k):=cast_self _ _
      simp only [Tm.ext,Tm.extF,insC,extSlots,Sh.ext',Sh.ext,Sub.bind,Sub.get,Sub.inv,extHeap,blkAt,BSh.ext,hc,ShD.cons]
      rfl
    obtain ⟨c2,w2',hh2,hM2,hargs2⟩:=part_mem k4 hz
    obtain ⟨us',q1,q2,q3⟩:=hargs2 [hd'] ⟨k5,trivial⟩
    have hus:us' = [hd']:=by
      match us',q2 with
      | [u],_ =>
        have h3:u = hd':=by simpa using congrArg List.head? q1.symm
        rw [h3]
    subst hus
    refine ⟨c2,w2'.trans k1,?_,?_,hM2,fun i hi=>?_⟩
    · rw [hh2,← hsub]
    · exact q3.1
    · exact absurd hi (Nat.not_lt_zero i)
end
end Sym

/- slices.Delete at rows of any elements: its contract. -/
namespace Sym
open Go Go.Proofs
noncomputable def delF (t:Ty) (x:(⟨[.whole 0,.pl (.int .i64),.pl (.int .i64)],[.row t]⟩:Tm).D):Option (⟨[.whole 0],[.row t]⟩:Tm).D :=
  let i:I .i64:=x.1.1
  let j:I .i64:=x.1.2.1
  let l:List t.D:=x.2.1
  brn (I.ltb i j) (brn (inB' i (I.nat j)) (brn (inB' j (lenL l)) (some ((),(subL l 0 (I.nat i) ++ subL l (I.nat j) (lenL l - I.nat j),()))) none) none) none
noncomputable def delC (t:Ty):Con:=⟨⟨[.whole 0,.pl (.int .i64),.pl (.int .i64)],[.row t]⟩,⟨[.whole 0],[.row t]⟩,delF t⟩
section
variable {P:Program} {ρ:Go.Shelf.Ren}
theorem del_ok {t:Ty} {z:Value} (h:DelP P ρ t.sz z) (hodd:noOdd P):ConOk P (ρ.f 45) (delC t):=by
  intro x y hxy c vals hS hH hargs
  obtain ⟨i,j,l,rfl⟩:∃ (i j:I .i64) (l:List t.D),x = ((i,(j,())),(l,())):=⟨x.1.1,x.1.2.1,x.2.1,rfl⟩
  have hF:delF t ((i,(j,())),(l,())) = some y:=hxy
  unfold delF at hF
  simp only [lenL] at hF
  have c0:I.ltb i j = true:=by cases h:I.ltb i j with | true=>rfl | false=>rw [h] at hF; cases hF
  rw [c0] at hF
  have c1:inB' i (I.nat j) = true:=by cases h:inB' i (I.nat j) with | true=>rfl | false=>rw [h] at hF; cases hF
  rw [c1] at hF
  have c2:inB' j l.length = true:=by cases h:inB' j l.length with | true=>rfl | false=>rw [h] at hF; cases hF
  rw [c2] at hF
  have hy:((),(subL l 0 (I.nat i) ++ subL l (I.nat j) (l.length - I.nat j),())) = y:=Option.some.inj hF
  clear hF hxy
  subst hy
  have hH:c.H = [.row t l]:=hH
  simp only [inB',I.ltb,Bool.and_eq_true,decide_eq_true_eq] at c0 c1 c2
  obtain ⟨a,ha⟩:∃ a,a = I.nat i:=⟨_,rfl⟩
  obtain ⟨b,hb⟩:∃ b,b = I.nat j:=⟨_,rfl⟩
  have hia:i.val = (a:Int):=by rw [ha]; unfold I.nat; omega
  have hjb:j.val = (b:Int):=by rw [hb]; unfold I.nat; omega
  have hab:a < b:=by omega
  have hbl:b ≤ l.length:=by omega
  have b0:blkAt c.H 0 = .row t l:=by rw [hH]; rfl
  match vals,hargs with
  | [v0,v1,v2],hargs =>
    obtain ⟨h0,h1,h2,_⟩:=hargs
    have whole:∀ b (u:Ty) (l:List u.D) v,blkAt c.H b = .row u l→VOk c (.whole b) v→v = c.ρ b:=by
      intro b u l v hb hv
      obtain ⟨cs,⟨u2,rfl,_,hw⟩,hxv⟩:=hv
      unfold WholeOk at hw
      simp only [hb] at hw
      rw [← hw]
      exact hxv
    have e0:=whole 0 t l v0 b0 h0
    have e1:=v_int h1
    have e2:=v_int h2
    subst e0 e1 e2
    have hM:=hS.mem
    have B0:=hS.blk 0
    unfold BlkOk at B0
    simp only [b0] at B0
    obtain ⟨hl0,ee0,xs,ho0,hx0⟩:=B0
    rcases own_cells ho0 with ⟨_,q0,_⟩ | ⟨g,cap,cur,g1,g2,g3,g4,g5,g6,g7⟩
    · omega
    have ⟨p1,p2⟩:=EncL_cut (fun x cs=>Enc_len t x cs) l xs a hx0
    have ⟨p3,p4⟩:=EncL_cut (fun x cs=>Enc_len t x cs) l xs b hx0
    have hxl:xs.length = l.length * t.sz:=ho0.1
    have f1:b * t.sz ≤ l.length * t.sz:=Nat.mul_le_mul_right _ hbl
    have f2:a * t.sz ≤ b * t.sz:=Nat.mul_le_mul_right _ (by omega)
    have f3:(l.length - b) * t.sz = l.length * t.sz - b * t.sz:=Nat.sub_mul _ _ _
    have f4:(a + (l.length - b)) * t.sz = a * t.sz + (l.length - b) * t.sz:=Nat.add_mul _ _ _
    have f5:l.length * t.sz ≤ cap * t.sz:=Nat.mul_le_mul_right _ g3
    have hol:cur.toList.take (a * t.sz) = xs.take (a * t.sz):=by rw [← g6,List.take_take,Nat.min_eq_left (by omega)]
    have hcs:(cur.toList.drop (b * t.sz)).take ((l.length - b) * t.sz) = xs.drop (b * t.sz):=by rw [← g6,List.drop_take,f3]
    have hdl:(xs.drop (b * t.sz)).length = (l.length - b) * t.sz:=by rw [List.length_drop,hxl,f3]
    have htl:(xs.take (a * t.sz)).length = a * t.sz:=by rw [List.length_take,hxl]; omega
    have hc:=delete_cut h l.length a b cap g cur _ _ (xs.drop (b * t.sz)) ee0 c.w hab hbl g3 g4 g2 g5 (fun v hv=>EncL_one l xs hx0 v (List.mem_of_mem_drop hv)) hcs.symm rfl rfl
    obtain ⟨nm,hnm,hfn⟩:=h.f45
    obtain ⟨body,hbd⟩:∃ b,(Go.Proofs.SlBodyN.n45 ρ).body = some b:=⟨_,rfl⟩
    right
    rw [hia,hjb,g1]
    refine ⟨run_callFunc hfn hbd (hodd (ρ.f 45) _ hfn),Calls.mono hc ?_⟩
    rintro en w2 ⟨rfl,rfl⟩
    refine ⟨_,rfl,?_⟩
    obtain ⟨C1,hC1⟩:∃ C1:Array Value,C1 = (cur.toList.take (a * t.sz) ++ xs.drop (b * t.sz) ++ cur.toList.drop (a * t.sz + (xs.drop (b * t.sz)).length)).toArray:=⟨_,rfl⟩
    rw [← hC1]
    have k1:C1.toList.take ((a + (l.length - b)) * t.sz) = xs.take (a * t.sz) ++ xs.drop (b * t.sz):=by
      rw [hC1,hol]
      rw [List.take_append_of_le_length (by simp only [List.length_append,htl,hdl]; omega)]
      exact List.take_of_length_le (by simp only [List.length_append,htl,hdl]; omega)
    have g5':cur.toList.length = cap * t.sz:=g5
    have k2:C1.size = cap * t.sz:=by
      rw [hC1,List.size_toArray,List.length_append,List.length_append,hol,htl,hdl,List.length_drop,g5']; omega
    obtain ⟨Z,hZ⟩:∃ Z:List Value,Z = (Builtin.zeroCells z.cells (l.length - (a + (l.length - b)))).toList:=⟨_,rfl⟩
    have hZl:Z.length = l.length * t.sz - (a + (l.length - b)) * t.sz:=by rw [hZ,Array.length_toList,size_zeroCells,h.zs,Nat.sub_mul]
    rw [← hZ]
    obtain ⟨C2,hC2⟩:∃ C2:Array Value,C2 = (C1.toList.take ((a + (l.length - b)) * t.sz) ++ Z ++ C1.toList.drop ((a + (l.length - b)) * t.sz + Z.length)).toArray:=⟨_,rfl⟩
    rw [← hC2]
    have hlen:(l.take a ++ l.drop b).length = l.length - (b - a):=by
      simp only [List.length_append,List.length_take,List.length_drop]; omega
    have hkk:l.length - (b - a) = a + (l.length - b):=by omega
    have k3:C2.toList.take ((l.length - (b - a)) * t.sz) = xs.take (a * t.sz) ++ xs.drop (b * t.sz):=by
      rw [hkk,hC2,k1]
      rw [List.append_assoc,List.take_append_of_le_length (by simp only [List.length_append,htl,hdl]; omega)]
      exact List.take_of_length_le (by simp only [List.length_append,htl,hdl]; omega)
    have k4:C2.size = cap * t.sz:=by
      rw [hC2,List.size_toArray,List.length_append,List.length_append,List.length_take,List.length_drop,show C1.toList.length = cap * t.sz from k2,hZl]; omega
    have hown:((c.w.drew.setRow g C1).setRow g C2).ownsRow 0 ee0 t.sz (.slice (some ⟨g,0,none⟩) (l.length - (b - a)) cap) (l.take a ++ l.drop b).length (xs.take (a * t.sz) ++ xs.drop (b * t.sz)):=by
      rw [hlen]
      refine ⟨by rw [List.length_append,htl,hdl,hkk,f4],.inr ⟨g,cap,_,rfl,Nat.zero_le _,setRow_heap _ _ _ _ ee0 _ (setRow_heap c.w.drew g cur _ ee0 _ g2),by omega,g4,k4,k3⟩⟩
    obtain ⟨c',k1,k2,k3,k4,k5⟩:=mem_row hM (nb:=1) (by rw [hH]; rfl) (t:=t) (l:=l.take a ++ l.drop b) (some g) (w':=(c.w.drew.setRow g C1).setRow g C2) ⟨rfl,rfl,rfl,by simp,fun k _ hk=>by
      have hkg:k ≠ g:=fun e=>hk (by rw [e])
      rw [setRow_other _ g k _ hkg,setRow_other _ g k _ hkg]
      rfl⟩ hown (EncL_app _ _ _ _ p1 p4) (by rw [hlen]; omega) (some 0)
      (fun i h=>by cases h; exact ⟨by rw [b0]; rfl,by decide⟩) (fun r h _=>⟨0,rfl,by rw [g1]; exact h⟩) (fun r h=>.inr ⟨0,rfl,by rw [g1]; exact h⟩)
    have hsub:subL l 0 (I.nat i) ++ subL l (I.nat j) (l.length - I.nat j) = l.take a ++ l.drop b:=by
      rw [← ha,← hb]
      simp only [subL,List.drop_zero]
      rw [List.take_of_length_le (l:=l.drop b) (by rw [List.length_drop]; exact Nat.le_refl _)]
    have hH':c'.H = [.dead,.row t (l.take a ++ l.drop b)]:=by rw [k2,hH]; rfl
    obtain ⟨m,hz⟩:∃ m,(delC t).Out.ext [.whole 1] c'.H = some (((),(l.take a ++ l.drop b,())),m):=by
      rw [hH']
      refine ⟨⟨[(0,1)],[]⟩,?_⟩
      have hc:Ty.cast (.sl t) (.sl t) (l.take a ++ l.drop b) = some (l.take a ++ l.drop b):=cast_self _ _
      simp only [Tm.ext,Tm.extF,delC,extSlots,Sh.ext',Sh.ext,Sub.bind,Sub.get,Sub.inv,extHeap,blkAt,BSh.ext,hc,ShD.cons]
      rfl
    obtain ⟨c2,w2',hh2,hM2,hargs2⟩:=part_mem k4 hz
    obtain ⟨us',q1,q2,q3⟩:=hargs2 [.slice (some ⟨g,0,none⟩) (l.length - (b - a)) cap] ⟨k5,trivial⟩
    have hus:us' = [.slice (some ⟨g,0,none⟩) (l.length - (b - a)) cap]:=by
      match us',q2 with
      | [u],_ =>
        have h3:u = .slice (some ⟨g,0,none⟩) (l.length - (b - a)) cap:=by simpa using congrArg List.head? q1.symm
        rw [h3]
    subst hus
    refine ⟨c2,w2'.trans k1,?_,?_,hM2,fun i hi=>?_⟩
    · rw [hh2,← hsub]
    · exact q3.1
    · exact absurd hi (Nat.not_lt_zero i)
end
end Sym
