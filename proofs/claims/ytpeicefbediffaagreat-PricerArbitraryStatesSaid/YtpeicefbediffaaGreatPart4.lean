/- The given functions as plain functions, as the printer told them. -/
import Derived.Test.YtpeicefbediffaaGreatProg
import Derived.Shelf.Spec.SlicesInsertGrow
import Derived.Test.YtpeicefbediffaaGreatPart3
namespace Sym
open Go
noncomputable abbrev Z_U : U := ((I.of .u64 0), ((I.of .u64 0), ((I.of .u64 0), ((I.of .u64 0), ()))))
abbrev a0A : Type := (I .u64) × (U × (U × (U × (U × ((I .u64) × Unit)))))
noncomputable abbrev a0B : a0A := ((I.of .u64 0), (Z_U, (Z_U, (Z_U, (Z_U, ((I.of .u64 0), ()))))))
abbrev a0C : Type := a0A × ((I .i64) × Unit)
noncomputable abbrev a0L : a0C := (a0B, ((I.of .i64 0), ()))
noncomputable def a4L (x : (⟨[.pl (.sl tY1)], []⟩ : Tm).D) : Option (⟨[.pl (.int .i64)], []⟩ : Tm).D :=
 let a : (List a0C) := x.1.1
 some (((I.ofNat .i64 (@a0O a0C a)),()),())
noncomputable def a1W (x : (⟨[.pl (.sl tY1), .pl (.int .i64), .pl (.int .i64)], []⟩ : Tm).D) : Option (⟨[.pl .bool], []⟩ : Tm).D :=
 let a : (List a0C) := x.1.1
 let b : (I .i64) := x.1.2.1
 let c : (I .i64) := x.1.2.2.1
 brn (inB b (@a0O a0C a)) (brn (inB c (@a0O a0C a)) (brn (I.neb (@rdL a0C a0L a (I.nat b)).1.2.2.2.2.2.1 (@rdL a0C a0L a (I.nat c)).1.2.2.2.2.2.1) (some (((I.ltb (@rdL a0C a0L a (I.nat b)).1.2.2.2.2.2.1 (@rdL a0C a0L a (I.nat c)).1.2.2.2.2.2.1),()),())) (brn (I.neb (@rdL a0C a0L a (I.nat b)).1.1 (@rdL a0C a0L a (I.nat c)).1.1) (some (((I.ltb (@rdL a0C a0L a (I.nat b)).1.1 (@rdL a0C a0L a (I.nat c)).1.1),()),())) (some (((I.ltb (@rdL a0C a0L a (I.nat b)).2.1 (@rdL a0C a0L a (I.nat c)).2.1),()),())))) none) none
noncomputable def a4M (x : (⟨[.iface 85 (.ptr 0 [.fld 0]), .iface 87 (.pl tY1)], [.box tY2 (.pair (.whole 1) (.pl .nil)), .row tY1]⟩ : Tm).D) : Option (⟨[], [.box tY2 (.pair (.whole 1) (.pl .nil)), .row tY1]⟩ : Tm).D :=
 let b : a0C := x.1.2.1
 let h0 : (Unit × Unit) := x.2.1
 let h1 : (List a0C) := x.2.2.1
 brn (a2P (@a0O a0C (@a0G a0C h1 (b::[])))) (optF none (a4L (((@a0G a0C h1 (b::[])),()),())) fun y0 => iter none (fun x1 => brn (I.eqb (I.quo (I.sub x1.1.2.1 (I.of .i64 1)) (I.of .i64 2)) x1.1.2.1) (.done (some ((),(((),x1.2.1.2),(x1.2.2.1,()))))) (optF (.done none) (a1W ((x1.2.2.1,(x1.1.2.1,((I.quo (I.sub x1.1.2.1 (I.of .i64 1)) (I.of .i64 2)),()))),())) fun y2 => brn (a2R y2.1.1) (.done (some ((),(((),x1.2.1.2),(x1.2.2.1,()))))) (brn (inB x1.1.2.1 (@a0O a0C x1.2.2.1)) (brn (inB (I.quo (I.sub x1.1.2.1 (I.of .i64 1)) (I.of .i64 2)) (@a0O a0C x1.2.2.1)) (brn (inB (I.quo (I.sub x1.1.2.1 (I.of .i64 1)) (I.of .i64 2)) (@a0O a0C x1.2.2.1)) (brn (inB x1.1.2.1 (@a0O a0C (@a1N a0C x1.2.2.1 (I.nat (I.quo (I.sub x1.1.2.1 (I.of .i64 1)) (I.of .i64 2))) (@rdL a0C a0L x1.2.2.1 (I.nat x1.1.2.1))))) (.again (((),((I.quo (I.sub x1.1.2.1 (I.of .i64 1)) (I.of .i64 2)),())),(((),x1.2.1.2),((@a1N a0C (@a1N a0C x1.2.2.1 (I.nat (I.quo (I.sub x1.1.2.1 (I.of .i64 1)) (I.of .i64 2))) (@rdL a0C a0L x1.2.2.1 (I.nat x1.1.2.1))) (I.nat x1.1.2.1) (@rdL a0C a0L x1.2.2.1 (I.nat (I.quo (I.sub x1.1.2.1 (I.of .i64 1)) (I.of .i64 2))))),())))) (.done none)) (.done none)) (.done none)) (.done none)))) K0 (((),((I.sub y0.1.1 (I.of .i64 1)),())),(((),h0.2),((@a0G a0C h1 (b::[])),())))) none
noncomputable def a8K (x : (⟨[.pl (.sl tY3)], []⟩ : Tm).D) : Option (⟨[.ptr 0 []], [.box tY2 (.pair (.whole 1) (.pl .nil)), .row tY1]⟩ : Tm).D :=
 let a : (List a0A) := x.1.1
 iter none (fun x0 => brn (I.ltb x0.1.2.2.1 x0.1.2.1) (brn (inB x0.1.2.2.1 (@a0O a0A x0.1.1)) (brn (a2R (Ty.eqb (.arr 4 (.int .u64)) (@rdL a0A a0B x0.1.1 (I.nat x0.1.2.2.1)).2.1 Z_U)) (optF (.done none) (a4M (((),(((@rdL a0A a0B x0.1.1 (I.nat x0.1.2.2.1)),(x0.1.2.2.1,())),())),(((),x0.2.1.2),(x0.2.2.1,())))) fun y1 => .again ((x0.1.1,(x0.1.2.1,((I.add x0.1.2.2.1 (I.of .i64 1)),()))),(((),y1.2.1.2),(y1.2.2.1,())))) (.again ((x0.1.1,(x0.1.2.1,((I.add x0.1.2.2.1 (I.of .i64 1)),()))),(((),x0.2.1.2),(x0.2.2.1,()))))) (.done none)) (.done (some ((),(((),x0.2.1.2),(x0.2.2.1,())))))) K0 ((a,((I.ofNat .i64 (@a0O a0A a)),(I.of .i64 0,()))),(((),()),([],())))
noncomputable def a8Q (x : (⟨[.ptr 0 []], [.box tY2 (.pair (.whole 1) (.pl .nil)), .row tY1]⟩ : Tm).D) : Option (⟨[.pl (.int .i64)], [.box tY2 (.pair (.whole 1) (.pl .nil)), .row tY1]⟩ : Tm).D :=
 let h0 : (Unit × Unit) := x.2.1
 let h1 : (List a0C) := x.2.2.1
 some (((I.ofNat .i64 (@a0O a0C h1)),()),(((),h0.2),(h1,())))
noncomputable def a5B (x : (⟨[.ptr 0 []], [.box tY2 (.pair (.whole 1) (.pl .nil)), .row tY1]⟩ : Tm).D) : Option (⟨[.pl tY3, .pl .bool], [.box tY2 (.pair (.whole 1) (.pl .nil)), .row tY1]⟩ : Tm).D :=
 let h0 : (Unit × Unit) := x.2.1
 let h1 : (List a0C) := x.2.2.1
 optF none (a8Q ((),(((),h0.2),(h1,())))) fun y0 => brn (I.eqb y0.1.1 (I.of .i64 0)) (some ((a0B,(false,())),(((),y0.2.1.2),(y0.2.2.1,())))) (brn (inB (I.of .i64 0) (@a0O a0C y0.2.2.1)) (some (((@rdL a0C a0L y0.2.2.1 0).1,(true,())),(((),y0.2.1.2),(y0.2.2.1,())))) none)
noncomputable def a2U (x : (⟨[.ptr 0 []], [.box tY2 (.pair (.whole 1) (.pl .nil)), .row tY1]⟩ : Tm).D) : Option (⟨[.pl tY3, .pl .bool], [.box tY2 (.pair (.whole 1) (.pl .nil)), .row tY1]⟩ : Tm).D :=
 let h0 : (Unit × Unit) := x.2.1
 let h1 : (List a0C) := x.2.2.1
 optF none (a5B ((),(((),h0.2),(h1,())))) fun y0 => brn y0.1.2.1 (optF none (a4L ((y0.2.2.1,()),())) fun y1 => brn (inB (I.sub y1.1.1 (I.of .i64 1)) (@a0O a0C y0.2.2.1)) (brn (inB (I.of .i64 0) (@a0O a0C y0.2.2.1)) (brn (inB (I.of .i64 0) (@a0O a0C y0.2.2.1)) (brn (inB (I.sub y1.1.1 (I.of .i64 1)) (@a0O a0C (@a1N a0C y0.2.2.1 0 (@rdL a0C a0L y0.2.2.1 (I.nat (I.sub y1.1.1 (I.of .i64 1))))))) (iter none (fun x2 => brn (I.leb x2.1.2.2.1 (I.add (I.mul (I.of .i64 2) x2.1.2.2.2.1) (I.of .i64 1))) (.done (brn (inB (I.sub (I.ofNat .i64 (@a0O a0C x2.2.2.1)) (I.of .i64 1)) (@a0O a0C x2.2.2.1)) (brn (inB' (I.sub (I.ofNat .i64 (@a0O a0C x2.2.2.1)) (I.of .i64 1)) (@a0O a0C x2.2.2.1)) (some ((x2.2.2.2.2.1,(x2.1.2.2.2.2.2.1,())),(((),x2.2.1.2),((@a6E a0C x2.2.2.1 0 (I.nat (I.sub (I.ofNat .i64 (@a0O a0C x2.2.2.1)) (I.of .i64 1)))),())))) none) none)) (brn (I.ltb (I.add (I.mul (I.of .i64 2) x2.1.2.2.2.1) (I.of .i64 1)) (I.of .i64 0)) (.done (brn (inB (I.sub (I.ofNat .i64 (@a0O a0C x2.2.2.1)) (I.of .i64 1)) (@a0O a0C x2.2.2.1)) (brn (inB' (I.sub (I.ofNat .i64 (@a0O a0C x2.2.2.1)) (I.of .i64 1)) (@a0O a0C x2.2.2.1)) (some ((x2.2.2.2.2.1,(x2.1.2.2.2.2.2.1,())),(((),x2.2.1.2),((@a6E a0C x2.2.2.1 0 (I.nat (I.sub (I.ofNat .i64 (@a0O a0C x2.2.2.1)) (I.of .i64 1)))),())))) none) none)) (brn (I.ltb (I.add (I.add (I.mul (I.of .i64 2) x2.1.2.2.2.1) (I.of .i64 1)) (I.of .i64 1)) x2.1.2.2.1) (optF (.done none) (a1W ((x2.2.2.1,((I.add (I.add (I.mul (I.of .i64 2) x2.1.2.2.2.1) (I.of .i64 1)) (I.of .i64 1)),((I.add (I.mul (I.of .i64 2) x2.1.2.2.2.1) (I.of .i64 1)),()))),())) fun y3 => brn y3.1.1 (optF (.done none) (a1W ((x2.2.2.1,((I.add (I.add (I.mul (I.of .i64 2) x2.1.2.2.2.1) (I.of .i64 1)) (I.of .i64 1)),(x2.1.2.2.2.1,()))),())) fun y4 => brn (a2R y4.1.1) (.done (brn (inB (I.sub (I.ofNat .i64 (@a0O a0C x2.2.2.1)) (I.of .i64 1)) (@a0O a0C x2.2.2.1)) (brn (inB' (I.sub (I.ofNat .i64 (@a0O a0C x2.2.2.1)) (I.of .i64 1)) (@a0O a0C x2.2.2.1)) (some ((x2.2.2.2.2.1,(x2.1.2.2.2.2.2.1,())),(((),x2.2.1.2),((@a6E a0C x2.2.2.1 0 (I.nat (I.sub (I.ofNat .i64 (@a0O a0C x2.2.2.1)) (I.of .i64 1)))),())))) none) none)) (brn (inB (I.add (I.add (I.mul (I.of .i64 2) x2.1.2.2.2.1) (I.of .i64 1)) (I.of .i64 1)) (@a0O a0C x2.2.2.1)) (brn (inB x2.1.2.2.2.1 (@a0O a0C x2.2.2.1)) (brn (inB x2.1.2.2.2.1 (@a0O a0C x2.2.2.1)) (brn (inB (I.add (I.add (I.mul (I.of .i64 2) x2.1.2.2.2.1) (I.of .i64 1)) (I.of .i64 1)) (@a0O a0C (@a1N a0C x2.2.2.1 (I.nat x2.1.2.2.2.1) (@rdL a0C a0L x2.2.2.1 (I.nat (I.add (I.add (I.mul (I.of .i64 2) x2.1.2.2.2.1) (I.of .i64 1)) (I.of .i64 1))))))) (.again (((),(x2.1.2.1,(x2.1.2.2.1,((I.add (I.add (I.mul (I.of .i64 2) x2.1.2.2.2.1) (I.of .i64 1)) (I.of .i64 1)),((),(x2.1.2.2.2.2.2.1,())))))),(((),x2.2.1.2),((@a1N a0C (@a1N a0C x2.2.2.1 (I.nat x2.1.2.2.2.1) (@rdL a0C a0L x2.2.2.1 (I.nat (I.add (I.add (I.mul (I.of .i64 2) x2.1.2.2.2.1) (I.of .i64 1)) (I.of .i64 1))))) (I.nat (I.add (I.add (I.mul (I.of .i64 2) x2.1.2.2.2.1) (I.of .i64 1)) (I.of .i64 1))) (@rdL a0C a0L x2.2.2.1 (I.nat x2.1.2.2.2.1))),(x2.2.2.2.1,(x2.2.2.2.2.1,())))))) (.done none)) (.done none)) (.done none)) (.done none))) (optF (.done none) (a1W ((x2.2.2.1,((I.add (I.mul (I.of .i64 2) x2.1.2.2.2.1) (I.of .i64 1)),(x2.1.2.2.2.1,()))),())) fun y4 => brn (a2R y4.1.1) (.done (brn (inB (I.sub (I.ofNat .i64 (@a0O a0C x2.2.2.1)) (I.of .i64 1)) (@a0O a0C x2.2.2.1)) (brn (inB' (I.sub (I.ofNat .i64 (@a0O a0C x2.2.2.1)) (I.of .i64 1)) (@a0O a0C x2.2.2.1)) (some ((x2.2.2.2.2.1,(x2.1.2.2.2.2.2.1,())),(((),x2.2.1.2),((@a6E a0C x2.2.2.1 0 (I.nat (I.sub (I.ofNat .i64 (@a0O a0C x2.2.2.1)) (I.of .i64 1)))),())))) none) none)) (brn (inB (I.add (I.mul (I.of .i64 2) x2.1.2.2.2.1) (I.of .i64 1)) (@a0O a0C x2.2.2.1)) (brn (inB x2.1.2.2.2.1 (@a0O a0C x2.2.2.1)) (brn (inB x2.1.2.2.2.1 (@a0O a0C x2.2.2.1)) (brn (inB (I.add (I.mul (I.of .i64 2) x2.1.2.2.2.1) (I.of .i64 1)) (@a0O a0C (@a1N a0C x2.2.2.1 (I.nat x2.1.2.2.2.1) (@rdL a0C a0L x2.2.2.1 (I.nat (I.add (I.mul (I.of .i64 2) x2.1.2.2.2.1) (I.of .i64 1))))))) (.again (((),(x2.1.2.1,(x2.1.2.2.1,((I.add (I.mul (I.of .i64 2) x2.1.2.2.2.1) (I.of .i64 1)),((),(x2.1.2.2.2.2.2.1,())))))),(((),x2.2.1.2),((@a1N a0C (@a1N a0C x2.2.2.1 (I.nat x2.1.2.2.2.1) (@rdL a0C a0L x2.2.2.1 (I.nat (I.add (I.mul (I.of .i64 2) x2.1.2.2.2.1) (I.of .i64 1))))) (I.nat (I.add (I.mul (I.of .i64 2) x2.1.2.2.2.1) (I.of .i64 1))) (@rdL a0C a0L x2.2.2.1 (I.nat x2.1.2.2.2.1))),(x2.2.2.2.1,(x2.2.2.2.2.1,())))))) (.done none)) (.done none)) (.done none)) (.done none)))) (optF (.done none) (a1W ((x2.2.2.1,((I.add (I.mul (I.of .i64 2) x2.1.2.2.2.1) (I.of .i64 1)),(x2.1.2.2.2.1,()))),())) fun y3 => brn (a2R y3.1.1) (.done (brn (inB (I.sub (I.ofNat .i64 (@a0O a0C x2.2.2.1)) (I.of .i64 1)) (@a0O a0C x2.2.2.1)) (brn (inB' (I.sub (I.ofNat .i64 (@a0O a0C x2.2.2.1)) (I.of .i64 1)) (@a0O a0C x2.2.2.1)) (some ((x2.2.2.2.2.1,(x2.1.2.2.2.2.2.1,())),(((),x2.2.1.2),((@a6E a0C x2.2.2.1 0 (I.nat (I.sub (I.ofNat .i64 (@a0O a0C x2.2.2.1)) (I.of .i64 1)))),())))) none) none)) (brn (inB (I.add (I.mul (I.of .i64 2) x2.1.2.2.2.1) (I.of .i64 1)) (@a0O a0C x2.2.2.1)) (brn (inB x2.1.2.2.2.1 (@a0O a0C x2.2.2.1)) (brn (inB x2.1.2.2.2.1 (@a0O a0C x2.2.2.1)) (brn (inB (I.add (I.mul (I.of .i64 2) x2.1.2.2.2.1) (I.of .i64 1)) (@a0O a0C (@a1N a0C x2.2.2.1 (I.nat x2.1.2.2.2.1) (@rdL a0C a0L x2.2.2.1 (I.nat (I.add (I.mul (I.of .i64 2) x2.1.2.2.2.1) (I.of .i64 1))))))) (.again (((),(x2.1.2.1,(x2.1.2.2.1,((I.add (I.mul (I.of .i64 2) x2.1.2.2.2.1) (I.of .i64 1)),((),(x2.1.2.2.2.2.2.1,())))))),(((),x2.2.1.2),((@a1N a0C (@a1N a0C x2.2.2.1 (I.nat x2.1.2.2.2.1) (@rdL a0C a0L x2.2.2.1 (I.nat (I.add (I.mul (I.of .i64 2) x2.1.2.2.2.1) (I.of .i64 1))))) (I.nat (I.add (I.mul (I.of .i64 2) x2.1.2.2.2.1) (I.of .i64 1))) (@rdL a0C a0L x2.2.2.1 (I.nat x2.1.2.2.2.1))),(x2.2.2.2.1,(x2.2.2.2.2.1,())))))) (.done none)) (.done none)) (.done none)) (.done none)))))) K0 (((),(I.of .i64 0,((I.sub y1.1.1 (I.of .i64 1)),(I.of .i64 0,((),(y0.1.2.1,())))))),(((),y0.2.1.2),((@a1N a0C (@a1N a0C y0.2.2.1 0 (@rdL a0C a0L y0.2.2.1 (I.nat (I.sub y1.1.1 (I.of .i64 1))))) (I.nat (I.sub y1.1.1 (I.of .i64 1))) (@rdL a0C a0L y0.2.2.1 0)),(a0B,(y0.1.1,())))))) none) none) none) none) (some ((y0.1.1,(y0.1.2.1,())),(((),y0.2.1.2),(y0.2.2.1,()))))
noncomputable def a6T (x : (⟨[.pl (.sl tY3)], []⟩ : Tm).D) : Option (⟨[.pl (.sl tY3)], []⟩ : Tm).D :=
 let a : (List a0A) := x.1.1
 iter none (fun x0 => brn (I.ltb x0.1.2.1 (I.ofNat .i64 (@a0O a0A x0.1.1))) (brn (inB x0.1.2.1 (@a0O a0A x0.1.1)) (brn (Ty.eqb (.arr 4 (.int .u64)) (@rdL a0A a0B x0.1.1 (I.nat x0.1.2.1)).2.1 Z_U) (.again ((x0.1.1,((I.add x0.1.2.1 (I.of .i64 1)),())),(x0.2.1,()))) (jn (fun (x1 : (((List a0A) × ((I .i64) × ((I .i64) × Unit))) × ((List a0A) × Unit))) => brn (inB' x1.1.2.2.1 (@a0O a0A x1.2.1)) (brn (eqV x1.1.2.2.1 x1.1.2.2.1) (brn (inB x1.1.2.1 (@a0O a0A x1.1.1)) (brn (inB' x1.1.2.2.1 (@a0O a0A x1.2.1)) (brn (a2P (@a0O a0A (@a0G a0A ((@rdL a0A a0B x1.1.1 (I.nat x1.1.2.1))::[]) (@a6E a0A x1.2.1 (I.nat x1.1.2.2.1) ((@a0O a0A x1.2.1) - (I.nat x1.1.2.2.1)))))) (brn (a2P (@a0O a0A (@a0G a0A (@a6E a0A x1.2.1 0 (I.nat x1.1.2.2.1)) (@a0G a0A ((@rdL a0A a0B x1.1.1 (I.nat x1.1.2.1))::[]) (@a6E a0A x1.2.1 (I.nat x1.1.2.2.1) ((@a0O a0A x1.2.1) - (I.nat x1.1.2.2.1))))))) (brn (c2R (@a0O a0A (@a0G a0A ((@rdL a0A a0B x1.1.1 (I.nat x1.1.2.1))::[]) (@a6E a0A x1.2.1 (I.nat x1.1.2.2.1) ((@a0O a0A x1.2.1) - (I.nat x1.1.2.2.1)))))) (.done none) (.again ((x1.1.1,((I.add x1.1.2.1 (I.of .i64 1)),())),((@a0G a0A (@a6E a0A x1.2.1 0 (I.nat x1.1.2.2.1)) (@a0G a0A ((@rdL a0A a0B x1.1.1 (I.nat x1.1.2.1))::[]) (@a6E a0A x1.2.1 (I.nat x1.1.2.2.1) ((@a0O a0A x1.2.1) - (I.nat x1.1.2.2.1))))),())))) (.done none)) (.done none)) (.done none)) (.done none)) (.done none)) (.done none)) fun j1 => iter (.done none) (fun x2 => brn (I.ltb (I.of .i64 0) x2.1.2.2.1) (brn (inB (I.sub x2.1.2.2.1 (I.of .i64 1)) (@a0O a0A x2.2.1)) (brn (inB x2.1.2.1 (@a0O a0A x2.1.1)) (brn (I.ltb (@rdL a0A a0B x2.1.1 (I.nat x2.1.2.1)).2.2.2.2.2.1 (@rdL a0A a0B x2.2.1 (I.nat (I.sub x2.1.2.2.1 (I.of .i64 1)))).2.2.2.2.2.1) (.again ((x2.1.1,(x2.1.2.1,((I.sub x2.1.2.2.1 (I.of .i64 1)),()))),(x2.2.1,()))) (brn (inB (I.sub x2.1.2.2.1 (I.of .i64 1)) (@a0O a0A x2.2.1)) (brn (inB x2.1.2.1 (@a0O a0A x2.1.1)) (brn (I.eqb (@rdL a0A a0B x2.2.1 (I.nat (I.sub x2.1.2.2.1 (I.of .i64 1)))).2.2.2.2.2.1 (@rdL a0A a0B x2.1.1 (I.nat x2.1.2.1)).2.2.2.2.2.1) (brn (inB (I.sub x2.1.2.2.1 (I.of .i64 1)) (@a0O a0A x2.2.1)) (brn (inB x2.1.2.1 (@a0O a0A x2.1.1)) (brn (I.ltb (@rdL a0A a0B x2.1.1 (I.nat x2.1.2.1)).1 (@rdL a0A a0B x2.2.1 (I.nat (I.sub x2.1.2.2.1 (I.of .i64 1)))).1) (.again ((x2.1.1,(x2.1.2.1,((I.sub x2.1.2.2.1 (I.of .i64 1)),()))),(x2.2.1,()))) (.done (j1 ((x2.1.1,(x2.1.2.1,(x2.1.2.2.1,()))),(x2.2.1,()))))) (.done (.done none))) (.done (.done none))) (.done (j1 ((x2.1.1,(x2.1.2.1,(x2.1.2.2.1,()))),(x2.2.1,()))))) (.done (.done none))) (.done (.done none)))) (.done (.done none))) (.done (.done none))) (.done (j1 ((x2.1.1,(x2.1.2.1,(x2.1.2.2.1,()))),(x2.2.1,()))))) K0 ((x0.1.1,(x0.1.2.1,((I.ofNat .i64 (@a0O a0A x0.2.1)),()))),(x0.2.1,())))) (.done none)) (.done (some ((x0.2.1,()),())))) K0 ((a,(I.of .i64 0,())),([],()))
noncomputable def a4P (x : (⟨[.pl (.sl tY3), .pl (.sl tY3)], []⟩ : Tm).D) : Option (⟨[.pl .bool], []⟩ : Tm).D :=
 let a : (List a0A) := x.1.1
 let b : (List a0A) := x.1.2.1
 brn (I.neb (I.ofNat .i64 (@a0O a0A a)) (I.ofNat .i64 (@a0O a0A b))) (some ((false,()),())) (iter none (fun x0 => brn (I.ltb x0.1.2.2.1 (I.ofNat .i64 (@a0O a0A x0.1.1))) (brn (inB x0.1.2.2.1 (@a0O a0A x0.1.1)) (brn (inB x0.1.2.2.1 (@a0O a0A x0.1.2.1)) (brn (a2R (Ty.eqb tY3 (@rdL a0A a0B x0.1.1 (I.nat x0.1.2.2.1)) (@rdL a0A a0B x0.1.2.1 (I.nat x0.1.2.2.1)))) (.done (some ((false,()),()))) (.again ((x0.1.1,(x0.1.2.1,((I.add x0.1.2.2.1 (I.of .i64 1)),()))),()))) (.done none)) (.done none)) (.done (some ((true,()),())))) K0 ((a,(b,(I.of .i64 0,()))),()))
end Sym

/- The given functions as plain functions, as the printer told them. -/
namespace Sym
open Go
abbrev a0N : Type := (I .u64) × (U × Unit)
noncomputable abbrev a2F : a0N := ((I.of .u64 0), (Z_U, ()))
abbrev a1E : Type := (I .i64) × ((I .u64) × (U × (U × (Bool × (Bool × ((I .u64) × Unit))))))
noncomputable abbrev a9C : a1E := ((I.of .i64 0), ((I.of .u64 0), (Z_U, (Z_U, (false, (false, ((I.of .u64 0), ())))))))
noncomputable section
def b1B (x : (⟨[.pl (.arr 4 (.int .u64)), .pl (.arr 4 (.int .u64))], []⟩ : Tm).D) : Option (⟨[.pl (.arr 5 (.int .u64))], []⟩ : Tm).D :=
 let a : U := x.1.1
 let b : U := x.1.2.1
 iter none (fun x0 => brn (I.ltb x0.1.2.1 (I.of .i64 4)) (brn (inB x0.1.2.1 4) (brn (inB x0.1.2.1 4) (optF (.done none) (b1D (((@Arr.sel (I .u64) (I.of .u64 0) 4 x0.2.1 (I.nat x0.1.2.1)),((@Arr.sel (I .u64) (I.of .u64 0) 4 x0.2.2.1 (I.nat x0.1.2.1)),(x0.1.1,()))),())) fun y1 => brn (inB x0.1.2.1 5) (.again ((y1.1.2.1,((I.add x0.1.2.1 (I.of .i64 1)),())),(x0.2.1,(x0.2.2.1,(x0.2.2.2.1,((@Arr.upd (I .u64) 5 x0.2.2.2.2.1 (I.nat x0.1.2.1) y1.1.1),())))))) (.done none)) (.done none)) (.done none)) (.done (some (((x0.2.2.2.2.1.1,(x0.2.2.2.2.1.2.1,(x0.2.2.2.2.1.2.2.1,(x0.2.2.2.2.1.2.2.2.1,(x0.1.1,()))))),()),())))) K0 ((I.of .u64 0,(I.of .i64 0,())),(a,(b,((I.of .u64 0,Z_U),((I.of .u64 0,Z_U),())))))
def a4T (x : (⟨[.pl (.arr 4 (.int .u64))], []⟩ : Tm).D) : Option (⟨[.pl .bool], []⟩ : Tm).D :=
 let a : U := x.1.1
 some (((Ty.eqb (.arr 4 (.int .u64)) a Z_U),()),())
def a5C (x : (⟨[.pl (.sl tY3)], []⟩ : Tm).D) : Option (⟨[.pl .bool], []⟩ : Tm).D :=
 let a : (List a0A) := x.1.1
 iter none (fun x0 => brn (I.ltb x0.1.2.2.2.1 x0.1.2.2.1) (brn (inB x0.1.2.2.2.1 (@a0O a0A x0.1.2.1)) (jn (fun (x1 : (((List a0A) × ((List a0A) × ((I .i64) × ((I .i64) × ((I .i64) × (Bool × (Bool × (Bool × Unit)))))))) × (a0A × Unit))) => optF (.done none) (b1B ((x1.2.1.2.1,(x1.2.1.2.2.2.2.1,())),())) fun y2 => optF (.done none) (b1B ((x1.2.1.2.2.1,(x1.2.1.2.2.2.1,())),())) fun y3 => brn (a2R (Ty.eqb (.arr 5 (.int .u64)) y2.1.1 y3.1.1)) (.done (some ((false,()),()))) (optF (.done none) (a4T ((x1.2.1.2.1,()),())) fun y4 => brn (a2R (Ty.eqb .bool (I.eqb x1.2.1.2.2.2.2.2.1 (I.of .u64 0)) y4.1.1)) (.done (some ((false,()),()))) (.again ((x1.1.1,(x1.1.2.1,(x1.1.2.2.1,((I.add x1.1.2.2.2.1 (I.of .i64 1)),())))),())))) fun j1 => brn (I.eqb (@rdL a0A a0B x0.1.2.1 (I.nat x0.1.2.2.2.1)).1 (I.of .u64 0)) (.done (some ((false,()),()))) (brn (I.ltb (I.of .i64 0) x0.1.2.2.2.1) (brn (inB (I.sub x0.1.2.2.2.1 (I.of .i64 1)) (@a0O a0A x0.1.1)) (brn (I.leb (@rdL a0A a0B x0.1.2.1 (I.nat x0.1.2.2.2.1)).1 (@rdL a0A a0B x0.1.1 (I.nat (I.sub x0.1.2.2.2.1 (I.of .i64 1)))).1) (.done (some ((false,()),()))) (j1 ((x0.1.1,(x0.1.2.1,(x0.1.2.2.1,(x0.1.2.2.2.1,(x0.1.2.2.2.1,((I.ltb (I.of .i64 0) x0.1.2.2.2.1),(true,((I.leb (@rdL a0A a0B x0.1.2.1 (I.nat x0.1.2.2.2.1)).1 (@rdL a0A a0B x0.1.1 (I.nat (I.sub x0.1.2.2.2.1 (I.of .i64 1)))).1),())))))))),((@rdL a0A a0B x0.1.2.1 (I.nat x0.1.2.2.2.1)),())))) (.done none)) (j1 ((x0.1.1,(x0.1.2.1,(x0.1.2.2.1,(x0.1.2.2.2.1,(x0.1.2.2.2.1,((I.ltb (I.of .i64 0) x0.1.2.2.2.1),(false,(false,())))))))),((@rdL a0A a0B x0.1.2.1 (I.nat x0.1.2.2.2.1)),()))))) (.done none)) (.done (some (((I.leb (I.ofNat .i64 (@a0O a0A x0.1.1)) (I.of .i64 64)),()),())))) K0 ((a,(a,((I.ofNat .i64 (@a0O a0A a)),(I.of .i64 0,())))),())
def b0R (x : (⟨[.pl (.sl tY3), .pl (.arr 4 (.int .u64))], []⟩ : Tm).D) : Option (⟨[.pl (.sl tY4), .pl (.int .i64)], []⟩ : Tm).D :=
 let a : (List a0A) := x.1.1
 let b : U := x.1.2.1
 optF none (a5C ((a,()),())) fun y0 => brn (a2R y0.1.1) (some (([],(I.of .i64 2,())),())) (optF none (a8K ((a,()),())) fun y1 => optF none (a2U ((),(((),y1.2.1.2),(y1.2.2.1,())))) fun y2 => iter none (fun x3 => jn (fun (x4 : ((U × (U × (Bool × Unit))) × (U × ((List a0N) × ((Unit × Unit) × ((List a0C) × (a0A × Unit))))))) => optF (.done none) (b0W ((x4.2.2.2.2.2.1.2.1,((x4.2.1::[]),())),())) fun y5 => optF (.done none) (a2E ((x4.2.1,(y5.1.1,())),())) fun y6 => brn (a2P (@a0O a0N (@a0G a0N x4.2.2.1 ((x4.2.2.2.2.2.1.1,(y5.1.1,()))::[])))) (optF (.done none) (a2U ((),(((),x4.2.2.2.1.2),(x4.2.2.2.2.1,())))) fun y7 => .again ((y7.1.2.1,()),(y6.1.1,((@a0G a0N x4.2.2.1 ((x4.2.2.2.2.2.1.1,(y5.1.1,()))::[])),(((),y7.2.1.2),(y7.2.2.1,(y7.1.1,()))))))) (.done none)) fun j4 => brn x3.1.1 (brn (a2R (Ty.eqb (.arr 4 (.int .u64)) x3.2.1 Z_U)) (j4 ((x3.2.1,(Z_U,((a2R (Ty.eqb (.arr 4 (.int .u64)) x3.2.1 Z_U)),()))),(x3.2.1,(x3.2.2.1,(((),x3.2.2.2.1.2),(x3.2.2.2.2.1,(x3.2.2.2.2.2.1,()))))))) (.done (some ((x3.2.2.1,(I.of .i64 0,())),())))) (.done (some ((x3.2.2.1,(I.of .i64 0,())),())))) K0 ((y2.1.2.1,()),(b,([],(((),y2.2.1.2),(y2.2.2.1,(y2.1.1,())))))))
def a4R (x : (⟨[.pl tY3], []⟩ : Tm).D) : Option (⟨[.pl .bool], []⟩ : Tm).D :=
 let a : a0A := x.1.1
 optF none (a0K ((a.2.1,()),())) fun y0 => optF none (a0K ((a.2.2.2.2.1,()),())) fun y1 => optF none (a2G ((y0.1.1,(y1.1.1,())),())) fun y2 => optF none (a0K ((a.2.2.1,()),())) fun y3 => optF none (a0K ((a.2.2.2.1,()),())) fun y4 => optF none (a2G ((y3.1.1,(y4.1.1,())),())) fun y5 => brn (I.neb a.1 (I.of .u64 0)) (optF none (a3Q ((y2.1.1,(y5.1.1,())),())) fun y6 => brn (I.eqb y6.1.1 (I.of .i64 0)) (optF none (a3J ((a.2.1,()),())) fun y7 => some (((Ty.eqb .bool (I.eqb a.2.2.2.2.2.1 (I.of .u64 0)) y7.1.1),()),())) (some ((false,()),()))) (some ((false,()),()))
def a2Y (x : (⟨[.pl (.sl tY3)], []⟩ : Tm).D) : Option (⟨[.pl .bool], []⟩ : Tm).D :=
 let a : (List a0A) := x.1.1
 brn (I.ltb (I.of .i64 64) (I.ofNat .i64 (@a0O a0A a))) (some ((false,()),())) (iter none (fun x0 => brn (I.ltb x0.1.2.1 (I.ofNat .i64 (@a0O a0A x0.1.1))) (brn (inB x0.1.2.1 (@a0O a0A x0.1.1)) (optF (.done none) (a4R (((@rdL a0A a0B x0.1.1 (I.nat x0.1.2.1)),()),())) fun y1 => brn (a2R y1.1.1) (.done (some ((false,()),()))) (brn (I.ltb (I.of .i64 0) x0.1.2.1) (brn (inB x0.1.2.1 (@a0O a0A x0.1.1)) (brn (inB (I.sub x0.1.2.1 (I.of .i64 1)) (@a0O a0A x0.1.1)) (brn (I.leb (@rdL a0A a0B x0.1.1 (I.nat x0.1.2.1)).1 (@rdL a0A a0B x0.1.1 (I.nat (I.sub x0.1.2.1 (I.of .i64 1)))).1) (.done (some ((false,()),()))) (.again ((x0.1.1,((I.add x0.1.2.1 (I.of .i64 1)),())),()))) (.done none)) (.done none)) (.again ((x0.1.1,((I.add x0.1.2.1 (I.of .i64 1)),())),())))) (.done none)) (.done (some ((true,()),())))) K0 ((a,(I.of .i64 0,())),()))
def a3S (x : (⟨[.pl (.sl tY3), .pl (.int .u64)], []⟩ : Tm).D) : Option (⟨[.pl (.int .i64)], []⟩ : Tm).D :=
 let a : (List a0A) := x.1.1
 let b : (I .u64) := x.1.2.1
 iter none (fun x0 => brn (I.ltb x0.1.2.2.1 (I.ofNat .i64 (@a0O a0A x0.1.1))) (brn (inB x0.1.2.2.1 (@a0O a0A x0.1.1)) (brn (I.eqb (@rdL a0A a0B x0.1.1 (I.nat x0.1.2.2.1)).1 x0.1.2.1) (.done (some ((x0.1.2.2.1,()),()))) (.again ((x0.1.1,(x0.1.2.1,((I.add x0.1.2.2.1 (I.of .i64 1)),()))),()))) (.done none)) (.done (some (((I.of .i64 (-1)),()),())))) K0 ((a,(b,(I.of .i64 0,()))),())
def a4G (x : (⟨[.pl (.sl tY3), .pl (.int .u64)], []⟩ : Tm).D) : Option (⟨[.pl (.sl tY3), .pl (.int .i64)], []⟩ : Tm).D :=
 let a : (List a0A) := x.1.1
 let b : (I .u64) := x.1.2.1
 jn (fun (x0 : (((List a0A) × ((I .u64) × Unit)) × Unit)) => optF none (a3S ((x0.1.1,(x0.1.2.1,())),())) fun y1 => brn (I.leb (I.of .i64 0) y1.1.1) (some (([],(I.of .i64 9,())),())) (brn (I.leb (I.of .i64 64) (I.ofNat .i64 (@a0O a0A x0.1.1))) (some (([],(I.of .i64 7,())),())) (iter none (fun x2 => brn (I.ltb x2.1.2.2.2.1 (I.ofNat .i64 (@a0O a0A x2.1.1))) (jn (fun (x3 : (((List a0A) × ((I .u64) × (Bool × ((I .i64) × (Bool × Unit))))) × ((List a0A) × Unit))) => brn x3.1.2.2.2.2.1 (brn (a2P (@a0O a0A (@a0G a0A x3.2.1 ((x3.1.2.1,(Z_U,(Z_U,(Z_U,(Z_U,(I.of .u64 0,()))))))::[])))) (brn (inB x3.1.2.2.2.1 (@a0O a0A x3.1.1)) (brn (a2P (@a0O a0A (@a0G a0A (@a0G a0A x3.2.1 ((x3.1.2.1,(Z_U,(Z_U,(Z_U,(Z_U,(I.of .u64 0,()))))))::[])) ((@rdL a0A a0B x3.1.1 (I.nat x3.1.2.2.2.1))::[])))) (.again ((x3.1.1,(x3.1.2.1,(true,((I.add x3.1.2.2.2.1 (I.of .i64 1)),())))),((@a0G a0A (@a0G a0A x3.2.1 ((x3.1.2.1,(Z_U,(Z_U,(Z_U,(Z_U,(I.of .u64 0,()))))))::[])) ((@rdL a0A a0B x3.1.1 (I.nat x3.1.2.2.2.1))::[])),()))) (.done none)) (.done none)) (.done none)) (brn (inB x3.1.2.2.2.1 (@a0O a0A x3.1.1)) (brn (a2P (@a0O a0A (@a0G a0A x3.2.1 ((@rdL a0A a0B x3.1.1 (I.nat x3.1.2.2.2.1))::[])))) (.again ((x3.1.1,(x3.1.2.1,(x3.1.2.2.1,((I.add x3.1.2.2.2.1 (I.of .i64 1)),())))),((@a0G a0A x3.2.1 ((@rdL a0A a0B x3.1.1 (I.nat x3.1.2.2.2.1))::[])),()))) (.done none)) (.done none))) fun j3 => brn (a2R x2.1.2.2.1) (brn (inB x2.1.2.2.2.1 (@a0O a0A x2.1.1)) (j3 ((x2.1.1,(x2.1.2.1,(x2.1.2.2.1,(x2.1.2.2.2.1,((I.ltb x2.1.2.1 (@rdL a0A a0B x2.1.1 (I.nat x2.1.2.2.2.1)).1),()))))),(x2.2.1,()))) (.done none)) (j3 ((x2.1.1,(x2.1.2.1,(x2.1.2.2.1,(x2.1.2.2.2.1,(false,()))))),(x2.2.1,())))) (.done (brn (a2R x2.1.2.2.1) (brn (a2P (@a0O a0A (@a0G a0A x2.2.1 ((x2.1.2.1,(Z_U,(Z_U,(Z_U,(Z_U,(I.of .u64 0,()))))))::[])))) (some (((@a0G a0A x2.2.1 ((x2.1.2.1,(Z_U,(Z_U,(Z_U,(Z_U,(I.of .u64 0,()))))))::[])),(I.of .i64 0,())),())) none) (some ((x2.2.1,(I.of .i64 0,())),()))))) K0 ((x0.1.1,(x0.1.2.1,(false,(I.of .i64 0,())))),([],()))))) fun j0 => optF none (a2Y ((a,()),())) fun y1 => brn (a2R y1.1.1) (some (([],(I.of .i64 2,())),())) (brn (I.eqb b (I.of .u64 0)) (some (([],(I.of .i64 2,())),())) (j0 ((a,(b,())),())))
def a5X (x : (⟨[.pl (.arr 4 (.int .u64)), .pl (.arr 4 (.int .u64))], []⟩ : Tm).D) : Option (⟨[.pl (.arr 4 (.int .u64)), .pl (.int .i64)], []⟩ : Tm).D :=
 let a : U := x.1.1
 let b : U := x.1.2.1
 optF none (a0K ((a,()),())) fun y0 => optF none (a0K ((b,()),())) fun y1 => optF none (a3Q ((y0.1.1,(y1.1.1,())),())) fun y2 => brn (I.ltb y2.1.1 (I.of .i64 0)) (some ((Z_U,(I.of .i64 4,())),())) (optF none (a2X ((y0.1.1,(y1.1.1,())),())) fun y3 => optF none (a1B ((y3.1.1,()),())) fun y4 => some ((y4.1.1,(I.of .i64 0,())),()))
def a7L (x : (⟨[.pl (.arr 4 (.int .u64)), .pl (.arr 4 (.int .u64))], []⟩ : Tm).D) : Option (⟨[.pl (.arr 4 (.int .u64)), .pl (.int .i64)], []⟩ : Tm).D :=
 let a : U := x.1.1
 let b : U := x.1.2.1
 optF none (a0K ((a,()),())) fun y0 => optF none (a0K ((b,()),())) fun y1 => optF none (a2G ((y0.1.1,(y1.1.1,())),())) fun y2 => optF none (a2N ((y2.1.1,()),())) fun y3 => some ((y3.1.1,(y3.1.2.1,())),())
def a4K (x : (⟨[.pl (.sl tY3), .pl (.int .u64), .pl (.arr 4 (.int .u64))], []⟩ : Tm).D) : Option (⟨[.pl (.sl tY3), .pl (.int .i64)], []⟩ : Tm).D :=
 let a : (List a0A) := x.1.1
 let b : (I .u64) := x.1.2.1
 let c : U := x.1.2.2.1
 optF none (a2Y ((a,()),())) fun y0 => brn (a2R y0.1.1) (some (([],(I.of .i64 2,())),())) (optF none (a3S ((a,(b,())),())) fun y1 => brn (I.ltb y1.1.1 (I.of .i64 0)) (some (([],(I.of .i64 8,())),())) (brn (a2P (@a0O a0A (@a0G a0A [] a))) (brn (inB y1.1.1 (@a0O a0A (@a0G a0A [] a))) (optF none (a5X (((@rdL a0A a0B (@a0G a0A [] a) (I.nat y1.1.1)).2.1,(c,())),())) fun y2 => brn (I.neb y2.1.2.1 (I.of .i64 0)) (some (([],(I.of .i64 10,())),())) (optF none (a7L (((@rdL a0A a0B (@a0G a0A [] a) (I.nat y1.1.1)).2.2.2.2.1,(c,())),())) fun y3 => brn (I.neb y3.1.2.1 (I.of .i64 0)) (some (([],(y3.1.2.1,())),())) (optF none (a3J ((y2.1.1,()),())) fun y4 => brn y4.1.1 (some (((@a1N a0A (@a1N a0A (@a1N a0A (@a0G a0A [] a) (I.nat y1.1.1) ((@rdL a0A a0B (@a0G a0A [] a) (I.nat y1.1.1)).1,(y2.1.1,(@rdL a0A a0B (@a0G a0A [] a) (I.nat y1.1.1)).2.2))) (I.nat y1.1.1) ((@rdL a0A a0B (@a1N a0A (@a0G a0A [] a) (I.nat y1.1.1) ((@rdL a0A a0B (@a0G a0A [] a) (I.nat y1.1.1)).1,(y2.1.1,(@rdL a0A a0B (@a0G a0A [] a) (I.nat y1.1.1)).2.2))) (I.nat y1.1.1)).1,((@rdL a0A a0B (@a1N a0A (@a0G a0A [] a) (I.nat y1.1.1) ((@rdL a0A a0B (@a0G a0A [] a) (I.nat y1.1.1)).1,(y2.1.1,(@rdL a0A a0B (@a0G a0A [] a) (I.nat y1.1.1)).2.2))) (I.nat y1.1.1)).2.1,((@rdL a0A a0B (@a1N a0A (@a0G a0A [] a) (I.nat y1.1.1) ((@rdL a0A a0B (@a0G a0A [] a) (I.nat y1.1.1)).1,(y2.1.1,(@rdL a0A a0B (@a0G a0A [] a) (I.nat y1.1.1)).2.2))) (I.nat y1.1.1)).2.2.1,((@rdL a0A a0B (@a1N a0A (@a0G a0A [] a) (I.nat y1.1.1) ((@rdL a0A a0B (@a0G a0A [] a) (I.nat y1.1.1)).1,(y2.1.1,(@rdL a0A a0B (@a0G a0A [] a) (I.nat y1.1.1)).2.2))) (I.nat y1.1.1)).2.2.2.1,(y3.1.1,(@rdL a0A a0B (@a1N a0A (@a0G a0A [] a) (I.nat y1.1.1) ((@rdL a0A a0B (@a0G a0A [] a) (I.nat y1.1.1)).1,(y2.1.1,(@rdL a0A a0B (@a0G a0A [] a) (I.nat y1.1.1)).2.2))) (I.nat y1.1.1)).2.2.2.2.2)))))) (I.nat y1.1.1) ((@rdL a0A a0B (@a1N a0A (@a1N a0A (@a0G a0A [] a) (I.nat y1.1.1) ((@rdL a0A a0B (@a0G a0A [] a) (I.nat y1.1.1)).1,(y2.1.1,(@rdL a0A a0B (@a0G a0A [] a) (I.nat y1.1.1)).2.2))) (I.nat y1.1.1) ((@rdL a0A a0B (@a1N a0A (@a0G a0A [] a) (I.nat y1.1.1) ((@rdL a0A a0B (@a0G a0A [] a) (I.nat y1.1.1)).1,(y2.1.1,(@rdL a0A a0B (@a0G a0A [] a) (I.nat y1.1.1)).2.2))) (I.nat y1.1.1)).1,((@rdL a0A a0B (@a1N a0A (@a0G a0A [] a) (I.nat y1.1.1) ((@rdL a0A a0B (@a0G a0A [] a) (I.nat y1.1.1)).1,(y2.1.1,(@rdL a0A a0B (@a0G a0A [] a) (I.nat y1.1.1)).2.2))) (I.nat y1.1.1)).2.1,((@rdL a0A a0B (@a1N a0A (@a0G a0A [] a) (I.nat y1.1.1) ((@rdL a0A a0B (@a0G a0A [] a) (I.nat y1.1.1)).1,(y2.1.1,(@rdL a0A a0B (@a0G a0A [] a) (I.nat y1.1.1)).2.2))) (I.nat y1.1.1)).2.2.1,((@rdL a0A a0B (@a1N a0A (@a0G a0A [] a) (I.nat y1.1.1) ((@rdL a0A a0B (@a0G a0A [] a) (I.nat y1.1.1)).1,(y2.1.1,(@rdL a0A a0B (@a0G a0A [] a) (I.nat y1.1.1)).2.2))) (I.nat y1.1.1)).2.2.2.1,(y3.1.1,(@rdL a0A a0B (@a1N a0A (@a0G a0A [] a) (I.nat y1.1.1) ((@rdL a0A a0B (@a0G a0A [] a) (I.nat y1.1.1)).1,(y2.1.1,(@rdL a0A a0B (@a0G a0A [] a) (I.nat y1.1.1)).2.2))) (I.nat y1.1.1)).2.2.2.2.2)))))) (I.nat y1.1.1)).1,((@rdL a0A a0B (@a1N a0A (@a1N a0A (@a0G a0A [] a) (I.nat y1.1.1) ((@rdL a0A a0B (@a0G a0A [] a) (I.nat y1.1.1)).1,(y2.1.1,(@rdL a0A a0B (@a0G a0A [] a) (I.nat y1.1.1)).2.2))) (I.nat y1.1.1) ((@rdL a0A a0B (@a1N a0A (@a0G a0A [] a) (I.nat y1.1.1) ((@rdL a0A a0B (@a0G a0A [] a) (I.nat y1.1.1)).1,(y2.1.1,(@rdL a0A a0B (@a0G a0A [] a) (I.nat y1.1.1)).2.2))) (I.nat y1.1.1)).1,((@rdL a0A a0B (@a1N a0A (@a0G a0A [] a) (I.nat y1.1.1) ((@rdL a0A a0B (@a0G a0A [] a) (I.nat y1.1.1)).1,(y2.1.1,(@rdL a0A a0B (@a0G a0A [] a) (I.nat y1.1.1)).2.2))) (I.nat y1.1.1)).2.1,((@rdL a0A a0B (@a1N a0A (@a0G a0A [] a) (I.nat y1.1.1) ((@rdL a0A a0B (@a0G a0A [] a) (I.nat y1.1.1)).1,(y2.1.1,(@rdL a0A a0B (@a0G a0A [] a) (I.nat y1.1.1)).2.2))) (I.nat y1.1.1)).2.2.1,((@rdL a0A a0B (@a1N a0A (@a0G a0A [] a) (I.nat y1.1.1) ((@rdL a0A a0B (@a0G a0A [] a) (I.nat y1.1.1)).1,(y2.1.1,(@rdL a0A a0B (@a0G a0A [] a) (I.nat y1.1.1)).2.2))) (I.nat y1.1.1)).2.2.2.1,(y3.1.1,(@rdL a0A a0B (@a1N a0A (@a0G a0A [] a) (I.nat y1.1.1) ((@rdL a0A a0B (@a0G a0A [] a) (I.nat y1.1.1)).1,(y2.1.1,(@rdL a0A a0B (@a0G a0A [] a) (I.nat y1.1.1)).2.2))) (I.nat y1.1.1)).2.2.2.2.2)))))) (I.nat y1.1.1)).2.1,((@rdL a0A a0B (@a1N a0A (@a1N a0A (@a0G a0A [] a) (I.nat y1.1.1) ((@rdL a0A a0B (@a0G a0A [] a) (I.nat y1.1.1)).1,(y2.1.1,(@rdL a0A a0B (@a0G a0A [] a) (I.nat y1.1.1)).2.2))) (I.nat y1.1.1) ((@rdL a0A a0B (@a1N a0A (@a0G a0A [] a) (I.nat y1.1.1) ((@rdL a0A a0B (@a0G a0A [] a) (I.nat y1.1.1)).1,(y2.1.1,(@rdL a0A a0B (@a0G a0A [] a) (I.nat y1.1.1)).2.2))) (I.nat y1.1.1)).1,((@rdL a0A a0B (@a1N a0A (@a0G a0A [] a) (I.nat y1.1.1) ((@rdL a0A a0B (@a0G a0A [] a) (I.nat y1.1.1)).1,(y2.1.1,(@rdL a0A a0B (@a0G a0A [] a) (I.nat y1.1.1)).2.2))) (I.nat y1.1.1)).2.1,((@rdL a0A a0B (@a1N a0A (@a0G a0A [] a) (I.nat y1.1.1) ((@rdL a0A a0B (@a0G a0A [] a) (I.nat y1.1.1)).1,(y2.1.1,(@rdL a0A a0B (@a0G a0A [] a) (I.nat y1.1.1)).2.2))) (I.nat y1.1.1)).2.2.1,((@rdL a0A a0B (@a1N a0A (@a0G a0A [] a) (I.nat y1.1.1) ((@rdL a0A a0B (@a0G a0A [] a) (I.nat y1.1.1)).1,(y2.1.1,(@rdL a0A a0B (@a0G a0A [] a) (I.nat y1.1.1)).2.2))) (I.nat y1.1.1)).2.2.2.1,(y3.1.1,(@rdL a0A a0B (@a1N a0A (@a0G a0A [] a) (I.nat y1.1.1) ((@rdL a0A a0B (@a0G a0A [] a) (I.nat y1.1.1)).1,(y2.1.1,(@rdL a0A a0B (@a0G a0A [] a) (I.nat y1.1.1)).2.2))) (I.nat y1.1.1)).2.2.2.2.2)))))) (I.nat y1.1.1)).2.2.1,((@rdL a0A a0B (@a1N a0A (@a1N a0A (@a0G a0A [] a) (I.nat y1.1.1) ((@rdL a0A a0B (@a0G a0A [] a) (I.nat y1.1.1)).1,(y2.1.1,(@rdL a0A a0B (@a0G a0A [] a) (I.nat y1.1.1)).2.2))) (I.nat y1.1.1) ((@rdL a0A a0B (@a1N a0A (@a0G a0A [] a) (I.nat y1.1.1) ((@rdL a0A a0B (@a0G a0A [] a) (I.nat y1.1.1)).1,(y2.1.1,(@rdL a0A a0B (@a0G a0A [] a) (I.nat y1.1.1)).2.2))) (I.nat y1.1.1)).1,((@rdL a0A a0B (@a1N a0A (@a0G a0A [] a) (I.nat y1.1.1) ((@rdL a0A a0B (@a0G a0A [] a) (I.nat y1.1.1)).1,(y2.1.1,(@rdL a0A a0B (@a0G a0A [] a) (I.nat y1.1.1)).2.2))) (I.nat y1.1.1)).2.1,((@rdL a0A a0B (@a1N a0A (@a0G a0A [] a) (I.nat y1.1.1) ((@rdL a0A a0B (@a0G a0A [] a) (I.nat y1.1.1)).1,(y2.1.1,(@rdL a0A a0B (@a0G a0A [] a) (I.nat y1.1.1)).2.2))) (I.nat y1.1.1)).2.2.1,((@rdL a0A a0B (@a1N a0A (@a0G a0A [] a) (I.nat y1.1.1) ((@rdL a0A a0B (@a0G a0A [] a) (I.nat y1.1.1)).1,(y2.1.1,(@rdL a0A a0B (@a0G a0A [] a) (I.nat y1.1.1)).2.2))) (I.nat y1.1.1)).2.2.2.1,(y3.1.1,(@rdL a0A a0B (@a1N a0A (@a0G a0A [] a) (I.nat y1.1.1) ((@rdL a0A a0B (@a0G a0A [] a) (I.nat y1.1.1)).1,(y2.1.1,(@rdL a0A a0B (@a0G a0A [] a) (I.nat y1.1.1)).2.2))) (I.nat y1.1.1)).2.2.2.2.2)))))) (I.nat y1.1.1)).2.2.2.1,((@rdL a0A a0B (@a1N a0A (@a1N a0A (@a0G a0A [] a) (I.nat y1.1.1) ((@rdL a0A a0B (@a0G a0A [] a) (I.nat y1.1.1)).1,(y2.1.1,(@rdL a0A a0B (@a0G a0A [] a) (I.nat y1.1.1)).2.2))) (I.nat y1.1.1) ((@rdL a0A a0B (@a1N a0A (@a0G a0A [] a) (I.nat y1.1.1) ((@rdL a0A a0B (@a0G a0A [] a) (I.nat y1.1.1)).1,(y2.1.1,(@rdL a0A a0B (@a0G a0A [] a) (I.nat y1.1.1)).2.2))) (I.nat y1.1.1)).1,((@rdL a0A a0B (@a1N a0A (@a0G a0A [] a) (I.nat y1.1.1) ((@rdL a0A a0B (@a0G a0A [] a) (I.nat y1.1.1)).1,(y2.1.1,(@rdL a0A a0B (@a0G a0A [] a) (I.nat y1.1.1)).2.2))) (I.nat y1.1.1)).2.1,((@rdL a0A a0B (@a1N a0A (@a0G a0A [] a) (I.nat y1.1.1) ((@rdL a0A a0B (@a0G a0A [] a) (I.nat y1.1.1)).1,(y2.1.1,(@rdL a0A a0B (@a0G a0A [] a) (I.nat y1.1.1)).2.2))) (I.nat y1.1.1)).2.2.1,((@rdL a0A a0B (@a1N a0A (@a0G a0A [] a) (I.nat y1.1.1) ((@rdL a0A a0B (@a0G a0A [] a) (I.nat y1.1.1)).1,(y2.1.1,(@rdL a0A a0B (@a0G a0A [] a) (I.nat y1.1.1)).2.2))) (I.nat y1.1.1)).2.2.2.1,(y3.1.1,(@rdL a0A a0B (@a1N a0A (@a0G a0A [] a) (I.nat y1.1.1) ((@rdL a0A a0B (@a0G a0A [] a) (I.nat y1.1.1)).1,(y2.1.1,(@rdL a0A a0B (@a0G a0A [] a) (I.nat y1.1.1)).2.2))) (I.nat y1.1.1)).2.2.2.2.2)))))) (I.nat y1.1.1)).2.2.2.2.1,(I.of .u64 0,(@rdL a0A a0B (@a1N a0A (@a1N a0A (@a0G a0A [] a) (I.nat y1.1.1) ((@rdL a0A a0B (@a0G a0A [] a) (I.nat y1.1.1)).1,(y2.1.1,(@rdL a0A a0B (@a0G a0A [] a) (I.nat y1.1.1)).2.2))) (I.nat y1.1.1) ((@rdL a0A a0B (@a1N a0A (@a0G a0A [] a) (I.nat y1.1.1) ((@rdL a0A a0B (@a0G a0A [] a) (I.nat y1.1.1)).1,(y2.1.1,(@rdL a0A a0B (@a0G a0A [] a) (I.nat y1.1.1)).2.2))) (I.nat y1.1.1)).1,((@rdL a0A a0B (@a1N a0A (@a0G a0A [] a) (I.nat y1.1.1) ((@rdL a0A a0B (@a0G a0A [] a) (I.nat y1.1.1)).1,(y2.1.1,(@rdL a0A a0B (@a0G a0A [] a) (I.nat y1.1.1)).2.2))) (I.nat y1.1.1)).2.1,((@rdL a0A a0B (@a1N a0A (@a0G a0A [] a) (I.nat y1.1.1) ((@rdL a0A a0B (@a0G a0A [] a) (I.nat y1.1.1)).1,(y2.1.1,(@rdL a0A a0B (@a0G a0A [] a) (I.nat y1.1.1)).2.2))) (I.nat y1.1.1)).2.2.1,((@rdL a0A a0B (@a1N a0A (@a0G a0A [] a) (I.nat y1.1.1) ((@rdL a0A a0B (@a0G a0A [] a) (I.nat y1.1.1)).1,(y2.1.1,(@rdL a0A a0B (@a0G a0A [] a) (I.nat y1.1.1)).2.2))) (I.nat y1.1.1)).2.2.2.1,(y3.1.1,(@rdL a0A a0B (@a1N a0A (@a0G a0A [] a) (I.nat y1.1.1) ((@rdL a0A a0B (@a0G a0A [] a) (I.nat y1.1.1)).1,(y2.1.1,(@rdL a0A a0B (@a0G a0A [] a) (I.nat y1.1.1)).2.2))) (I.nat y1.1.1)).2.2.2.2.2)))))) (I.nat y1.1.1)).2.2.2.2.2.2))))))),(I.of .i64 0,())),())) (some (((@a1N a0A (@a1N a0A (@a0G a0A [] a) (I.nat y1.1.1) ((@rdL a0A a0B (@a0G a0A [] a) (I.nat y1.1.1)).1,(y2.1.1,(@rdL a0A a0B (@a0G a0A [] a) (I.nat y1.1.1)).2.2))) (I.nat y1.1.1) ((@rdL a0A a0B (@a1N a0A (@a0G a0A [] a) (I.nat y1.1.1) ((@rdL a0A a0B (@a0G a0A [] a) (I.nat y1.1.1)).1,(y2.1.1,(@rdL a0A a0B (@a0G a0A [] a) (I.nat y1.1.1)).2.2))) (I.nat y1.1.1)).1,((@rdL a0A a0B (@a1N a0A (@a0G a0A [] a) (I.nat y1.1.1) ((@rdL a0A a0B (@a0G a0A [] a) (I.nat y1.1.1)).1,(y2.1.1,(@rdL a0A a0B (@a0G a0A [] a) (I.nat y1.1.1)).2.2))) (I.nat y1.1.1)).2.1,((@rdL a0A a0B (@a1N a0A (@a0G a0A [] a) (I.nat y1.1.1) ((@rdL a0A a0B (@a0G a0A [] a) (I.nat y1.1.1)).1,(y2.1.1,(@rdL a0A a0B (@a0G a0A [] a) (I.nat y1.1.1)).2.2))) (I.nat y1.1.1)).2.2.1,((@rdL a0A a0B (@a1N a0A (@a0G a0A [] a) (I.nat y1.1.1) ((@rdL a0A a0B (@a0G a0A [] a) (I.nat y1.1.1)).1,(y2.1.1,(@rdL a0A a0B (@a0G a0A [] a) (I.nat y1.1.1)).2.2))) (I.nat y1.1.1)).2.2.2.1,(y3.1.1,(@rdL a0A a0B (@a1N a0A (@a0G a0A [] a) (I.nat y1.1.1) ((@rdL a0A a0B (@a0G a0A [] a) (I.nat y1.1.1)).1,(y2.1.1,(@rdL a0A a0B (@a0G a0A [] a) (I.nat y1.1.1)).2.2))) (I.nat y1.1.1)).2.2.2.2.2)))))),(I.of .i64 0,())),()))))) none) none))
def a3N (x : (⟨[.pl (.sl tY3), .pl (.int .u64), .pl (.arr 4 (.int .u64)), .pl (.arr 4 (.int .u64)), .pl (.int .u64)], []⟩ : Tm).D) : Option (⟨[.pl (.sl tY3), .pl (.int .i64)], []⟩ : Tm).D :=
 let a : (List a0A) := x.1.1
 let b : (I .u64) := x.1.2.1
 let c : U := x.1.2.2.1
 let d : U := x.1.2.2.2.1
 let e : (I .u64) := x.1.2.2.2.2.1
 jn (fun (x0 : (((List a0A) × ((I .u64) × ((I .u64) × Unit))) × (U × (U × Unit)))) => optF none (a3S ((x0.1.1,(x0.1.2.1,())),())) fun y1 => brn (I.ltb y1.1.1 (I.of .i64 0)) (some (([],(I.of .i64 8,())),())) (brn (a2P (@a0O a0A (@a0G a0A [] x0.1.1))) (brn (inB y1.1.1 (@a0O a0A (@a0G a0A [] x0.1.1))) (optF none (a0K (((@rdL a0A a0B (@a0G a0A [] x0.1.1) (I.nat y1.1.1)).2.1,()),())) fun y2 => optF none (a0K ((x0.2.1,()),())) fun y3 => optF none (a0K ((x0.2.2.1,()),())) fun y4 => optF none (a2G ((y3.1.1,(y4.1.1,())),())) fun y5 => optF none (a2G ((y2.1.1,(y5.1.1,())),())) fun y6 => optF none (a0K (((@rdL a0A a0B (@a0G a0A [] x0.1.1) (I.nat y1.1.1)).2.2.1,()),())) fun y7 => optF none (a0K ((x0.2.1,()),())) fun y8 => optF none (a2G ((y7.1.1,(y8.1.1,())),())) fun y9 => optF none (a0K (((@rdL a0A a0B (@a0G a0A [] x0.1.1) (I.nat y1.1.1)).2.2.2.1,()),())) fun y10 => optF none (a0K ((x0.2.2.1,()),())) fun y11 => optF none (a2G ((y10.1.1,(y11.1.1,())),())) fun y12 => optF none (a2W ((y6.1.1,()),())) fun y13 => brn (a2R y13.1.1) (some (([],(I.of .i64 4,())),())) (optF none (a2W ((y9.1.1,()),())) fun y14 => brn (a2R y14.1.1) (some (([],(I.of .i64 4,())),())) (optF none (a2W ((y12.1.1,()),())) fun y15 => brn (a2R y15.1.1) (some (([],(I.of .i64 4,())),())) (optF none (a3J (((@rdL a0A a0B (@a0G a0A [] x0.1.1) (I.nat y1.1.1)).2.1,()),())) fun y16 => brn y16.1.1 (brn (I.ltb (I.of .i64 0) (I.ofNat .i64 (@a0O (I .i64) y6.1.1))) (optF none (a1B ((y6.1.1,()),())) fun y17 => optF none (a1B ((y9.1.1,()),())) fun y18 => optF none (a1B ((y12.1.1,()),())) fun y19 => some (((@a1N a0A (@a1N a0A (@a1N a0A (@a1N a0A (@a0G a0A [] x0.1.1) (I.nat y1.1.1) ((@rdL a0A a0B (@a0G a0A [] x0.1.1) (I.nat y1.1.1)).1,((@rdL a0A a0B (@a0G a0A [] x0.1.1) (I.nat y1.1.1)).2.1,((@rdL a0A a0B (@a0G a0A [] x0.1.1) (I.nat y1.1.1)).2.2.1,((@rdL a0A a0B (@a0G a0A [] x0.1.1) (I.nat y1.1.1)).2.2.2.1,((@rdL a0A a0B (@a0G a0A [] x0.1.1) (I.nat y1.1.1)).2.2.2.2.1,(x0.1.2.2.1,(@rdL a0A a0B (@a0G a0A [] x0.1.1) (I.nat y1.1.1)).2.2.2.2.2.2))))))) (I.nat y1.1.1) ((@rdL a0A a0B (@a1N a0A (@a0G a0A [] x0.1.1) (I.nat y1.1.1) ((@rdL a0A a0B (@a0G a0A [] x0.1.1) (I.nat y1.1.1)).1,((@rdL a0A a0B (@a0G a0A [] x0.1.1) (I.nat y1.1.1)).2.1,((@rdL a0A a0B (@a0G a0A [] x0.1.1) (I.nat y1.1.1)).2.2.1,((@rdL a0A a0B (@a0G a0A [] x0.1.1) (I.nat y1.1.1)).2.2.2.1,((@rdL a0A a0B (@a0G a0A [] x0.1.1) (I.nat y1.1.1)).2.2.2.2.1,(x0.1.2.2.1,(@rdL a0A a0B (@a0G a0A [] x0.1.1) (I.nat y1.1.1)).2.2.2.2.2.2))))))) (I.nat y1.1.1)).1,(y17.1.1,(@rdL a0A a0B (@a1N a0A (@a0G a0A [] x0.1.1) (I.nat y1.1.1) ((@rdL a0A a0B (@a0G a0A [] x0.1.1) (I.nat y1.1.1)).1,((@rdL a0A a0B (@a0G a0A [] x0.1.1) (I.nat y1.1.1)).2.1,((@rdL a0A a0B (@a0G a0A [] x0.1.1) (I.nat y1.1.1)).2.2.1,((@rdL a0A a0B (@a0G a0A [] x0.1.1) (I.nat y1.1.1)).2.2.2.1,((@rdL a0A a0B (@a0G a0A [] x0.1.1) (I.nat y1.1.1)).2.2.2.2.1,(x0.1.2.2.1,(@rdL a0A a0B (@a0G a0A [] x0.1.1) (I.nat y1.1.1)).2.2.2.2.2.2))))))) (I.nat y1.1.1)).2.2))) (I.nat y1.1.1) ((@rdL a0A a0B (@a1N a0A (@a1N a0A (@a0G a0A [] x0.1.1) (I.nat y1.1.1) ((@rdL a0A a0B (@a0G a0A [] x0.1.1) (I.nat y1.1.1)).1,((@rdL a0A a0B (@a0G a0A [] x0.1.1) (I.nat y1.1.1)).2.1,((@rdL a0A a0B (@a0G a0A [] x0.1.1) (I.nat y1.1.1)).2.2.1,((@rdL a0A a0B (@a0G a0A [] x0.1.1) (I.nat y1.1.1)).2.2.2.1,((@rdL a0A a0B (@a0G a0A [] x0.1.1) (I.nat y1.1.1)).2.2.2.2.1,(x0.1.2.2.1,(@rdL a0A a0B (@a0G a0A [] x0.1.1) (I.nat y1.1.1)).2.2.2.2.2.2))))))) (I.nat y1.1.1) ((@rdL a0A a0B (@a1N a0A (@a0G a0A [] x0.1.1) (I.nat y1.1.1) ((@rdL a0A a0B (@a0G a0A [] x0.1.1) (I.nat y1.1.1)).1,((@rdL a0A a0B (@a0G a0A [] x0.1.1) (I.nat y1.1.1)).2.1,((@rdL a0A a0B (@a0G a0A [] x0.1.1) (I.nat y1.1.1)).2.2.1,((@rdL a0A a0B (@a0G a0A [] x0.1.1) (I.nat y1.1.1)).2.2.2.1,((@rdL a0A a0B (@a0G a0A [] x0.1.1) (I.nat y1.1.1)).2.2.2.2.1,(x0.1.2.2.1,(@rdL a0A a0B (@a0G a0A [] x0.1.1) (I.nat y1.1.1)).2.2.2.2.2.2))))))) (I.nat y1.1.1)).1,(y17.1.1,(@rdL a0A a0B (@a1N a0A (@a0G a0A [] x0.1.1) (I.nat y1.1.1) ((@rdL a0A a0B (@a0G a0A [] x0.1.1) (I.nat y1.1.1)).1,((@rdL a0A a0B (@a0G a0A [] x0.1.1) (I.nat y1.1.1)).2.1,((@rdL a0A a0B (@a0G a0A [] x0.1.1) (I.nat y1.1.1)).2.2.1,((@rdL a0A a0B (@a0G a0A [] x0.1.1) (I.nat y1.1.1)).2.2.2.1,((@rdL a0A a0B (@a0G a0A [] x0.1.1) (I.nat y1.1.1)).2.2.2.2.1,(x0.1.2.2.1,(@rdL a0A a0B (@a0G a0A [] x0.1.1) (I.nat y1.1.1)).2.2.2.2.2.2))))))) (I.nat y1.1.1)).2.2))) (I.nat y1.1.1)).1,((@rdL a0A a0B (@a1N a0A (@a1N a0A (@a0G a0A [] x0.1.1) (I.nat y1.1.1) ((@rdL a0A a0B (@a0G a0A [] x0.1.1) (I.nat y1.1.1)).1,((@rdL a0A a0B (@a0G a0A [] x0.1.1) (I.nat y1.1.1)).2.1,((@rdL a0A a0B (@a0G a0A [] x0.1.1) (I.nat y1.1.1)).2.2.1,((@rdL a0A a0B (@a0G a0A [] x0.1.1) (I.nat y1.1.1)).2.2.2.1,((@rdL a0A a0B (@a0G a0A [] x0.1.1) (I.nat y1.1.1)).2.2.2.2.1,(x0.1.2.2.1,(@rdL a0A a0B (@a0G a0A [] x0.1.1) (I.nat y1.1.1)).2.2.2.2.2.2))))))) (I.nat y1.1.1) ((@rdL a0A a0B (@a1N a0A (@a0G a0A [] x0.1.1) (I.nat y1.1.1) ((@rdL a0A a0B (@a0G a0A [] x0.1.1) (I.nat y1.1.1)).1,((@rdL a0A a0B (@a0G a0A [] x0.1.1) (I.nat y1.1.1)).2.1,((@rdL a0A a0B (@a0G a0A [] x0.1.1) (I.nat y1.1.1)).2.2.1,((@rdL a0A a0B (@a0G a0A [] x0.1.1) (I.nat y1.1.1)).2.2.2.1,((@rdL a0A a0B (@a0G a0A [] x0.1.1) (I.nat y1.1.1)).2.2.2.2.1,(x0.1.2.2.1,(@rdL a0A a0B (@a0G a0A [] x0.1.1) (I.nat y1.1.1)).2.2.2.2.2.2))))))) (I.nat y1.1.1)).1,(y17.1.1,(@rdL a0A a0B (@a1N a0A (@a0G a0A [] x0.1.1) (I.nat y1.1.1) ((@rdL a0A a0B (@a0G a0A [] x0.1.1) (I.nat y1.1.1)).1,((@rdL a0A a0B (@a0G a0A [] x0.1.1) (I.nat y1.1.1)).2.1,((@rdL a0A a0B (@a0G a0A [] x0.1.1) (I.nat y1.1.1)).2.2.1,((@rdL a0A a0B (@a0G a0A [] x0.1.1) (I.nat y1.1.1)).2.2.2.1,((@rdL a0A a0B (@a0G a0A [] x0.1.1) (I.nat y1.1.1)).2.2.2.2.1,(x0.1.2.2.1,(@rdL a0A a0B (@a0G a0A [] x0.1.1) (I.nat y1.1.1)).2.2.2.2.2.2))))))) (I.nat y1.1.1)).2.2))) (I.nat y1.1.1)).2.1,(y18.1.1,(@rdL a0A a0B (@a1N a0A (@a1N a0A (@a0G a0A [] x0.1.1) (I.nat y1.1.1) ((@rdL a0A a0B (@a0G a0A [] x0.1.1) (I.nat y1.1.1)).1,((@rdL a0A a0B (@a0G a0A [] x0.1.1) (I.nat y1.1.1)).2.1,((@rdL a0A a0B (@a0G a0A [] x0.1.1) (I.nat y1.1.1)).2.2.1,((@rdL a0A a0B (@a0G a0A [] x0.1.1) (I.nat y1.1.1)).2.2.2.1,((@rdL a0A a0B (@a0G a0A [] x0.1.1) (I.nat y1.1.1)).2.2.2.2.1,(x0.1.2.2.1,(@rdL a0A a0B (@a0G a0A [] x0.1.1) (I.nat y1.1.1)).2.2.2.2.2.2))))))) (I.nat y1.1.1) ((@rdL a0A a0B (@a1N a0A (@a0G a0A [] x0.1.1) (I.nat y1.1.1) ((@rdL a0A a0B (@a0G a0A [] x0.1.1) (I.nat y1.1.1)).1,((@rdL a0A a0B (@a0G a0A [] x0.1.1) (I.nat y1.1.1)).2.1,((@rdL a0A a0B (@a0G a0A [] x0.1.1) (I.nat y1.1.1)).2.2.1,((@rdL a0A a0B (@a0G a0A [] x0.1.1) (I.nat y1.1.1)).2.2.2.1,((@rdL a0A a0B (@a0G a0A [] x0.1.1) (I.nat y1.1.1)).2.2.2.2.1,(x0.1.2.2.1,(@rdL a0A a0B (@a0G a0A [] x0.1.1) (I.nat y1.1.1)).2.2.2.2.2.2))))))) (I.nat y1.1.1)).1,(y17.1.1,(@rdL a0A a0B (@a1N a0A (@a0G a0A [] x0.1.1) (I.nat y1.1.1) ((@rdL a0A a0B (@a0G a0A [] x0.1.1) (I.nat y1.1.1)).1,((@rdL a0A a0B (@a0G a0A [] x0.1.1) (I.nat y1.1.1)).2.1,((@rdL a0A a0B (@a0G a0A [] x0.1.1) (I.nat y1.1.1)).2.2.1,((@rdL a0A a0B (@a0G a0A [] x0.1.1) (I.nat y1.1.1)).2.2.2.1,((@rdL a0A a0B (@a0G a0A [] x0.1.1) (I.nat y1.1.1)).2.2.2.2.1,(x0.1.2.2.1,(@rdL a0A a0B (@a0G a0A [] x0.1.1) (I.nat y1.1.1)).2.2.2.2.2.2))))))) (I.nat y1.1.1)).2.2))) (I.nat y1.1.1)).2.2.2)))) (I.nat y1.1.1) ((@rdL a0A a0B (@a1N a0A (@a1N a0A (@a1N a0A (@a0G a0A [] x0.1.1) (I.nat y1.1.1) ((@rdL a0A a0B (@a0G a0A [] x0.1.1) (I.nat y1.1.1)).1,((@rdL a0A a0B (@a0G a0A [] x0.1.1) (I.nat y1.1.1)).2.1,((@rdL a0A a0B (@a0G a0A [] x0.1.1) (I.nat y1.1.1)).2.2.1,((@rdL a0A a0B (@a0G a0A [] x0.1.1) (I.nat y1.1.1)).2.2.2.1,((@rdL a0A a0B (@a0G a0A [] x0.1.1) (I.nat y1.1.1)).2.2.2.2.1,(x0.1.2.2.1,(@rdL a0A a0B (@a0G a0A [] x0.1.1) (I.nat y1.1.1)).2.2.2.2.2.2))))))) (I.nat y1.1.1) ((@rdL a0A a0B (@a1N a0A (@a0G a0A [] x0.1.1) (I.nat y1.1.1) ((@rdL a0A a0B (@a0G a0A [] x0.1.1) (I.nat y1.1.1)).1,((@rdL a0A a0B (@a0G a0A [] x0.1.1) (I.nat y1.1.1)).2.1,((@rdL a0A a0B (@a0G a0A [] x0.1.1) (I.nat y1.1.1)).2.2.1,((@rdL a0A a0B (@a0G a0A [] x0.1.1) (I.nat y1.1.1)).2.2.2.1,((@rdL a0A a0B (@a0G a0A [] x0.1.1) (I.nat y1.1.1)).2.2.2.2.1,(x0.1.2.2.1,(@rdL a0A a0B (@a0G a0A [] x0.1.1) (I.nat y1.1.1)).2.2.2.2.2.2))))))) (I.nat y1.1.1)).1,(y17.1.1,(@rdL a0A a0B (@a1N a0A (@a0G a0A [] x0.1.1) (I.nat y1.1.1) ((@rdL a0A a0B (@a0G a0A [] x0.1.1) (I.nat y1.1.1)).1,((@rdL a0A a0B (@a0G a0A [] x0.1.1) (I.nat y1.1.1)).2.1,((@rdL a0A a0B (@a0G a0A [] x0.1.1) (I.nat y1.1.1)).2.2.1,((@rdL a0A a0B (@a0G a0A [] x0.1.1) (I.nat y1.1.1)).2.2.2.1,((@rdL a0A a0B (@a0G a0A [] x0.1.1) (I.nat y1.1.1)).2.2.2.2.1,(x0.1.2.2.1,(@rdL a0A a0B (@a0G a0A [] x0.1.1) (I.nat y1.1.1)).2.2.2.2.2.2))))))) (I.nat y1.1.1)).2.2))) (I.nat y1.1.1) ((@rdL a0A a0B (@a1N a0A (@a1N a0A (@a0G a0A [] x0.1.1) (I.nat y1.1.1) ((@rdL a0A a0B (@a0G a0A [] x0.1.1) (I.nat y1.1.1)).1,((@rdL a0A a0B (@a0G a0A [] x0.1.1) (I.nat y1.1.1)).2.1,((@rdL a0A a0B (@a0G a0A [] x0.1.1) (I.nat y1.1.1)).2.2.1,((@rdL a0A a0B (@a0G a0A [] x0.1.1) (I.nat y1.1.1)).2.2.2.1,((@rdL a0A a0B (@a0G a0A [] x0.1.1) (I.nat y1.1.1)).2.2.2.2.1,(x0.1.2.2.1,(@rdL a0A a0B (@a0G a0A [] x0.1.1) (I.nat y1.1.1)).2.2.2.2.2.2))))))) (I.nat y1.1.1) ((@rdL a0A a0B (@a1N a0A (@a0G a0A [] x0.1.1) (I.nat y1.1.1) ((@rdL a0A a0B (@a0G a0A [] x0.1.1) (I.nat y1.1.1)).1,((@rdL a0A a0B (@a0G a0A [] x0.1.1) (I.nat y1.1.1)).2.1,((@rdL a0A a0B (@a0G a0A [] x0.1.1) (I.nat y1.1.1)).2.2.1,((@rdL a0A a0B (@a0G a0A [] x0.1.1) (I.nat y1.1.1)).2.2.2.1,((@rdL a0A a0B (@a0G a0A [] x0.1.1) (I.nat y1.1.1)).2.2.2.2.1,(x0.1.2.2.1,(@rdL a0A a0B (@a0G a0A [] x0.1.1) (I.nat y1.1.1)).2.2.2.2.2.2))))))) (I.nat y1.1.1)).1,(y17.1.1,(@rdL a0A a0B (@a1N a0A (@a0G a0A [] x0.1.1) (I.nat y1.1.1) ((@rdL a0A a0B (@a0G a0A [] x0.1.1) (I.nat y1.1.1)).1,((@rdL a0A a0B (@a0G a0A [] x0.1.1) (I.nat y1.1.1)).2.1,((@rdL a0A a0B (@a0G a0A [] x0.1.1) (I.nat y1.1.1)).2.2.1,((@rdL a0A a0B (@a0G a0A [] x0.1.1) (I.nat y1.1.1)).2.2.2.1,((@rdL a0A a0B (@a0G a0A [] x0.1.1) (I.nat y1.1.1)).2.2.2.2.1,(x0.1.2.2.1,(@rdL a0A a0B (@a0G a0A [] x0.1.1) (I.nat y1.1.1)).2.2.2.2.2.2))))))) (I.nat y1.1.1)).2.2))) (I.nat y1.1.1)).1,((@rdL a0A a0B (@a1N a0A (@a1N a0A (@a0G a0A [] x0.1.1) (I.nat y1.1.1) ((@rdL a0A a0B (@a0G a0A [] x0.1.1) (I.nat y1.1.1)).1,((@rdL a0A a0B (@a0G a0A [] x0.1.1) (I.nat y1.1.1)).2.1,((@rdL a0A a0B (@a0G a0A [] x0.1.1) (I.nat y1.1.1)).2.2.1,((@rdL a0A a0B (@a0G a0A [] x0.1.1) (I.nat y1.1.1)).2.2.2.1,((@rdL a0A a0B (@a0G a0A [] x0.1.1) (I.nat y1.1.1)).2.2.2.2.1,(x0.1.2.2.1,(@rdL a0A a0B (@a0G a0A [] x0.1.1) (I.nat y1.1.1)).2.2.2.2.2.2))))))) (I.nat y1.1.1) ((@rdL a0A a0B (@a1N a0A (@a0G a0A [] x0.1.1) (I.nat y1.1.1) ((@rdL a0A a0B (@a0G a0A [] x0.1.1) (I.nat y1.1.1)).1,((@rdL a0A a0B (@a0G a0A [] x0.1.1) (I.nat y1.1.1)).2.1,((@rdL a0A a0B (@a0G a0A [] x0.1.1) (I.nat y1.1.1)).2.2.1,((@rdL a0A a0B (@a0G a0A [] x0.1.1) (I.nat y1.1.1)).2.2.2.1,((@rdL a0A a0B (@a0G a0A [] x0.1.1) (I.nat y1.1.1)).2.2.2.2.1,(x0.1.2.2.1,(@rdL a0A a0B (@a0G a0A [] x0.1.1) (I.nat y1.1.1)).2.2.2.2.2.2))))))) (I.nat y1.1.1)).1,(y17.1.1,(@rdL a0A a0B (@a1N a0A (@a0G a0A [] x0.1.1) (I.nat y1.1.1) ((@rdL a0A a0B (@a0G a0A [] x0.1.1) (I.nat y1.1.1)).1,((@rdL a0A a0B (@a0G a0A [] x0.1.1) (I.nat y1.1.1)).2.1,((@rdL a0A a0B (@a0G a0A [] x0.1.1) (I.nat y1.1.1)).2.2.1,((@rdL a0A a0B (@a0G a0A [] x0.1.1) (I.nat y1.1.1)).2.2.2.1,((@rdL a0A a0B (@a0G a0A [] x0.1.1) (I.nat y1.1.1)).2.2.2.2.1,(x0.1.2.2.1,(@rdL a0A a0B (@a0G a0A [] x0.1.1) (I.nat y1.1.1)).2.2.2.2.2.2))))))) (I.nat y1.1.1)).2.2))) (I.nat y1.1.1)).2.1,(y18.1.1,(@rdL a0A a0B (@a1N a0A (@a1N a0A (@a0G a0A [] x0.1.1) (I.nat y1.1.1) ((@rdL a0A a0B (@a0G a0A [] x0.1.1) (I.nat y1.1.1)).1,((@rdL a0A a0B (@a0G a0A [] x0.1.1) (I.nat y1.1.1)).2.1,((@rdL a0A a0B (@a0G a0A [] x0.1.1) (I.nat y1.1.1)).2.2.1,((@rdL a0A a0B (@a0G a0A [] x0.1.1) (I.nat y1.1.1)).2.2.2.1,((@rdL a0A a0B (@a0G a0A [] x0.1.1) (I.nat y1.1.1)).2.2.2.2.1,(x0.1.2.2.1,(@rdL a0A a0B (@a0G a0A [] x0.1.1) (I.nat y1.1.1)).2.2.2.2.2.2))))))) (I.nat y1.1.1) ((@rdL a0A a0B (@a1N a0A (@a0G a0A [] x0.1.1) (I.nat y1.1.1) ((@rdL a0A a0B (@a0G a0A [] x0.1.1) (I.nat y1.1.1)).1,((@rdL a0A a0B (@a0G a0A [] x0.1.1) (I.nat y1.1.1)).2.1,((@rdL a0A a0B (@a0G a0A [] x0.1.1) (I.nat y1.1.1)).2.2.1,((@rdL a0A a0B (@a0G a0A [] x0.1.1) (I.nat y1.1.1)).2.2.2.1,((@rdL a0A a0B (@a0G a0A [] x0.1.1) (I.nat y1.1.1)).2.2.2.2.1,(x0.1.2.2.1,(@rdL a0A a0B (@a0G a0A [] x0.1.1) (I.nat y1.1.1)).2.2.2.2.2.2))))))) (I.nat y1.1.1)).1,(y17.1.1,(@rdL a0A a0B (@a1N a0A (@a0G a0A [] x0.1.1) (I.nat y1.1.1) ((@rdL a0A a0B (@a0G a0A [] x0.1.1) (I.nat y1.1.1)).1,((@rdL a0A a0B (@a0G a0A [] x0.1.1) (I.nat y1.1.1)).2.1,((@rdL a0A a0B (@a0G a0A [] x0.1.1) (I.nat y1.1.1)).2.2.1,((@rdL a0A a0B (@a0G a0A [] x0.1.1) (I.nat y1.1.1)).2.2.2.1,((@rdL a0A a0B (@a0G a0A [] x0.1.1) (I.nat y1.1.1)).2.2.2.2.1,(x0.1.2.2.1,(@rdL a0A a0B (@a0G a0A [] x0.1.1) (I.nat y1.1.1)).2.2.2.2.2.2))))))) (I.nat y1.1.1)).2.2))) (I.nat y1.1.1)).2.2.2)))) (I.nat y1.1.1)).1,((@rdL a0A a0B (@a1N a0A (@a1N a0A (@a1N a0A (@a0G a0A [] x0.1.1) (I.nat y1.1.1) ((@rdL a0A a0B (@a0G a0A [] x0.1.1) (I.nat y1.1.1)).1,((@rdL a0A a0B (@a0G a0A [] x0.1.1) (I.nat y1.1.1)).2.1,((@rdL a0A a0B (@a0G a0A [] x0.1.1) (I.nat y1.1.1)).2.2.1,((@rdL a0A a0B (@a0G a0A [] x0.1.1) (I.nat y1.1.1)).2.2.2.1,((@rdL a0A a0B (@a0G a0A [] x0.1.1) (I.nat y1.1.1)).2.2.2.2.1,(x0.1.2.2.1,(@rdL a0A a0B (@a0G a0A [] x0.1.1) (I.nat y1.1.1)).2.2.2.2.2.2))))))) (I.nat y1.1.1) ((@rdL a0A a0B (@a1N a0A (@a0G a0A [] x0.1.1) (I.nat y1.1.1) ((@rdL a0A a0B (@a0G a0A [] x0.1.1) (I.nat y1.1.1)).1,((@rdL a0A a0B (@a0G a0A [] x0.1.1) (I.nat y1.1.1)).2.1,((@rdL a0A a0B (@a0G a0A [] x0.1.1) (I.nat y1.1.1)).2.2.1,((@rdL a0A a0B (@a0G a0A [] x0.1.1) (I.nat y1.1.1)).2.2.2.1,((@rdL a0A a0B (@a0G a0A [] x0.1.1) (I.nat y1.1.1)).2.2.2.2.1,(x0.1.2.2.1,(@rdL a0A a0B (@a0G a0A [] x0.1.1) (I.nat y1.1.1)).2.2.2.2.2.2))))))) (I.nat y1.1.1)).1,(y17.1.1,(@rdL a0A a0B (@a1N a0A (@a0G a0A [] x0.1.1) (I.nat y1.1.1) ((@rdL a0A a0B (@a0G a0A [] x0.1.1) (I.nat y1.1.1)).1,((@rdL a0A a0B (@a0G a0A [] x0.1.1) (I.nat y1.1.1)).2.1,((@rdL a0A a0B (@a0G a0A [] x0.1.1) (I.nat y1.1.1)).2.2.1,((@rdL a0A a0B (@a0G a0A [] x0.1.1) (I.nat y1.1.1)).2.2.2.1,((@rdL a0A a0B (@a0G a0A [] x0.1.1) (I.nat y1.1.1)).2.2.2.2.1,(x0.1.2.2.1,(@rdL a0A a0B (@a0G a0A [] x0.1.1) (I.nat y1.1.1)).2.2.2.2.2.2))))))) (I.nat y1.1.1)).2.2))) (I.nat y1.1.1) ((@rdL a0A a0B (@a1N a0A (@a1N a0A (@a0G a0A [] x0.1.1) (I.nat y1.1.1) ((@rdL a0A a0B (@a0G a0A [] x0.1.1) (I.nat y1.1.1)).1,((@rdL a0A a0B (@a0G a0A [] x0.1.1) (I.nat y1.1.1)).2.1,((@rdL a0A a0B (@a0G a0A [] x0.1.1) (I.nat y1.1.1)).2.2.1,((@rdL a0A a0B (@a0G a0A [] x0.1.1) (I.nat y1.1.1)).2.2.2.1,((@rdL a0A a0B (@a0G a0A [] x0.1.1) (I.nat y1.1.1)).2.2.2.2.1,(x0.1.2.2.1,(@rdL a0A a0B (@a0G a0A [] x0.1.1) (I.nat y1.1.1)).2.2.2.2.2.2))))))) (I.nat y1.1.1) ((@rdL a0A a0B (@a1N a0A (@a0G a0A [] x0.1.1) (I.nat y1.1.1) ((@rdL a0A a0B (@a0G a0A [] x0.1.1) (I.nat y1.1.1)).1,((@rdL a0A a0B (@a0G a0A [] x0.1.1) (I.nat y1.1.1)).2.1,((@rdL a0A a0B (@a0G a0A [] x0.1.1) (I.nat y1.1.1)).2.2.1,((@rdL a0A a0B (@a0G a0A [] x0.1.1) (I.nat y1.1.1)).2.2.2.1,((@rdL a0A a0B (@a0G a0A [] x0.1.1) (I.nat y1.1.1)).2.2.2.2.1,(x0.1.2.2.1,(@rdL a0A a0B (@a0G a0A [] x0.1.1) (I.nat y1.1.1)).2.2.2.2.2.2))))))) (I.nat y1.1.1)).1,(y17.1.1,(@rdL a0A a0B (@a1N a0A (@a0G a0A [] x0.1.1) (I.nat y1.1.1) ((@rdL a0A a0B (@a0G a0A [] x0.1.1) (I.nat y1.1.1)).1,((@rdL a0A a0B (@a0G a0A [] x0.1.1) (I.nat y1.1.1)).2.1,((@rdL a0A a0B (@a0G a0A [] x0.1.1) (I.nat y1.1.1)).2.2.1,((@rdL a0A a0B (@a0G a0A [] x0.1.1) (I.nat y1.1.1)).2.2.2.1,((@rdL a0A a0B (@a0G a0A [] x0.1.1) (I.nat y1.1.1)).2.2.2.2.1,(x0.1.2.2.1,(@rdL a0A a0B (@a0G a0A [] x0.1.1) (I.nat y1.1.1)).2.2.2.2.2.2))))))) (I.nat y1.1.1)).2.2))) (I.nat y1.1.1)).1,((@rdL a0A a0B (@a1N a0A (@a1N a0A (@a0G a0A [] x0.1.1) (I.nat y1.1.1) ((@rdL a0A a0B (@a0G a0A [] x0.1.1) (I.nat y1.1.1)).1,((@rdL a0A a0B (@a0G a0A [] x0.1.1) (I.nat y1.1.1)).2.1,((@rdL a0A a0B (@a0G a0A [] x0.1.1) (I.nat y1.1.1)).2.2.1,((@rdL a0A a0B (@a0G a0A [] x0.1.1) (I.nat y1.1.1)).2.2.2.1,((@rdL a0A a0B (@a0G a0A [] x0.1.1) (I.nat y1.1.1)).2.2.2.2.1,(x0.1.2.2.1,(@rdL a0A a0B (@a0G a0A [] x0.1.1) (I.nat y1.1.1)).2.2.2.2.2.2))))))) (I.nat y1.1.1) ((@rdL a0A a0B (@a1N a0A (@a0G a0A [] x0.1.1) (I.nat y1.1.1) ((@rdL a0A a0B (@a0G a0A [] x0.1.1) (I.nat y1.1.1)).1,((@rdL a0A a0B (@a0G a0A [] x0.1.1) (I.nat y1.1.1)).2.1,((@rdL a0A a0B (@a0G a0A [] x0.1.1) (I.nat y1.1.1)).2.2.1,((@rdL a0A a0B (@a0G a0A [] x0.1.1) (I.nat y1.1.1)).2.2.2.1,((@rdL a0A a0B (@a0G a0A [] x0.1.1) (I.nat y1.1.1)).2.2.2.2.1,(x0.1.2.2.1,(@rdL a0A a0B (@a0G a0A [] x0.1.1) (I.nat y1.1.1)).2.2.2.2.2.2))))))) (I.nat y1.1.1)).1,(y17.1.1,(@rdL a0A a0B (@a1N a0A (@a0G a0A [] x0.1.1) (I.nat y1.1.1) ((@rdL a0A a0B (@a0G a0A [] x0.1.1) (I.nat y1.1.1)).1,((@rdL a0A a0B (@a0G a0A [] x0.1.1) (I.nat y1.1.1)).2.1,((@rdL a0A a0B (@a0G a0A [] x0.1.1) (I.nat y1.1.1)).2.2.1,((@rdL a0A a0B (@a0G a0A [] x0.1.1) (I.nat y1.1.1)).2.2.2.1,((@rdL a0A a0B (@a0G a0A [] x0.1.1) (I.nat y1.1.1)).2.2.2.2.1,(x0.1.2.2.1,(@rdL a0A a0B (@a0G a0A [] x0.1.1) (I.nat y1.1.1)).2.2.2.2.2.2))))))) (I.nat y1.1.1)).2.2))) (I.nat y1.1.1)).2.1,(y18.1.1,(@rdL a0A a0B (@a1N a0A (@a1N a0A (@a0G a0A [] x0.1.1) (I.nat y1.1.1) ((@rdL a0A a0B (@a0G a0A [] x0.1.1) (I.nat y1.1.1)).1,((@rdL a0A a0B (@a0G a0A [] x0.1.1) (I.nat y1.1.1)).2.1,((@rdL a0A a0B (@a0G a0A [] x0.1.1) (I.nat y1.1.1)).2.2.1,((@rdL a0A a0B (@a0G a0A [] x0.1.1) (I.nat y1.1.1)).2.2.2.1,((@rdL a0A a0B (@a0G a0A [] x0.1.1) (I.nat y1.1.1)).2.2.2.2.1,(x0.1.2.2.1,(@rdL a0A a0B (@a0G a0A [] x0.1.1) (I.nat y1.1.1)).2.2.2.2.2.2))))))) (I.nat y1.1.1) ((@rdL a0A a0B (@a1N a0A (@a0G a0A [] x0.1.1) (I.nat y1.1.1) ((@rdL a0A a0B (@a0G a0A [] x0.1.1) (I.nat y1.1.1)).1,((@rdL a0A a0B (@a0G a0A [] x0.1.1) (I.nat y1.1.1)).2.1,((@rdL a0A a0B (@a0G a0A [] x0.1.1) (I.nat y1.1.1)).2.2.1,((@rdL a0A a0B (@a0G a0A [] x0.1.1) (I.nat y1.1.1)).2.2.2.1,((@rdL a0A a0B (@a0G a0A [] x0.1.1) (I.nat y1.1.1)).2.2.2.2.1,(x0.1.2.2.1,(@rdL a0A a0B (@a0G a0A [] x0.1.1) (I.nat y1.1.1)).2.2.2.2.2.2))))))) (I.nat y1.1.1)).1,(y17.1.1,(@rdL a0A a0B (@a1N a0A (@a0G a0A [] x0.1.1) (I.nat y1.1.1) ((@rdL a0A a0B (@a0G a0A [] x0.1.1) (I.nat y1.1.1)).1,((@rdL a0A a0B (@a0G a0A [] x0.1.1) (I.nat y1.1.1)).2.1,((@rdL a0A a0B (@a0G a0A [] x0.1.1) (I.nat y1.1.1)).2.2.1,((@rdL a0A a0B (@a0G a0A [] x0.1.1) (I.nat y1.1.1)).2.2.2.1,((@rdL a0A a0B (@a0G a0A [] x0.1.1) (I.nat y1.1.1)).2.2.2.2.1,(x0.1.2.2.1,(@rdL a0A a0B (@a0G a0A [] x0.1.1) (I.nat y1.1.1)).2.2.2.2.2.2))))))) (I.nat y1.1.1)).2.2))) (I.nat y1.1.1)).2.2.2)))) (I.nat y1.1.1)).2.1,((@rdL a0A a0B (@a1N a0A (@a1N a0A (@a1N a0A (@a0G a0A [] x0.1.1) (I.nat y1.1.1) ((@rdL a0A a0B (@a0G a0A [] x0.1.1) (I.nat y1.1.1)).1,((@rdL a0A a0B (@a0G a0A [] x0.1.1) (I.nat y1.1.1)).2.1,((@rdL a0A a0B (@a0G a0A [] x0.1.1) (I.nat y1.1.1)).2.2.1,((@rdL a0A a0B (@a0G a0A [] x0.1.1) (I.nat y1.1.1)).2.2.2.1,((@rdL a0A a0B (@a0G a0A [] x0.1.1) (I.nat y1.1.1)).2.2.2.2.1,(x0.1.2.2.1,(@rdL a0A a0B (@a0G a0A [] x0.1.1) (I.nat y1.1.1)).2.2.2.2.2.2))))))) (I.nat y1.1.1) ((@rdL a0A a0B (@a1N a0A (@a0G a0A [] x0.1.1) (I.nat y1.1.1) ((@rdL a0A a0B (@a0G a0A [] x0.1.1) (I.nat y1.1.1)).1,((@rdL a0A a0B (@a0G a0A [] x0.1.1) (I.nat y1.1.1)).2.1,((@rdL a0A a0B (@a0G a0A [] x0.1.1) (I.nat y1.1.1)).2.2.1,((@rdL a0A a0B (@a0G a0A [] x0.1.1) (I.nat y1.1.1)).2.2.2.1,((@rdL a0A a0B (@a0G a0A [] x0.1.1) (I.nat y1.1.1)).2.2.2.2.1,(x0.1.2.2.1,(@rdL a0A a0B (@a0G a0A [] x0.1.1) (I.nat y1.1.1)).2.2.2.2.2.2))))))) (I.nat y1.1.1)).1,(y17.1.1,(@rdL a0A a0B (@a1N a0A (@a0G a0A [] x0.1.1) (I.nat y1.1.1) ((@rdL a0A a0B (@a0G a0A [] x0.1.1) (I.nat y1.1.1)).1,((@rdL a0A a0B (@a0G a0A [] x0.1.1) (I.nat y1.1.1)).2.1,((@rdL a0A a0B (@a0G a0A [] x0.1.1) (I.nat y1.1.1)).2.2.1,((@rdL a0A a0B (@a0G a0A [] x0.1.1) (I.nat y1.1.1)).2.2.2.1,((@rdL a0A a0B (@a0G a0A [] x0.1.1) (I.nat y1.1.1)).2.2.2.2.1,(x0.1.2.2.1,(@rdL a0A a0B (@a0G a0A [] x0.1.1) (I.nat y1.1.1)).2.2.2.2.2.2))))))) (I.nat y1.1.1)).2.2))) (I.nat y1.1.1) ((@rdL a0A a0B (@a1N a0A (@a1N a0A (@a0G a0A [] x0.1.1) (I.nat y1.1.1) ((@rdL a0A a0B (@a0G a0A [] x0.1.1) (I.nat y1.1.1)).1,((@rdL a0A a0B (@a0G a0A [] x0.1.1) (I.nat y1.1.1)).2.1,((@rdL a0A a0B (@a0G a0A [] x0.1.1) (I.nat y1.1.1)).2.2.1,((@rdL a0A a0B (@a0G a0A [] x0.1.1) (I.nat y1.1.1)).2.2.2.1,((@rdL a0A a0B (@a0G a0A [] x0.1.1) (I.nat y1.1.1)).2.2.2.2.1,(x0.1.2.2.1,(@rdL a0A a0B (@a0G a0A [] x0.1.1) (I.nat y1.1.1)).2.2.2.2.2.2))))))) (I.nat y1.1.1) ((@rdL a0A a0B (@a1N a0A (@a0G a0A [] x0.1.1) (I.nat y1.1.1) ((@rdL a0A a0B (@a0G a0A [] x0.1.1) (I.nat y1.1.1)).1,((@rdL a0A a0B (@a0G a0A [] x0.1.1) (I.nat y1.1.1)).2.1,((@rdL a0A a0B (@a0G a0A [] x0.1.1) (I.nat y1.1.1)).2.2.1,((@rdL a0A a0B (@a0G a0A [] x0.1.1) (I.nat y1.1.1)).2.2.2.1,((@rdL a0A a0B (@a0G a0A [] x0.1.1) (I.nat y1.1.1)).2.2.2.2.1,(x0.1.2.2.1,(@rdL a0A a0B (@a0G a0A [] x0.1.1) (I.nat y1.1.1)).2.2.2.2.2.2))))))) (I.nat y1.1.1)).1,(y17.1.1,(@rdL a0A a0B (@a1N a0A (@a0G a0A [] x0.1.1) (I.nat y1.1.1) ((@rdL a0A a0B (@a0G a0A [] x0.1.1) (I.nat y1.1.1)).1,((@rdL a0A a0B (@a0G a0A [] x0.1.1) (I.nat y1.1.1)).2.1,((@rdL a0A a0B (@a0G a0A [] x0.1.1) (I.nat y1.1.1)).2.2.1,((@rdL a0A a0B (@a0G a0A [] x0.1.1) (I.nat y1.1.1)).2.2.2.1,((@rdL a0A a0B (@a0G a0A [] x0.1.1) (I.nat y1.1.1)).2.2.2.2.1,(x0.1.2.2.1,(@rdL a0A a0B (@a0G a0A [] x0.1.1) (I.nat y1.1.1)).2.2.2.2.2.2))))))) (I.nat y1.1.1)).2.2))) (I.nat y1.1.1)).1,((@rdL a0A a0B (@a1N a0A (@a1N a0A (@a0G a0A [] x0.1.1) (I.nat y1.1.1) ((@rdL a0A a0B (@a0G a0A [] x0.1.1) (I.nat y1.1.1)).1,((@rdL a0A a0B (@a0G a0A [] x0.1.1) (I.nat y1.1.1)).2.1,((@rdL a0A a0B (@a0G a0A [] x0.1.1) (I.nat y1.1.1)).2.2.1,((@rdL a0A a0B (@a0G a0A [] x0.1.1) (I.nat y1.1.1)).2.2.2.1,((@rdL a0A a0B (@a0G a0A [] x0.1.1) (I.nat y1.1.1)).2.2.2.2.1,(x0.1.2.2.1,(@rdL a0A a0B (@a0G a0A [] x0.1.1) (I.nat y1.1.1)).2.2.2.2.2.2))))))) (I.nat y1.1.1) ((@rdL a0A a0B (@a1N a0A (@a0G a0A [] x0.1.1) (I.nat y1.1.1) ((@rdL a0A a0B (@a0G a0A [] x0.1.1) (I.nat y1.1.1)).1,((@rdL a0A a0B (@a0G a0A [] x0.1.1) (I.nat y1.1.1)).2.1,((@rdL a0A a0B (@a0G a0A [] x0.1.1) (I.nat y1.1.1)).2.2.1,((@rdL a0A a0B (@a0G a0A [] x0.1.1) (I.nat y1.1.1)).2.2.2.1,((@rdL a0A a0B (@a0G a0A [] x0.1.1) (I.nat y1.1.1)).2.2.2.2.1,(x0.1.2.2.1,(@rdL a0A a0B (@a0G a0A [] x0.1.1) (I.nat y1.1.1)).2.2.2.2.2.2))))))) (I.nat y1.1.1)).1,(y17.1.1,(@rdL a0A a0B (@a1N a0A (@a0G a0A [] x0.1.1) (I.nat y1.1.1) ((@rdL a0A a0B (@a0G a0A [] x0.1.1) (I.nat y1.1.1)).1,((@rdL a0A a0B (@a0G a0A [] x0.1.1) (I.nat y1.1.1)).2.1,((@rdL a0A a0B (@a0G a0A [] x0.1.1) (I.nat y1.1.1)).2.2.1,((@rdL a0A a0B (@a0G a0A [] x0.1.1) (I.nat y1.1.1)).2.2.2.1,((@rdL a0A a0B (@a0G a0A [] x0.1.1) (I.nat y1.1.1)).2.2.2.2.1,(x0.1.2.2.1,(@rdL a0A a0B (@a0G a0A [] x0.1.1) (I.nat y1.1.1)).2.2.2.2.2.2))))))) (I.nat y1.1.1)).2.2))) (I.nat y1.1.1)).2.1,(y18.1.1,(@rdL a0A a0B (@a1N a0A (@a1N a0A (@a0G a0A [] x0.1.1) (I.nat y1.1.1) ((@rdL a0A a0B (@a0G a0A [] x0.1.1) (I.nat y1.1.1)).1,((@rdL a0A a0B (@a0G a0A [] x0.1.1) (I.nat y1.1.1)).2.1,((@rdL a0A a0B (@a0G a0A [] x0.1.1) (I.nat y1.1.1)).2.2.1,((@rdL a0A a0B (@a0G a0A [] x0.1.1) (I.nat y1.1.1)).2.2.2.1,((@rdL a0A a0B (@a0G a0A [] x0.1.1) (I.nat y1.1.1)).2.2.2.2.1,(x0.1.2.2.1,(@rdL a0A a0B (@a0G a0A [] x0.1.1) (I.nat y1.1.1)).2.2.2.2.2.2))))))) (I.nat y1.1.1) ((@rdL a0A a0B (@a1N a0A (@a0G a0A [] x0.1.1) (I.nat y1.1.1) ((@rdL a0A a0B (@a0G a0A [] x0.1.1) (I.nat y1.1.1)).1,((@rdL a0A a0B (@a0G a0A [] x0.1.1) (I.nat y1.1.1)).2.1,((@rdL a0A a0B (@a0G a0A [] x0.1.1) (I.nat y1.1.1)).2.2.1,((@rdL a0A a0B (@a0G a0A [] x0.1.1) (I.nat y1.1.1)).2.2.2.1,((@rdL a0A a0B (@a0G a0A [] x0.1.1) (I.nat y1.1.1)).2.2.2.2.1,(x0.1.2.2.1,(@rdL a0A a0B (@a0G a0A [] x0.1.1) (I.nat y1.1.1)).2.2.2.2.2.2))))))) (I.nat y1.1.1)).1,(y17.1.1,(@rdL a0A a0B (@a1N a0A (@a0G a0A [] x0.1.1) (I.nat y1.1.1) ((@rdL a0A a0B (@a0G a0A [] x0.1.1) (I.nat y1.1.1)).1,((@rdL a0A a0B (@a0G a0A [] x0.1.1) (I.nat y1.1.1)).2.1,((@rdL a0A a0B (@a0G a0A [] x0.1.1) (I.nat y1.1.1)).2.2.1,((@rdL a0A a0B (@a0G a0A [] x0.1.1) (I.nat y1.1.1)).2.2.2.1,((@rdL a0A a0B (@a0G a0A [] x0.1.1) (I.nat y1.1.1)).2.2.2.2.1,(x0.1.2.2.1,(@rdL a0A a0B (@a0G a0A [] x0.1.1) (I.nat y1.1.1)).2.2.2.2.2.2))))))) (I.nat y1.1.1)).2.2))) (I.nat y1.1.1)).2.2.2)))) (I.nat y1.1.1)).2.2.1,(y19.1.1,(@rdL a0A a0B (@a1N a0A (@a1N a0A (@a1N a0A (@a0G a0A [] x0.1.1) (I.nat y1.1.1) ((@rdL a0A a0B (@a0G a0A [] x0.1.1) (I.nat y1.1.1)).1,((@rdL a0A a0B (@a0G a0A [] x0.1.1) (I.nat y1.1.1)).2.1,((@rdL a0A a0B (@a0G a0A [] x0.1.1) (I.nat y1.1.1)).2.2.1,((@rdL a0A a0B (@a0G a0A [] x0.1.1) (I.nat y1.1.1)).2.2.2.1,((@rdL a0A a0B (@a0G a0A [] x0.1.1) (I.nat y1.1.1)).2.2.2.2.1,(x0.1.2.2.1,(@rdL a0A a0B (@a0G a0A [] x0.1.1) (I.nat y1.1.1)).2.2.2.2.2.2))))))) (I.nat y1.1.1) ((@rdL a0A a0B (@a1N a0A (@a0G a0A [] x0.1.1) (I.nat y1.1.1) ((@rdL a0A a0B (@a0G a0A [] x0.1.1) (I.nat y1.1.1)).1,((@rdL a0A a0B (@a0G a0A [] x0.1.1) (I.nat y1.1.1)).2.1,((@rdL a0A a0B (@a0G a0A [] x0.1.1) (I.nat y1.1.1)).2.2.1,((@rdL a0A a0B (@a0G a0A [] x0.1.1) (I.nat y1.1.1)).2.2.2.1,((@rdL a0A a0B (@a0G a0A [] x0.1.1) (I.nat y1.1.1)).2.2.2.2.1,(x0.1.2.2.1,(@rdL a0A a0B (@a0G a0A [] x0.1.1) (I.nat y1.1.1)).2.2.2.2.2.2))))))) (I.nat y1.1.1)).1,(y17.1.1,(@rdL a0A a0B (@a1N a0A (@a0G a0A [] x0.1.1) (I.nat y1.1.1) ((@rdL a0A a0B (@a0G a0A [] x0.1.1) (I.nat y1.1.1)).1,((@rdL a0A a0B (@a0G a0A [] x0.1.1) (I.nat y1.1.1)).2.1,((@rdL a0A a0B (@a0G a0A [] x0.1.1) (I.nat y1.1.1)).2.2.1,((@rdL a0A a0B (@a0G a0A [] x0.1.1) (I.nat y1.1.1)).2.2.2.1,((@rdL a0A a0B (@a0G a0A [] x0.1.1) (I.nat y1.1.1)).2.2.2.2.1,(x0.1.2.2.1,(@rdL a0A a0B (@a0G a0A [] x0.1.1) (I.nat y1.1.1)).2.2.2.2.2.2))))))) (I.nat y1.1.1)).2.2))) (I.nat y1.1.1) ((@rdL a0A a0B (@a1N a0A (@a1N a0A (@a0G a0A [] x0.1.1) (I.nat y1.1.1) ((@rdL a0A a0B (@a0G a0A [] x0.1.1) (I.nat y1.1.1)).1,((@rdL a0A a0B (@a0G a0A [] x0.1.1) (I.nat y1.1.1)).2.1,((@rdL a0A a0B (@a0G a0A [] x0.1.1) (I.nat y1.1.1)).2.2.1,((@rdL a0A a0B (@a0G a0A [] x0.1.1) (I.nat y1.1.1)).2.2.2.1,((@rdL a0A a0B (@a0G a0A [] x0.1.1) (I.nat y1.1.1)).2.2.2.2.1,(x0.1.2.2.1,(@rdL a0A a0B (@a0G a0A [] x0.1.1) (I.nat y1.1.1)).2.2.2.2.2.2))))))) (I.nat y1.1.1) ((@rdL a0A a0B (@a1N a0A (@a0G a0A [] x0.1.1) (I.nat y1.1.1) ((@rdL a0A a0B (@a0G a0A [] x0.1.1) (I.nat y1.1.1)).1,((@rdL a0A a0B (@a0G a0A [] x0.1.1) (I.nat y1.1.1)).2.1,((@rdL a0A a0B (@a0G a0A [] x0.1.1) (I.nat y1.1.1)).2.2.1,((@rdL a0A a0B (@a0G a0A [] x0.1.1) (I.nat y1.1.1)).2.2.2.1,((@rdL a0A a0B (@a0G a0A [] x0.1.1) (I.nat y1.1.1)).2.2.2.2.1,(x0.1.2.2.1,(@rdL a0A a0B (@a0G a0A [] x0.1.1) (I.nat y1.1.1)).2.2.2.2.2.2))))))) (I.nat y1.1.1)).1,(y17.1.1,(@rdL a0A a0B (@a1N a0A (@a0G a0A [] x0.1.1) (I.nat y1.1.1) ((@rdL a0A a0B (@a0G a0A [] x0.1.1) (I.nat y1.1.1)).1,((@rdL a0A a0B (@a0G a0A [] x0.1.1) (I.nat y1.1.1)).2.1,((@rdL a0A a0B (@a0G a0A [] x0.1.1) (I.nat y1.1.1)).2.2.1,((@rdL a0A a0B (@a0G a0A [] x0.1.1) (I.nat y1.1.1)).2.2.2.1,((@rdL a0A a0B (@a0G a0A [] x0.1.1) (I.nat y1.1.1)).2.2.2.2.1,(x0.1.2.2.1,(@rdL a0A a0B (@a0G a0A [] x0.1.1) (I.nat y1.1.1)).2.2.2.2.2.2))))))) (I.nat y1.1.1)).2.2))) (I.nat y1.1.1)).1,((@rdL a0A a0B (@a1N a0A (@a1N a0A (@a0G a0A [] x0.1.1) (I.nat y1.1.1) ((@rdL a0A a0B (@a0G a0A [] x0.1.1) (I.nat y1.1.1)).1,((@rdL a0A a0B (@a0G a0A [] x0.1.1) (I.nat y1.1.1)).2.1,((@rdL a0A a0B (@a0G a0A [] x0.1.1) (I.nat y1.1.1)).2.2.1,((@rdL a0A a0B (@a0G a0A [] x0.1.1) (I.nat y1.1.1)).2.2.2.1,((@rdL a0A a0B (@a0G a0A [] x0.1.1) (I.nat y1.1.1)).2.2.2.2.1,(x0.1.2.2.1,(@rdL a0A a0B (@a0G a0A [] x0.1.1) (I.nat y1.1.1)).2.2.2.2.2.2))))))) (I.nat y1.1.1) ((@rdL a0A a0B (@a1N a0A (@a0G a0A [] x0.1.1) (I.nat y1.1.1) ((@rdL a0A a0B (@a0G a0A [] x0.1.1) (I.nat y1.1.1)).1,((@rdL a0A a0B (@a0G a0A [] x0.1.1) (I.nat y1.1.1)).2.1,((@rdL a0A a0B (@a0G a0A [] x0.1.1) (I.nat y1.1.1)).2.2.1,((@rdL a0A a0B (@a0G a0A [] x0.1.1) (I.nat y1.1.1)).2.2.2.1,((@rdL a0A a0B (@a0G a0A [] x0.1.1) (I.nat y1.1.1)).2.2.2.2.1,(x0.1.2.2.1,(@rdL a0A a0B (@a0G a0A [] x0.1.1) (I.nat y1.1.1)).2.2.2.2.2.2))))))) (I.nat y1.1.1)).1,(y17.1.1,(@rdL a0A a0B (@a1N a0A (@a0G a0A [] x0.1.1) (I.nat y1.1.1) ((@rdL a0A a0B (@a0G a0A [] x0.1.1) (I.nat y1.1.1)).1,((@rdL a0A a0B (@a0G a0A [] x0.1.1) (I.nat y1.1.1)).2.1,((@rdL a0A a0B (@a0G a0A [] x0.1.1) (I.nat y1.1.1)).2.2.1,((@rdL a0A a0B (@a0G a0A [] x0.1.1) (I.nat y1.1.1)).2.2.2.1,((@rdL a0A a0B (@a0G a0A [] x0.1.1) (I.nat y1.1.1)).2.2.2.2.1,(x0.1.2.2.1,(@rdL a0A a0B (@a0G a0A [] x0.1.1) (I.nat y1.1.1)).2.2.2.2.2.2))))))) (I.nat y1.1.1)).2.2))) (I.nat y1.1.1)).2.1,(y18.1.1,(@rdL a0A a0B (@a1N a0A (@a1N a0A (@a0G a0A [] x0.1.1) (I.nat y1.1.1) ((@rdL a0A a0B (@a0G a0A [] x0.1.1) (I.nat y1.1.1)).1,((@rdL a0A a0B (@a0G a0A [] x0.1.1) (I.nat y1.1.1)).2.1,((@rdL a0A a0B (@a0G a0A [] x0.1.1) (I.nat y1.1.1)).2.2.1,((@rdL a0A a0B (@a0G a0A [] x0.1.1) (I.nat y1.1.1)).2.2.2.1,((@rdL a0A a0B (@a0G a0A [] x0.1.1) (I.nat y1.1.1)).2.2.2.2.1,(x0.1.2.2.1,(@rdL a0A a0B (@a0G a0A [] x0.1.1) (I.nat y1.1.1)).2.2.2.2.2.2))))))) (I.nat y1.1.1) ((@rdL a0A a0B (@a1N a0A (@a0G a0A [] x0.1.1) (I.nat y1.1.1) ((@rdL a0A a0B (@a0G a0A [] x0.1.1) (I.nat y1.1.1)).1,((@rdL a0A a0B (@a0G a0A [] x0.1.1) (I.nat y1.1.1)).2.1,((@rdL a0A a0B (@a0G a0A [] x0.1.1) (I.nat y1.1.1)).2.2.1,((@rdL a0A a0B (@a0G a0A [] x0.1.1) (I.nat y1.1.1)).2.2.2.1,((@rdL a0A a0B (@a0G a0A [] x0.1.1) (I.nat y1.1.1)).2.2.2.2.1,(x0.1.2.2.1,(@rdL a0A a0B (@a0G a0A [] x0.1.1) (I.nat y1.1.1)).2.2.2.2.2.2))))))) (I.nat y1.1.1)).1,(y17.1.1,(@rdL a0A a0B (@a1N a0A (@a0G a0A [] x0.1.1) (I.nat y1.1.1) ((@rdL a0A a0B (@a0G a0A [] x0.1.1) (I.nat y1.1.1)).1,((@rdL a0A a0B (@a0G a0A [] x0.1.1) (I.nat y1.1.1)).2.1,((@rdL a0A a0B (@a0G a0A [] x0.1.1) (I.nat y1.1.1)).2.2.1,((@rdL a0A a0B (@a0G a0A [] x0.1.1) (I.nat y1.1.1)).2.2.2.1,((@rdL a0A a0B (@a0G a0A [] x0.1.1) (I.nat y1.1.1)).2.2.2.2.1,(x0.1.2.2.1,(@rdL a0A a0B (@a0G a0A [] x0.1.1) (I.nat y1.1.1)).2.2.2.2.2.2))))))) (I.nat y1.1.1)).2.2))) (I.nat y1.1.1)).2.2.2)))) (I.nat y1.1.1)).2.2.2.2))))),(I.of .i64 0,())),())) (optF none (a1B ((y6.1.1,()),())) fun y17 => optF none (a1B ((y9.1.1,()),())) fun y18 => optF none (a1B ((y12.1.1,()),())) fun y19 => some (((@a1N a0A (@a1N a0A (@a1N a0A (@a0G a0A [] x0.1.1) (I.nat y1.1.1) ((@rdL a0A a0B (@a0G a0A [] x0.1.1) (I.nat y1.1.1)).1,(y17.1.1,(@rdL a0A a0B (@a0G a0A [] x0.1.1) (I.nat y1.1.1)).2.2))) (I.nat y1.1.1) ((@rdL a0A a0B (@a1N a0A (@a0G a0A [] x0.1.1) (I.nat y1.1.1) ((@rdL a0A a0B (@a0G a0A [] x0.1.1) (I.nat y1.1.1)).1,(y17.1.1,(@rdL a0A a0B (@a0G a0A [] x0.1.1) (I.nat y1.1.1)).2.2))) (I.nat y1.1.1)).1,((@rdL a0A a0B (@a1N a0A (@a0G a0A [] x0.1.1) (I.nat y1.1.1) ((@rdL a0A a0B (@a0G a0A [] x0.1.1) (I.nat y1.1.1)).1,(y17.1.1,(@rdL a0A a0B (@a0G a0A [] x0.1.1) (I.nat y1.1.1)).2.2))) (I.nat y1.1.1)).2.1,(y18.1.1,(@rdL a0A a0B (@a1N a0A (@a0G a0A [] x0.1.1) (I.nat y1.1.1) ((@rdL a0A a0B (@a0G a0A [] x0.1.1) (I.nat y1.1.1)).1,(y17.1.1,(@rdL a0A a0B (@a0G a0A [] x0.1.1) (I.nat y1.1.1)).2.2))) (I.nat y1.1.1)).2.2.2)))) (I.nat y1.1.1) ((@rdL a0A a0B (@a1N a0A (@a1N a0A (@a0G a0A [] x0.1.1) (I.nat y1.1.1) ((@rdL a0A a0B (@a0G a0A [] x0.1.1) (I.nat y1.1.1)).1,(y17.1.1,(@rdL a0A a0B (@a0G a0A [] x0.1.1) (I.nat y1.1.1)).2.2))) (I.nat y1.1.1) ((@rdL a0A a0B (@a1N a0A (@a0G a0A [] x0.1.1) (I.nat y1.1.1) ((@rdL a0A a0B (@a0G a0A [] x0.1.1) (I.nat y1.1.1)).1,(y17.1.1,(@rdL a0A a0B (@a0G a0A [] x0.1.1) (I.nat y1.1.1)).2.2))) (I.nat y1.1.1)).1,((@rdL a0A a0B (@a1N a0A (@a0G a0A [] x0.1.1) (I.nat y1.1.1) ((@rdL a0A a0B (@a0G a0A [] x0.1.1) (I.nat y1.1.1)).1,(y17.1.1,(@rdL a0A a0B (@a0G a0A [] x0.1.1) (I.nat y1.1.1)).2.2))) (I.nat y1.1.1)).2.1,(y18.1.1,(@rdL a0A a0B (@a1N a0A (@a0G a0A [] x0.1.1) (I.nat y1.1.1) ((@rdL a0A a0B (@a0G a0A [] x0.1.1) (I.nat y1.1.1)).1,(y17.1.1,(@rdL a0A a0B (@a0G a0A [] x0.1.1) (I.nat y1.1.1)).2.2))) (I.nat y1.1.1)).2.2.2)))) (I.nat y1.1.1)).1,((@rdL a0A a0B (@a1N a0A (@a1N a0A (@a0G a0A [] x0.1.1) (I.nat y1.1.1) ((@rdL a0A a0B (@a0G a0A [] x0.1.1) (I.nat y1.1.1)).1,(y17.1.1,(@rdL a0A a0B (@a0G a0A [] x0.1.1) (I.nat y1.1.1)).2.2))) (I.nat y1.1.1) ((@rdL a0A a0B (@a1N a0A (@a0G a0A [] x0.1.1) (I.nat y1.1.1) ((@rdL a0A a0B (@a0G a0A [] x0.1.1) (I.nat y1.1.1)).1,(y17.1.1,(@rdL a0A a0B (@a0G a0A [] x0.1.1) (I.nat y1.1.1)).2.2))) (I.nat y1.1.1)).1,((@rdL a0A a0B (@a1N a0A (@a0G a0A [] x0.1.1) (I.nat y1.1.1) ((@rdL a0A a0B (@a0G a0A [] x0.1.1) (I.nat y1.1.1)).1,(y17.1.1,(@rdL a0A a0B (@a0G a0A [] x0.1.1) (I.nat y1.1.1)).2.2))) (I.nat y1.1.1)).2.1,(y18.1.1,(@rdL a0A a0B (@a1N a0A (@a0G a0A [] x0.1.1) (I.nat y1.1.1) ((@rdL a0A a0B (@a0G a0A [] x0.1.1) (I.nat y1.1.1)).1,(y17.1.1,(@rdL a0A a0B (@a0G a0A [] x0.1.1) (I.nat y1.1.1)).2.2))) (I.nat y1.1.1)).2.2.2)))) (I.nat y1.1.1)).2.1,((@rdL a0A a0B (@a1N a0A (@a1N a0A (@a0G a0A [] x0.1.1) (I.nat y1.1.1) ((@rdL a0A a0B (@a0G a0A [] x0.1.1) (I.nat y1.1.1)).1,(y17.1.1,(@rdL a0A a0B (@a0G a0A [] x0.1.1) (I.nat y1.1.1)).2.2))) (I.nat y1.1.1) ((@rdL a0A a0B (@a1N a0A (@a0G a0A [] x0.1.1) (I.nat y1.1.1) ((@rdL a0A a0B (@a0G a0A [] x0.1.1) (I.nat y1.1.1)).1,(y17.1.1,(@rdL a0A a0B (@a0G a0A [] x0.1.1) (I.nat y1.1.1)).2.2))) (I.nat y1.1.1)).1,((@rdL a0A a0B (@a1N a0A (@a0G a0A [] x0.1.1) (I.nat y1.1.1) ((@rdL a0A a0B (@a0G a0A [] x0.1.1) (I.nat y1.1.1)).1,(y17.1.1,(@rdL a0A a0B (@a0G a0A [] x0.1.1) (I.nat y1.1.1)).2.2))) (I.nat y1.1.1)).2.1,(y18.1.1,(@rdL a0A a0B (@a1N a0A (@a0G a0A [] x0.1.1) (I.nat y1.1.1) ((@rdL a0A a0B (@a0G a0A [] x0.1.1) (I.nat y1.1.1)).1,(y17.1.1,(@rdL a0A a0B (@a0G a0A [] x0.1.1) (I.nat y1.1.1)).2.2))) (I.nat y1.1.1)).2.2.2)))) (I.nat y1.1.1)).2.2.1,(y19.1.1,(@rdL a0A a0B (@a1N a0A (@a1N a0A (@a0G a0A [] x0.1.1) (I.nat y1.1.1) ((@rdL a0A a0B (@a0G a0A [] x0.1.1) (I.nat y1.1.1)).1,(y17.1.1,(@rdL a0A a0B (@a0G a0A [] x0.1.1) (I.nat y1.1.1)).2.2))) (I.nat y1.1.1) ((@rdL a0A a0B (@a1N a0A (@a0G a0A [] x0.1.1) (I.nat y1.1.1) ((@rdL a0A a0B (@a0G a0A [] x0.1.1) (I.nat y1.1.1)).1,(y17.1.1,(@rdL a0A a0B (@a0G a0A [] x0.1.1) (I.nat y1.1.1)).2.2))) (I.nat y1.1.1)).1,((@rdL a0A a0B (@a1N a0A (@a0G a0A [] x0.1.1) (I.nat y1.1.1) ((@rdL a0A a0B (@a0G a0A [] x0.1.1) (I.nat y1.1.1)).1,(y17.1.1,(@rdL a0A a0B (@a0G a0A [] x0.1.1) (I.nat y1.1.1)).2.2))) (I.nat y1.1.1)).2.1,(y18.1.1,(@rdL a0A a0B (@a1N a0A (@a0G a0A [] x0.1.1) (I.nat y1.1.1) ((@rdL a0A a0B (@a0G a0A [] x0.1.1) (I.nat y1.1.1)).1,(y17.1.1,(@rdL a0A a0B (@a0G a0A [] x0.1.1) (I.nat y1.1.1)).2.2))) (I.nat y1.1.1)).2.2.2)))) (I.nat y1.1.1)).2.2.2.2))))),(I.of .i64 0,())),()))) (optF none (a1B ((y6.1.1,()),())) fun y17 => optF none (a1B ((y9.1.1,()),())) fun y18 => optF none (a1B ((y12.1.1,()),())) fun y19 => some (((@a1N a0A (@a1N a0A (@a1N a0A (@a0G a0A [] x0.1.1) (I.nat y1.1.1) ((@rdL a0A a0B (@a0G a0A [] x0.1.1) (I.nat y1.1.1)).1,(y17.1.1,(@rdL a0A a0B (@a0G a0A [] x0.1.1) (I.nat y1.1.1)).2.2))) (I.nat y1.1.1) ((@rdL a0A a0B (@a1N a0A (@a0G a0A [] x0.1.1) (I.nat y1.1.1) ((@rdL a0A a0B (@a0G a0A [] x0.1.1) (I.nat y1.1.1)).1,(y17.1.1,(@rdL a0A a0B (@a0G a0A [] x0.1.1) (I.nat y1.1.1)).2.2))) (I.nat y1.1.1)).1,((@rdL a0A a0B (@a1N a0A (@a0G a0A [] x0.1.1) (I.nat y1.1.1) ((@rdL a0A a0B (@a0G a0A [] x0.1.1) (I.nat y1.1.1)).1,(y17.1.1,(@rdL a0A a0B (@a0G a0A [] x0.1.1) (I.nat y1.1.1)).2.2))) (I.nat y1.1.1)).2.1,(y18.1.1,(@rdL a0A a0B (@a1N a0A (@a0G a0A [] x0.1.1) (I.nat y1.1.1) ((@rdL a0A a0B (@a0G a0A [] x0.1.1) (I.nat y1.1.1)).1,(y17.1.1,(@rdL a0A a0B (@a0G a0A [] x0.1.1) (I.nat y1.1.1)).2.2))) (I.nat y1.1.1)).2.2.2)))) (I.nat y1.1.1) ((@rdL a0A a0B (@a1N a0A (@a1N a0A (@a0G a0A [] x0.1.1) (I.nat y1.1.1) ((@rdL a0A a0B (@a0G a0A [] x0.1.1) (I.nat y1.1.1)).1,(y17.1.1,(@rdL a0A a0B (@a0G a0A [] x0.1.1) (I.nat y1.1.1)).2.2))) (I.nat y1.1.1) ((@rdL a0A a0B (@a1N a0A (@a0G a0A [] x0.1.1) (I.nat y1.1.1) ((@rdL a0A a0B (@a0G a0A [] x0.1.1) (I.nat y1.1.1)).1,(y17.1.1,(@rdL a0A a0B (@a0G a0A [] x0.1.1) (I.nat y1.1.1)).2.2))) (I.nat y1.1.1)).1,((@rdL a0A a0B (@a1N a0A (@a0G a0A [] x0.1.1) (I.nat y1.1.1) ((@rdL a0A a0B (@a0G a0A [] x0.1.1) (I.nat y1.1.1)).1,(y17.1.1,(@rdL a0A a0B (@a0G a0A [] x0.1.1) (I.nat y1.1.1)).2.2))) (I.nat y1.1.1)).2.1,(y18.1.1,(@rdL a0A a0B (@a1N a0A (@a0G a0A [] x0.1.1) (I.nat y1.1.1) ((@rdL a0A a0B (@a0G a0A [] x0.1.1) (I.nat y1.1.1)).1,(y17.1.1,(@rdL a0A a0B (@a0G a0A [] x0.1.1) (I.nat y1.1.1)).2.2))) (I.nat y1.1.1)).2.2.2)))) (I.nat y1.1.1)).1,((@rdL a0A a0B (@a1N a0A (@a1N a0A (@a0G a0A [] x0.1.1) (I.nat y1.1.1) ((@rdL a0A a0B (@a0G a0A [] x0.1.1) (I.nat y1.1.1)).1,(y17.1.1,(@rdL a0A a0B (@a0G a0A [] x0.1.1) (I.nat y1.1.1)).2.2))) (I.nat y1.1.1) ((@rdL a0A a0B (@a1N a0A (@a0G a0A [] x0.1.1) (I.nat y1.1.1) ((@rdL a0A a0B (@a0G a0A [] x0.1.1) (I.nat y1.1.1)).1,(y17.1.1,(@rdL a0A a0B (@a0G a0A [] x0.1.1) (I.nat y1.1.1)).2.2))) (I.nat y1.1.1)).1,((@rdL a0A a0B (@a1N a0A (@a0G a0A [] x0.1.1) (I.nat y1.1.1) ((@rdL a0A a0B (@a0G a0A [] x0.1.1) (I.nat y1.1.1)).1,(y17.1.1,(@rdL a0A a0B (@a0G a0A [] x0.1.1) (I.nat y1.1.1)).2.2))) (I.nat y1.1.1)).2.1,(y18.1.1,(@rdL a0A a0B (@a1N a0A (@a0G a0A [] x0.1.1) (I.nat y1.1.1) ((@rdL a0A a0B (@a0G a0A [] x0.1.1) (I.nat y1.1.1)).1,(y17.1.1,(@rdL a0A a0B (@a0G a0A [] x0.1.1) (I.nat y1.1.1)).2.2))) (I.nat y1.1.1)).2.2.2)))) (I.nat y1.1.1)).2.1,((@rdL a0A a0B (@a1N a0A (@a1N a0A (@a0G a0A [] x0.1.1) (I.nat y1.1.1) ((@rdL a0A a0B (@a0G a0A [] x0.1.1) (I.nat y1.1.1)).1,(y17.1.1,(@rdL a0A a0B (@a0G a0A [] x0.1.1) (I.nat y1.1.1)).2.2))) (I.nat y1.1.1) ((@rdL a0A a0B (@a1N a0A (@a0G a0A [] x0.1.1) (I.nat y1.1.1) ((@rdL a0A a0B (@a0G a0A [] x0.1.1) (I.nat y1.1.1)).1,(y17.1.1,(@rdL a0A a0B (@a0G a0A [] x0.1.1) (I.nat y1.1.1)).2.2))) (I.nat y1.1.1)).1,((@rdL a0A a0B (@a1N a0A (@a0G a0A [] x0.1.1) (I.nat y1.1.1) ((@rdL a0A a0B (@a0G a0A [] x0.1.1) (I.nat y1.1.1)).1,(y17.1.1,(@rdL a0A a0B (@a0G a0A [] x0.1.1) (I.nat y1.1.1)).2.2))) (I.nat y1.1.1)).2.1,(y18.1.1,(@rdL a0A a0B (@a1N a0A (@a0G a0A [] x0.1.1) (I.nat y1.1.1) ((@rdL a0A a0B (@a0G a0A [] x0.1.1) (I.nat y1.1.1)).1,(y17.1.1,(@rdL a0A a0B (@a0G a0A [] x0.1.1) (I.nat y1.1.1)).2.2))) (I.nat y1.1.1)).2.2.2)))) (I.nat y1.1.1)).2.2.1,(y19.1.1,(@rdL a0A a0B (@a1N a0A (@a1N a0A (@a0G a0A [] x0.1.1) (I.nat y1.1.1) ((@rdL a0A a0B (@a0G a0A [] x0.1.1) (I.nat y1.1.1)).1,(y17.1.1,(@rdL a0A a0B (@a0G a0A [] x0.1.1) (I.nat y1.1.1)).2.2))) (I.nat y1.1.1) ((@rdL a0A a0B (@a1N a0A (@a0G a0A [] x0.1.1) (I.nat y1.1.1) ((@rdL a0A a0B (@a0G a0A [] x0.1.1) (I.nat y1.1.1)).1,(y17.1.1,(@rdL a0A a0B (@a0G a0A [] x0.1.1) (I.nat y1.1.1)).2.2))) (I.nat y1.1.1)).1,((@rdL a0A a0B (@a1N a0A (@a0G a0A [] x0.1.1) (I.nat y1.1.1) ((@rdL a0A a0B (@a0G a0A [] x0.1.1) (I.nat y1.1.1)).1,(y17.1.1,(@rdL a0A a0B (@a0G a0A [] x0.1.1) (I.nat y1.1.1)).2.2))) (I.nat y1.1.1)).2.1,(y18.1.1,(@rdL a0A a0B (@a1N a0A (@a0G a0A [] x0.1.1) (I.nat y1.1.1) ((@rdL a0A a0B (@a0G a0A [] x0.1.1) (I.nat y1.1.1)).1,(y17.1.1,(@rdL a0A a0B (@a0G a0A [] x0.1.1) (I.nat y1.1.1)).2.2))) (I.nat y1.1.1)).2.2.2)))) (I.nat y1.1.1)).2.2.2.2))))),(I.of .i64 0,())),())))))) none) none)) fun j0 => optF none (a2Y ((a,()),())) fun y1 => brn (a2R y1.1.1) (some (([],(I.of .i64 2,())),())) (brn (I.eqb e (I.of .u64 0)) (some (([],(I.of .i64 2,())),())) (j0 ((a,(b,(e,()))),(c,(d,())))))
def a3M (x : (⟨[.pl (.sl tY3), .pl tY5], []⟩ : Tm).D) : Option (⟨[.pl (.sl tY3), .pl (.int .i64)], []⟩ : Tm).D :=
 let a : (List a0A) := x.1.1
 let b : a1E := x.1.2.1
 jn (fun (x0 : (((List a0A) × Unit) × (a1E × (U × Unit)))) => brn (I.eqb x0.2.1.1 (I.of .i64 0)) (optF none (a4G ((x0.1.1,(x0.2.1.2.1,())),())) fun y1 => some ((y1.1.1,(y1.1.2.1,())),())) (brn (I.ltb x0.2.1.1 (I.of .i64 5)) (optF none (a3N ((x0.1.1,(x0.2.1.2.1,(x0.2.1.2.2.1,(x0.2.1.2.2.2.1,(x0.2.1.2.2.2.2.2.2.1,()))))),())) fun y1 => some ((y1.1.1,(y1.1.2.1,())),())) (optF none (a4K ((x0.1.1,(x0.2.1.2.1,(x0.2.2.1,()))),())) fun y1 => some ((y1.1.1,(y1.1.2.1,())),())))) fun j0 => optF none (a3S ((a,(b.2.1,())),())) fun y1 => brn b.2.2.2.2.2.1 (brn (I.leb (I.of .i64 0) y1.1.1) (brn (inB y1.1.1 (@a0O a0A a)) (j0 ((a,()),(b,((@rdL a0A a0B a (I.nat y1.1.1)).2.1,())))) none) (j0 ((a,()),(b,(b.2.2.1,()))))) (j0 ((a,()),(b,(b.2.2.1,()))))
def a5E (x : (⟨[.pl tY5, .pl (.int .i64)], []⟩ : Tm).D) : Option (⟨[.pl tY5], []⟩ : Tm).D :=
 let a : a1E := x.1.1
 let b : (I .i64) := x.1.2.1
 optF none (a9M ((a.1,(I.of .i64 8,())),())) fun y0 => jn (fun (x1 : (((I .i64) × Unit) × (a1E × (a1E × Unit)))) => jn (fun (x2 : (((I .i64) × Unit) × (a1E × (a1E × Unit)))) => brn (I.ltb (I.of .i64 0) (I.rem x2.1.1 (I.of .i64 9))) (some (((x2.2.1.1,(x2.2.1.2.1,(x2.2.1.2.2.1,(x2.2.1.2.2.2.1,(x2.2.1.2.2.2.2.1,(x2.2.1.2.2.2.2.2.1,((I.add (I.of .u64 1) (I.quo (I.conv (k := .i64) .u64 x2.1.1) (I.of .u64 2))),x2.2.1.2.2.2.2.2.2.2))))))),()),())) (some ((x2.2.1,()),()))) fun j2 => brn x1.2.1.2.2.2.2.1 (j2 ((x1.1.1,()),((x1.2.1.1,(x1.2.1.2.1,(((I.rem x1.2.1.2.2.1.1 (I.of .u64 1000)),(I.of .u64 0,(I.of .u64 0,(I.of .u64 0,())))),(((I.rem x1.2.1.2.2.2.1.1 (I.of .u64 10)),(I.of .u64 0,(I.of .u64 0,(I.of .u64 0,())))),x1.2.1.2.2.2.2)))),(x1.2.2.1,())))) (j2 ((x1.1.1,()),(x1.2.1,(x1.2.2.1,()))))) fun j1 => brn (I.ltb (I.rem b (I.of .i64 6)) (I.of .i64 5)) (j1 ((b,()),((y0.1.1,((I.rem a.2.1 (I.of .u64 7)),a.2.2)),(a9C,())))) (j1 ((b,()),((y0.1.1,a.2),(a9C,()))))
def a5S (x : (⟨[.pl (.sl tY5)], []⟩ : Tm).D) : Option (⟨[.pl (.sl tY3)], []⟩ : Tm).D :=
 let a : (List a1E) := x.1.1
 iter none (fun x0 => brn (I.ltb x0.1.2.2.1 (I.of .u64 6)) (optF (.done none) (a4G ((x0.1.2.1,(x0.1.2.2.1,())),())) fun y1 => .again ((x0.1.1,(y1.1.1,((I.add x0.1.2.2.1 (I.of .u64 1)),()))),())) (.done (iter none (fun x1 => jn (fun (x2 : (((List a1E) × ((List a0A) × ((I .i64) × ((I .i64) × (Bool × Unit))))) × Unit)) => brn (inB x2.1.2.2.1 (@a0O a1E x2.1.1)) (optF (.done none) (a5E (((@rdL a1E a9C x2.1.1 (I.nat x2.1.2.2.1)),(x2.1.2.2.1,())),())) fun y3 => optF (.done none) (a3M ((x2.1.2.1,(y3.1.1,())),())) fun y4 => brn (I.eqb y4.1.2.1 (I.of .i64 0)) (.again ((x2.1.1,(y4.1.1,((I.add x2.1.2.2.1 (I.of .i64 1)),()))),())) (.again ((x2.1.1,(x2.1.2.1,((I.add x2.1.2.2.1 (I.of .i64 1)),()))),()))) (.done none)) fun j2 => brn (I.ltb x1.1.2.2.1 (I.ofNat .i64 (@a0O a1E x1.1.1))) (brn (I.ltb x1.1.2.2.1 (I.of .i64 30)) (j2 ((x1.1.1,(x1.1.2.1,(x1.1.2.2.1,(x1.1.2.2.1,((I.ltb x1.1.2.2.1 (I.of .i64 30)),()))))),())) (.done (some ((x1.1.2.1,()),())))) (.done (some ((x1.1.2.1,()),())))) K0 ((x0.1.1,(x0.1.2.1,(I.of .i64 0,()))),())))) K0 ((a,([],(I.of .u64 1,()))),())
def a8F (x : (⟨[.pl (.sl tY3), .pl (.arr 4 (.int .u64))], []⟩ : Tm).D) : Option (⟨[.pl (.sl tY4), .pl (.int .i64)], []⟩ : Tm).D :=
 let a : (List a0A) := x.1.1
 let b : U := x.1.2.1
 optF none (a2Y ((a,()),())) fun y0 => brn (a2R y0.1.1) (some (([],(I.of .i64 2,())),())) (optF none (a6T ((a,()),())) fun y1 => optF none (a0K ((b,()),())) fun y2 => iter none (fun x3 => jn (fun (x4 : (((List a0A) × ((List (I .i64)) × ((I .i64) × ((List (I .i64)) × ((I .i64) × (Bool × Unit)))))) × ((List a0N) × Unit))) => brn (inB x4.1.2.2.1 (@a0O a0A x4.1.1)) (optF (.done none) (a0K (((@rdL a0A a0B x4.1.1 (I.nat x4.1.2.2.1)).2.1,()),())) fun y5 => optF (.done none) (a9F ((x4.1.2.1,(y5.1.1,())),())) fun y6 => brn (inB x4.1.2.2.1 (@a0O a0A x4.1.1)) (optF (.done none) (a1B ((y6.1.1,()),())) fun y7 => brn (a2P (@a0O a0N (@a0G a0N x4.2.1 (((@rdL a0A a0B x4.1.1 (I.nat x4.1.2.2.1)).1,(y7.1.1,()))::[])))) (optF (.done none) (a2X ((x4.1.2.1,(y6.1.1,())),())) fun y8 => .again ((x4.1.1,(y8.1.1,((I.add x4.1.2.2.1 (I.of .i64 1)),()))),((@a0G a0N x4.2.1 (((@rdL a0A a0B x4.1.1 (I.nat x4.1.2.2.1)).1,(y7.1.1,()))::[])),()))) (.done none)) (.done none)) (.done none)) fun j4 => brn (I.ltb x3.1.2.2.1 (I.ofNat .i64 (@a0O a0A x3.1.1))) (brn (I.ltb (I.of .i64 0) (I.ofNat .i64 (@a0O (I .i64) x3.1.2.1))) (j4 ((x3.1.1,(x3.1.2.1,(x3.1.2.2.1,(x3.1.2.1,((I.ofNat .i64 (@a0O (I .i64) x3.1.2.1)),((I.ltb (I.of .i64 0) (I.ofNat .i64 (@a0O (I .i64) x3.1.2.1))),())))))),(x3.2.1,()))) (.done (some ((x3.2.1,(I.of .i64 0,())),())))) (.done (some ((x3.2.1,(I.of .i64 0,())),())))) K0 ((y1.1.1,(y2.1.1,(I.of .i64 0,()))),([],())))
def a4F (x : (⟨[.pl (.sl tY4), .pl (.sl tY4)], []⟩ : Tm).D) : Option (⟨[.pl .bool], []⟩ : Tm).D :=
 let a : (List a0N) := x.1.1
 let b : (List a0N) := x.1.2.1
 brn (I.neb (I.ofNat .i64 (@a0O a0N a)) (I.ofNat .i64 (@a0O a0N b))) (some ((false,()),())) (iter none (fun x0 => brn (I.ltb x0.1.2.2.1 (I.ofNat .i64 (@a0O a0N x0.1.1))) (brn (inB x0.1.2.2.1 (@a0O a0N x0.1.1)) (brn (inB x0.1.2.2.1 (@a0O a0N x0.1.2.1)) (brn (a2R (Ty.eqb tY4 (@rdL a0N a2F x0.1.1 (I.nat x0.1.2.2.1)) (@rdL a0N a2F x0.1.2.1 (I.nat x0.1.2.2.1)))) (.done (some ((false,()),()))) (.again ((x0.1.1,(x0.1.2.1,((I.add x0.1.2.2.1 (I.of .i64 1)),()))),()))) (.done none)) (.done none)) (.done (some ((true,()),())))) K0 ((a,(b,(I.of .i64 0,()))),()))
def a0S (x : (⟨[.pl (.sl tY3)], []⟩ : Tm).D) : Option (⟨[.whole 0], [.row tY3]⟩ : Tm).D :=
 let a : (List a0A) := x.1.1
 brn (c2R (@a0O a0A a)) (both none (some ((),([],()))) (brn (a2P (@a0O a0A (@a0G a0A [] a))) (some ((),((@a0G a0A [] a),()))) none)) (brn (a2P (@a0O a0A (@a0G a0A [] a))) (some ((),((@a0G a0A [] a),()))) none)
def a6Y (x : (⟨[.pl (.sl tY3), .pl (.int .u64)], []⟩ : Tm).D) : Option (⟨[.pl (.int .i64)], []⟩ : Tm).D :=
 let a : (List a0A) := x.1.1
 let b : (I .u64) := x.1.2.1
 iter none (fun x0 => brn (I.ltb x0.1.2.2.2.1 x0.1.2.2.1) (brn (inB x0.1.2.2.2.1 (@a0O a0A x0.1.1)) (brn (I.eqb (@rdL a0A a0B x0.1.1 (I.nat x0.1.2.2.2.1)).1 x0.2.1) (.done (some ((x0.1.2.2.2.1,()),()))) (.again ((x0.1.1,(((),x0.1.2.1.2),(x0.1.2.2.1,((I.add x0.1.2.2.2.1 (I.of .i64 1)),())))),(x0.2.1,())))) (.done none)) (.done (some (((I.of .i64 (-1)),()),())))) K0 ((a,(((),()),((I.ofNat .i64 (@a0O a0A a)),(I.of .i64 0,())))),(b,()))
def a8L (x : (⟨[.pl (.sl tY3), .pl (.int .u64), .pl (.arr 4 (.int .u64))], []⟩ : Tm).D) : Option (⟨[.pl (.sl tY3), .pl (.int .i64)], []⟩ : Tm).D :=
 let a : (List a0A) := x.1.1
 let b : (I .u64) := x.1.2.1
 let c : U := x.1.2.2.1
 optF none (a6Y ((a,(b,())),())) fun y0 => optF none (a5C ((a,()),())) fun y1 => brn (a2R y1.1.1) (some (([],(I.of .i64 2,())),())) (brn (I.ltb y0.1.1 (I.of .i64 0)) (some (([],(I.of .i64 8,())),())) (brn (inB y0.1.1 (@a0O a0A a)) (optF none (a9N (((@rdL a0A a0B a (I.nat y0.1.1)).2.1,(c,())),())) fun y2 => brn (I.neb y2.1.2.1 (I.of .i64 0)) (some (([],(I.of .i64 10,())),())) (optF none (a1Z (((@rdL a0A a0B a (I.nat y0.1.1)).2.2.2.2.1,(c,())),())) fun y3 => brn (I.neb y3.1.2.1 (I.of .i64 0)) (some (([],(y3.1.2.1,())),())) (jn (fun (x4 : (((List a0A) × ((I .i64) × Unit)) × (a0A × Unit))) => optF none (a0S ((x4.1.1,()),())) fun y5 => brn (inB x4.1.2.1 (@a0O a0A y5.2.1)) (some (((@a1N a0A y5.2.1 (I.nat x4.1.2.1) x4.2.1),(I.of .i64 0,())),())) none) fun j4 => optF none (a4T ((y2.1.1,()),())) fun y5 => brn y5.1.1 (j4 ((a,(y0.1.1,())),(((@rdL a0A a0B a (I.nat y0.1.1)).1,(y2.1.1,((@rdL a0A a0B a (I.nat y0.1.1)).2.2.1,((@rdL a0A a0B a (I.nat y0.1.1)).2.2.2.1,(y3.1.1,(I.of .u64 0,(@rdL a0A a0B a (I.nat y0.1.1)).2.2.2.2.2.2)))))),()))) (j4 ((a,(y0.1.1,())),(((@rdL a0A a0B a (I.nat y0.1.1)).1,(y2.1.1,((@rdL a0A a0B a (I.nat y0.1.1)).2.2.1,((@rdL a0A a0B a (I.nat y0.1.1)).2.2.2.1,(y3.1.1,(@rdL a0A a0B a (I.nat y0.1.1)).2.2.2.2.2))))),())))))) none))
def a9G (x : (⟨[.pl (.sl tY3), .pl (.sl tY4)], []⟩ : Tm).D) : Option (⟨[.pl (.sl tY3), .pl (.int .i64)], []⟩ : Tm).D :=
 let a : (List a0A) := x.1.1
 let b : (List a0N) := x.1.2.1
 optF none (a0S ((a,()),())) fun y0 => iter none (fun x1 => brn (I.ltb x1.1.2.2.2.1 x1.1.2.2.1) (brn (inB x1.1.2.2.2.1 (@a0O a0N x1.1.2.1)) (optF (.done none) (a8L ((x1.1.1,((@rdL a0N a2F x1.1.2.1 (I.nat x1.1.2.2.2.1)).1,((@rdL a0N a2F x1.1.2.1 (I.nat x1.1.2.2.2.1)).2.1,()))),())) fun y2 => brn (I.neb y2.1.2.1 (I.of .i64 0)) (.done (some (([],(y2.1.2.1,())),()))) (.again ((y2.1.1,(x1.1.2.1,(x1.1.2.2.1,((I.add x1.1.2.2.2.1 (I.of .i64 1)),())))),()))) (.done none)) (.done (some ((x1.1.1,(I.of .i64 0,())),())))) K0 ((y0.2.1,(b,((I.ofNat .i64 (@a0O a0N b)),(I.of .i64 0,())))),())
def b2D (x : (⟨[.pl (.sl tY4)], []⟩ : Tm).D) : Option (⟨[.pl (.arr 4 (.int .u64)), .pl (.int .i64)], []⟩ : Tm).D :=
 let a : (List a0N) := x.1.1
 iter none (fun x0 => brn (I.ltb x0.1.2.2.1 x0.1.2.1) (brn (inB x0.1.2.2.1 (@a0O a0N x0.1.1)) (optF (.done none) (a1Z ((x0.2.2.1,((@rdL a0N a2F x0.1.1 (I.nat x0.1.2.2.1)).2.1,())),())) fun y1 => brn (I.neb y1.1.2.1 (I.of .i64 0)) (.done (some ((Z_U,(y1.1.2.1,())),()))) (.again ((x0.1.1,(x0.1.2.1,((I.add x0.1.2.2.1 (I.of .i64 1)),()))),(x0.2.1,(y1.1.1,()))))) (.done none)) (.done (some ((x0.2.2.1,(I.of .i64 0,())),())))) K0 ((a,((I.ofNat .i64 (@a0O a0N a)),(I.of .i64 0,()))),(Z_U,(Z_U,())))
def a8R (x : (⟨[.pl (.sl tY4)], []⟩ : Tm).D) : Option (⟨[.pl (.arr 4 (.int .u64)), .pl (.int .i64)], []⟩ : Tm).D :=
 let a : (List a0N) := x.1.1
 iter none (fun x0 => brn (I.ltb x0.1.2.2.1 (I.ofNat .i64 (@a0O a0N x0.1.1))) (brn (inB x0.1.2.2.1 (@a0O a0N x0.1.1)) (optF (.done none) (a0K (((@rdL a0N a2F x0.1.1 (I.nat x0.1.2.2.1)).2.1,()),())) fun y1 => optF (.done none) (a2G ((x0.1.2.1,(y1.1.1,())),())) fun y2 => .again ((x0.1.1,(y2.1.1,((I.add x0.1.2.2.1 (I.of .i64 1)),()))),(x0.2.1,()))) (.done none)) (.done (optF none (a2N ((x0.1.2.1,()),())) fun y1 => some ((y1.1.1,(y1.1.2.1,())),())))) K0 ((a,([],(I.of .i64 0,()))),(Z_U,()))
def a7G (x : (⟨[.pl (.sl tY3), .pl (.sl tY4)], []⟩ : Tm).D) : Option (⟨[.pl (.sl tY3), .pl (.int .i64)], []⟩ : Tm).D :=
 let a : (List a0A) := x.1.1
 let b : (List a0N) := x.1.2.1
 brn (a2P (@a0O a0A (@a0G a0A [] a))) (iter none (fun x0 => brn (I.ltb x0.1.2.2.1 (I.ofNat .i64 (@a0O a0N x0.1.1))) (brn (inB x0.1.2.2.1 (@a0O a0N x0.1.1)) (brn (inB x0.1.2.2.1 (@a0O a0N x0.1.1)) (optF (.done none) (a4K ((x0.1.2.1,((@rdL a0N a2F x0.1.1 (I.nat x0.1.2.2.1)).1,((@rdL a0N a2F x0.1.1 (I.nat x0.1.2.2.1)).2.1,()))),())) fun y1 => brn (I.neb y1.1.2.1 (I.of .i64 0)) (.done (some (([],(y1.1.2.1,())),()))) (.again ((x0.1.1,(y1.1.1,((I.add x0.1.2.2.1 (I.of .i64 1)),()))),()))) (.done none)) (.done none)) (.done (some ((x0.1.2.1,(I.of .i64 0,())),())))) K0 ((b,((@a0G a0A [] a),(I.of .i64 0,()))),())) none
def a6U (x : (⟨[.pl (.sl tY3)], []⟩ : Tm).D) : Option (⟨[.pl (.arr 4 (.int .u64)), .pl (.int .i64)], []⟩ : Tm).D :=
 let a : (List a0A) := x.1.1
 optF none (a5C ((a,()),())) fun y0 => brn (a2R y0.1.1) (some ((Z_U,(I.of .i64 2,())),())) (iter none (fun x1 => brn (I.ltb x1.1.2.2.1 x1.1.2.1) (brn (inB x1.1.2.2.1 (@a0O a0A x1.1.1)) (optF (.done none) (a1Z ((x1.2.2.1,((@rdL a0A a0B x1.1.1 (I.nat x1.1.2.2.1)).2.1,())),())) fun y2 => brn (I.neb y2.1.2.1 (I.of .i64 0)) (.done (some ((Z_U,(y2.1.2.1,())),()))) (.again ((x1.1.1,(x1.1.2.1,((I.add x1.1.2.2.1 (I.of .i64 1)),()))),(x1.2.1,(y2.1.1,()))))) (.done none)) (.done (some ((x1.2.2.1,(I.of .i64 0,())),())))) K0 ((a,((I.ofNat .i64 (@a0O a0A a)),(I.of .i64 0,()))),(Z_U,(Z_U,()))))
end
end Sym

/- slices.Insert at a slice of posters, as a plain function. -/
namespace Sym
open Go
abbrev pT18 : Ty := .cons (.int .u64) tY0
noncomputable def b6G (x : (⟨[.whole 0, .pl (.int .i64), .whole 1], [.row pT18, .row pT18]⟩ : Tm).D) : Option (⟨[.whole 0], [.row pT18]⟩ : Tm).D :=
 let i : I .i64 := x.1.1
 let l : List pT18.D := x.2.1
 let ys : List pT18.D := x.2.2.1
 brn (inB' i (a0O l)) (brn (Nat.ble 1 (a0O ys)) (brn (a2P (a0O l + a0O ys)) (some ((),(a6E l 0 (I.nat i) ++ ys ++ a6E l (I.nat i) (a0O l - I.nat i),()))) none) none) none
noncomputable def insertC : Con := ⟨⟨[.whole 0,.pl (.int .i64),.whole 1],[.row pT18,.row pT18]⟩,⟨[.whole 0],[.row pT18]⟩,b6G⟩
end Sym

/- The given functions as plain functions, as the printer told them. -/
namespace Sym
open Go
noncomputable section
def a3Y : List (I .u8) := e2Z [0, 1, 2, 2, 3, 3, 3, 3, 4, 4, 4, 4, 4, 4, 4, 4, 5, 5, 5, 5, 5, 5, 5, 5, 5, 5, 5, 5, 5, 5, 5, 5, 6, 6, 6, 6, 6, 6, 6, 6, 6, 6, 6, 6, 6, 6, 6, 6, 6, 6, 6, 6, 6, 6, 6, 6, 6, 6, 6, 6, 6, 6, 6, 6, 7, 7, 7, 7, 7, 7, 7, 7, 7, 7, 7, 7, 7, 7, 7, 7, 7, 7, 7, 7, 7, 7, 7, 7, 7, 7, 7, 7, 7, 7, 7, 7, 7, 7, 7, 7, 7, 7, 7, 7, 7, 7, 7, 7, 7, 7, 7, 7, 7, 7, 7, 7, 7, 7, 7, 7, 7, 7, 7, 7, 7, 7, 7, 7, 8, 8, 8, 8, 8, 8, 8, 8, 8, 8, 8, 8, 8, 8, 8, 8, 8, 8, 8, 8, 8, 8, 8, 8, 8, 8, 8, 8, 8, 8, 8, 8, 8, 8, 8, 8, 8, 8, 8, 8, 8, 8, 8, 8, 8, 8, 8, 8, 8, 8, 8, 8, 8, 8, 8, 8, 8, 8, 8, 8, 8, 8, 8, 8, 8, 8, 8, 8, 8, 8, 8, 8, 8, 8, 8, 8, 8, 8, 8, 8, 8, 8, 8, 8, 8, 8, 8, 8, 8, 8, 8, 8, 8, 8, 8, 8, 8, 8, 8, 8, 8, 8, 8, 8, 8, 8, 8, 8, 8, 8, 8, 8, 8, 8, 8, 8, 8, 8, 8, 8, 8, 8, 8, 8, 8, 8, 8, 8]
abbrev a2K : Type := Bool × (U × Unit)
noncomputable abbrev a0P : a2K := (false, (Z_U, ()))
abbrev a1X : Type := (I .u64) × a0N
abbrev a1R : Type := (I .u64) × (U × ((List a0N) × Unit))
abbrev a1I : Type := (I .u64) × ((I .u64) × ((I .u64) × (U × ((I .u64) × (U × ((I .u64) × (U × U)))))))
noncomputable abbrev b5E : a1I := ((I.of .u64 0), ((I.of .u64 0), ((I.of .u64 0), (Z_U, ((I.of .u64 0), (Z_U, ((I.of .u64 0), (Z_U, Z_U))))))))
abbrev a0T : Type := U × ((I .u64) × ((I .u64) × ((I .u64) × (a2K × ((List a0A) × Unit)))))
abbrev a0F : Ty := .cons .bool (.cons a1C .nil)
abbrev a1H : Ty := .cons (.int .u64) (.cons a1C .nil)
abbrev a0V : Ty := .cons (.int .u64) a1H
abbrev a7H : Ty := .cons (.int .i64) (.cons (.int .i64) (.cons .bool (.cons (.int .u8) .nil)))
abbrev a0Q : Ty := .cons (.int .u64) (.cons a1C (.cons (.sl a1H) .nil))
abbrev a0D : Ty := .cons (.int .u64) (.cons a1C (.cons a1C (.cons a1C (.cons a1C (.cons (.int .u64) .nil)))))
abbrev a0Z : Ty := .cons a0D (.cons (.int .i64) .nil)
abbrev b0S : Ty := .cons (.int .i64) (.cons (.int .u64) (.cons (.int .u64) (.cons a1C (.cons a0V (.cons (.int .u64) (.cons .bool .nil))))))
abbrev a1G : Ty := .cons (.sl a0Z) .nil
abbrev a0I : Ty := .cons (.int .u64) (.cons (.int .u64) (.cons (.int .u64) (.cons a1C (.cons (.int .u64) (.cons a1C (.cons (.int .u64) (.cons a1C (.cons (.int .u64) (.cons (.int .u64) (.cons (.int .u64) (.cons (.int .u64) .nil)))))))))))
abbrev a0E : Ty := .cons a1C (.cons (.int .u64) (.cons (.int .u64) (.cons (.int .u64) (.cons a0F (.cons (.sl a0D) .nil)))))
def b2J (x : (⟨[], []⟩ : Tm).D) : Option (⟨[.pl a0E], []⟩ : Tm).D :=
 optF none (a0M ((I.of .u64 1000000000,()),())) fun y0 => some (((y0.1.1,(I.of .u64 0,(I.of .u64 0,(I.of .u64 0,(a0P,([],())))))),()),())
def a6D (x : (⟨[.pl a0E], []⟩ : Tm).D) : Option (⟨[.pl .bool], []⟩ : Tm).D :=
 let a : a0T := x.1.1
 iter none (fun x0 => brn (I.ltb x0.1.2.2.1 x0.1.2.1) (brn (inB x0.1.2.2.1 (@a0O a0A x0.1.1)) (brn (I.ltb x0.2.1.2.2.2.1 (@rdL a0A a0B x0.1.1 (I.nat x0.1.2.2.1)).2.2.2.2.2.1) (.done (some ((false,()),()))) (.again ((x0.1.1,(x0.1.2.1,((I.add x0.1.2.2.1 (I.of .i64 1)),()))),(x0.2.1,())))) (.done none)) (.done (optF none (a5C ((x0.2.1.2.2.2.2.2.1,()),())) fun y1 => brn y1.1.1 (optF none (a1Y ((x0.2.1.2.2.2.2.1,()),())) fun y2 => some ((y2.1.1,()),())) (some ((false,()),()))))) K0 ((a.2.2.2.2.2.1,((I.ofNat .i64 (@a0O a0A a.2.2.2.2.2.1)),(I.of .i64 0,()))),(a,()))
def b2C (x : (⟨[.pl (.sl a0D), .pl (.int .u64)], []⟩ : Tm).D) : Option (⟨[.pl (.sl a0D), .pl (.int .i64)], []⟩ : Tm).D :=
 let a : (List a0A) := x.1.1
 let b : (I .u64) := x.1.2.1
 jn (fun (x0 : (((List a0A) × ((I .u64) × Unit)) × Unit)) => jn (fun (x1 : (((List a0A) × ((I .u64) × ((I .i64) × Unit))) × Unit)) => optF none (a0S ((x1.1.1,()),())) fun y2 => optF none (b6G ((x1.1.2.2.1,()),(y2.2.1,(((x1.1.2.1,(Z_U,(Z_U,(Z_U,(Z_U,(I.of .u64 0,()))))))::[]),())))) fun y3 => some ((y3.2.1,(I.of .i64 0,())),())) fun j1 => iter none (fun x2 => brn (I.ltb x2.1.2.2.1 (I.ofNat .i64 (@a0O a0A x2.1.1))) (brn (inB x2.1.2.2.1 (@a0O a0A x2.1.1)) (brn (I.ltb (@rdL a0A a0B x2.1.1 (I.nat x2.1.2.2.1)).1 x2.1.2.1) (.again ((x2.1.1,(x2.1.2.1,((I.add x2.1.2.2.1 (I.of .i64 1)),()))),())) (.done (j1 ((x2.1.1,(x2.1.2.1,(x2.1.2.2.1,()))),())))) (.done none)) (.done (j1 ((x2.1.1,(x2.1.2.1,(x2.1.2.2.1,()))),())))) K0 ((x0.1.1,(x0.1.2.1,(I.of .i64 0,()))),())) fun j0 => jn (fun (x1 : (((List a0A) × ((I .u64) × (Bool × Unit))) × Unit)) => brn x1.1.2.2.1 (some (([],(I.of .i64 2,())),())) (optF none (a6Y ((x1.1.1,(x1.1.2.1,())),())) fun y2 => brn (I.leb (I.of .i64 0) y2.1.1) (some (([],(I.of .i64 9,())),())) (brn (I.eqb (I.ofNat .i64 (@a0O a0A x1.1.1)) (I.of .i64 64)) (some (([],(I.of .i64 7,())),())) (j0 ((x1.1.1,(x1.1.2.1,())),()))))) fun j1 => optF none (a5C ((a,()),())) fun y2 => brn (a2R y2.1.1) (j1 ((a,(b,(true,()))),())) (j1 ((a,(b,((I.eqb b (I.of .u64 0)),()))),()))
def a5D (x : (⟨[.pl a0E, .pl (.int .u64)], []⟩ : Tm).D) : Option (⟨[.pl a0E, .pl (.int .i64)], []⟩ : Tm).D :=
 let a : a0T := x.1.1
 let b : (I .u64) := x.1.2.1
 optF none (a6D ((a,()),())) fun y0 => brn (a2R y0.1.1) (some (((Z_U,(I.of .u64 0,(I.of .u64 0,(I.of .u64 0,(a0P,([],())))))),(I.of .i64 2,())),())) (optF none (b2C ((a.2.2.2.2.2.1,(b,())),())) fun y1 => brn (I.neb y1.1.2.1 (I.of .i64 0)) (some (((Z_U,(I.of .u64 0,(I.of .u64 0,(I.of .u64 0,(a0P,([],())))))),(y1.1.2.1,())),())) (some (((a.1,(a.2.1,(a.2.2.1,(a.2.2.2.1,(a.2.2.2.2.1,(y1.1.1,a.2.2.2.2.2.2)))))),(I.of .i64 0,())),())))
def a6V (x : (⟨[.pl (.int .u64)], []⟩ : Tm).D) : Option (⟨[.pl (.int .i64)], []⟩ : Tm).D :=
 let a : (I .u64) := x.1.1
 jn (fun (x0 : (((I .u64) × ((I .i64) × Unit)) × Unit)) => jn (fun (x1 : (((I .u64) × ((I .i64) × Unit)) × Unit)) => brn (I.leb (I.of .u64 256) x1.1.1) (brn (inB (I.conv (k := .u64) .u8 (I.shr x1.1.1 (I.of .u64 8))) 256) (some (((I.add (I.add x1.1.2.1 (I.of .i64 8)) (I.conv (k := .u8) .i64 (@rdL (I .u8) (I.of .u8 0) a3Y (I.nat (I.conv (k := .u64) .u8 (I.shr x1.1.1 (I.of .u64 8))))))),()),())) none) (brn (inB (I.conv (k := .u64) .u8 x1.1.1) 256) (some (((I.add x1.1.2.1 (I.conv (k := .u8) .i64 (@rdL (I .u8) (I.of .u8 0) a3Y (I.nat (I.conv (k := .u64) .u8 x1.1.1))))),()),())) none)) fun j1 => brn (I.leb (I.of .u64 65536) x0.1.1) (j1 (((I.shr x0.1.1 (I.of .u64 16)),((I.add x0.1.2.1 (I.of .i64 16)),())),())) (j1 ((x0.1.1,(x0.1.2.1,())),()))) fun j0 => brn (I.leb (I.of .u64 4294967296) a) (j0 (((I.shr a (I.of .u64 32)),(I.of .i64 32,())),())) (j0 ((a,(I.of .i64 0,())),()))
def a6G (x : (⟨[.pl a1C], []⟩ : Tm).D) : Option (⟨[.pl (.int .i64)], []⟩ : Tm).D :=
 let a : U := x.1.1
 iter none (fun x0 => brn (I.leb (I.of .i64 0) x0.1.1) (brn (inB x0.1.1 4) (brn (I.neb (@Arr.sel (I .u64) (I.of .u64 0) 4 x0.2.1 (I.nat x0.1.1)) (I.of .u64 0)) (brn (inB x0.1.1 4) (optF (.done none) (a6V (((@Arr.sel (I .u64) (I.of .u64 0) 4 x0.2.1 (I.nat x0.1.1)),()),())) fun y1 => .done (some (((I.add (I.mul (I.of .i64 64) x0.1.1) y1.1.1),()),()))) (.done none)) (.again (((I.sub x0.1.1 (I.of .i64 1)),()),(x0.2.1,())))) (.done none)) (.done (some ((I.of .i64 0,()),())))) K0 ((I.of .i64 3,()),(a,()))
def a4Y (x : (⟨[.pl a0E, .pl a0I, .pl a0V, .pl (.int .u64)], []⟩ : Tm).D) : Option (⟨[.pl (.int .i64)], []⟩ : Tm).D :=
 let a : a0T := x.1.1
 let b : a1I := x.1.2.1
 let c : a1X := x.1.2.2.1
 let d : (I .u64) := x.1.2.2.2.1
 optF none (a6D ((a,()),())) fun y0 => brn (a2R y0.1.1) (some ((I.of .i64 2,()),())) (optF none (a7I ((b,()),())) fun y1 => brn (a2R y1.1.1) (some ((I.of .i64 15,()),())) (optF none (a6Y ((a.2.2.2.2.2.1,(c.1,())),())) fun y2 => brn (I.ltb y2.1.1 (I.of .i64 0)) (some ((I.of .i64 8,()),())) (jn (fun (x3 : ((Bool × Unit) × (a0T × (a1X × Unit)))) => brn x3.1.1 (some ((I.of .i64 14,()),())) (optF none (a6G ((x3.2.2.1.2.2.1,()),())) fun y4 => brn (I.ltb (I.of .i64 128) y4.1.1) (some ((I.of .i64 2,()),())) (brn (I.eqb x3.2.1.2.2.2.1 (I.of .u64 18446744073709551615)) (some ((I.of .i64 4,()),())) (some ((I.of .i64 0,()),()))))) fun j3 => brn (I.ltb c.2.1 a.2.2.1) (j3 ((true,()),(a,(c,())))) (j3 (((I.ltb d c.2.1),()),(a,(c,())))))))
def a7R (x : (⟨[.pl (.int .u64), .pl (.int .u64), .pl (.int .u64), .pl (.int .u64)], []⟩ : Tm).D) : Option (⟨[.pl (.int .u64), .pl (.int .i64)], []⟩ : Tm).D :=
 let a : (I .u64) := x.1.1
 let b : (I .u64) := x.1.2.1
 let c : (I .u64) := x.1.2.2.1
 let d : (I .u64) := x.1.2.2.2.1
 jn (fun (x0 : (U × Unit)) => optF none (a0M ((x0.1.1,()),())) fun y1 => optF none (a0M (((I.sub x0.1.2.2.1 x0.1.2.1),()),())) fun y2 => optF none (a0M (((I.sub x0.1.2.2.2.1 x0.1.2.1),()),())) fun y3 => optF none (a4A ((y1.1.1,(y2.1.1,(y3.1.1,()))),())) fun y4 => some ((y4.1.1.1,(y4.1.2.1,())),())) fun j0 => jn (fun (x1 : (((I .u64) × ((I .u64) × ((I .u64) × ((I .u64) × (Bool × Unit))))) × Unit)) => brn x1.1.2.2.2.2.1 (some ((I.of .u64 0,(I.of .i64 14,())),())) (brn (I.eqb x1.1.2.2.2.1 x1.1.2.1) (some ((x1.1.1,(I.of .i64 0,())),())) (j0 ((x1.1.1,(x1.1.2.1,(x1.1.2.2.1,(x1.1.2.2.2.1,())))),())))) fun j1 => brn (I.ltb c b) (j1 ((a,(b,(c,(d,(true,()))))),())) (j1 ((a,(b,(c,(d,((I.ltb d c),()))))),()))
def a6Z (x : (⟨[.pl a0E, .pl a0I, .pl a0V, .pl (.int .u64)], []⟩ : Tm).D) : Option (⟨[.pl a0Q, .pl (.int .i64)], []⟩ : Tm).D :=
 let a : a0T := x.1.1
 let b : a1I := x.1.2.1
 let c : a1X := x.1.2.2.1
 let d : (I .u64) := x.1.2.2.2.1
 optF none (a7R ((a.2.1,(a.2.2.1,(c.2.1,(d,())))),())) fun y0 => brn (I.neb y0.1.2.1 (I.of .i64 0)) (some (((I.of .u64 0,(Z_U,([],()))),(y0.1.2.1,())),())) (optF none (a0M ((y0.1.1,()),())) fun y1 => optF none (a8O ((b.2.2.2.2.2.2.2.1,(y1.1.1,())),())) fun y2 => brn (I.neb y2.1.2.1 (I.of .i64 0)) (some (((I.of .u64 0,(Z_U,([],()))),(y2.1.2.1,())),())) (some (((y0.1.1,(y2.1.1,([],()))),(I.of .i64 0,())),())))
def a8N (x : (⟨[.pl (.sl a0D), .pl (.int .u64), .pl a1C, .pl a1C, .pl (.int .u64)], []⟩ : Tm).D) : Option (⟨[.pl (.sl a0D), .pl (.int .i64)], []⟩ : Tm).D :=
 let a : (List a0A) := x.1.1
 let b : (I .u64) := x.1.2.1
 let c : U := x.1.2.2.1
 let d : U := x.1.2.2.2.1
 let e : (I .u64) := x.1.2.2.2.2.1
 optF none (a6Y ((a,(b,())),())) fun y0 => jn (fun (x1 : (((List a0A) × ((I .u64) × ((I .i64) × Unit))) × (U × (U × Unit)))) => brn (inB x1.1.2.2.1 (@a0O a0A x1.1.1)) (optF none (a1Z ((x1.2.1,(x1.2.2.1,())),())) fun y2 => optF none (a1Z (((@rdL a0A a0B x1.1.1 (I.nat x1.1.2.2.1)).2.1,(y2.1.1,())),())) fun y3 => optF none (a1Z (((@rdL a0A a0B x1.1.1 (I.nat x1.1.2.2.1)).2.2.1,(x1.2.1,())),())) fun y4 => optF none (a1Z (((@rdL a0A a0B x1.1.1 (I.nat x1.1.2.2.1)).2.2.2.1,(x1.2.2.1,())),())) fun y5 => jn (fun (x6 : (((List a0A) × ((I .u64) × ((I .i64) × Unit))) × (a0A × (U × (U × (U × Unit)))))) => jn (fun (x7 : (((List a0A) × ((I .i64) × Unit)) × (a0A × (U × (U × (U × Unit)))))) => optF none (a0S ((x7.1.1,()),())) fun y8 => brn (inB x7.1.2.1 (@a0O a0A y8.2.1)) (some (((@a1N a0A y8.2.1 (I.nat x7.1.2.1) (x7.2.1.1,(x7.2.2.1,(x7.2.2.2.1,(x7.2.2.2.2.1,x7.2.1.2.2.2.2))))),(I.of .i64 0,())),())) none) fun j7 => optF none (a4T ((x6.2.1.2.1,()),())) fun y8 => brn y8.1.1 (optF none (a4T ((x6.2.2.1,()),())) fun y9 => brn (a2R y9.1.1) (j7 ((x6.1.1,(x6.1.2.2.1,())),((x6.2.1.1,(x6.2.1.2.1,(x6.2.1.2.2.1,(x6.2.1.2.2.2.1,(x6.2.1.2.2.2.2.1,(x6.1.2.1,x6.2.1.2.2.2.2.2.2)))))),(x6.2.2.1,(x6.2.2.2.1,(x6.2.2.2.2.1,())))))) (j7 ((x6.1.1,(x6.1.2.2.1,())),(x6.2.1,(x6.2.2.1,(x6.2.2.2.1,(x6.2.2.2.2.1,()))))))) (j7 ((x6.1.1,(x6.1.2.2.1,())),(x6.2.1,(x6.2.2.1,(x6.2.2.2.1,(x6.2.2.2.2.1,()))))))) fun j6 => brn (I.neb y2.1.2.1 (I.of .i64 0)) (some (([],(I.of .i64 4,())),())) (brn (I.neb y3.1.2.1 (I.of .i64 0)) (some (([],(I.of .i64 4,())),())) (brn (I.neb y4.1.2.1 (I.of .i64 0)) (some (([],(I.of .i64 4,())),())) (brn (I.neb y5.1.2.1 (I.of .i64 0)) (some (([],(I.of .i64 4,())),())) (j6 ((x1.1.1,(x1.1.2.1,(x1.1.2.2.1,()))),((@rdL a0A a0B x1.1.1 (I.nat x1.1.2.2.1)),(y3.1.1,(y4.1.1,(y5.1.1,())))))))))) none) fun j1 => jn (fun (x2 : (((List a0A) × ((I .u64) × ((I .i64) × (Bool × Unit)))) × (U × (U × Unit)))) => brn x2.1.2.2.2.1 (some (([],(I.of .i64 2,())),())) (brn (I.ltb x2.1.2.2.1 (I.of .i64 0)) (some (([],(I.of .i64 8,())),())) (j1 ((x2.1.1,(x2.1.2.1,(x2.1.2.2.1,()))),(x2.2.1,(x2.2.2.1,())))))) fun j2 => optF none (a5C ((a,()),())) fun y3 => brn (a2R y3.1.1) (j2 ((a,(e,(y0.1.1,(true,())))),(c,(d,())))) (j2 ((a,(e,(y0.1.1,((I.eqb e (I.of .u64 0)),())))),(c,(d,()))))
def a8J (x : (⟨[.pl a0E, .pl a0I, .pl a1C, .pl a0Q], []⟩ : Tm).D) : Option (⟨[.pl a0E, .pl (.int .i64)], []⟩ : Tm).D :=
 let a : a0T := x.1.1
 let b : a1I := x.1.2.1
 let c : U := x.1.2.2.1
 let d : a1R := x.1.2.2.2.1
 optF none (b2D ((d.2.2.1,()),())) fun y0 => brn (I.neb y0.1.2.1 (I.of .i64 0)) (some (((Z_U,(I.of .u64 0,(I.of .u64 0,(I.of .u64 0,(a0P,([],())))))),(y0.1.2.1,())),())) (optF none (a6U ((a.2.2.2.2.2.1,()),())) fun y1 => brn (I.neb y1.1.2.1 (I.of .i64 0)) (some (((Z_U,(I.of .u64 0,(I.of .u64 0,(I.of .u64 0,(a0P,([],())))))),(y1.1.2.1,())),())) (brn (I.eqb d.1 (I.of .u64 0)) (some ((a,(I.of .i64 0,())),())) (optF none (a2E ((c,(y0.1.1,())),())) fun y2 => optF none (a8E ((y2.1.1,(y1.1.1,())),())) fun y3 => optF none (a9B ((a.1,(y3.1.1,(a.2.2.2.2.1,(d.1,(b,()))))),())) fun y4 => brn (I.neb y4.1.2.1 (I.of .i64 0)) (some (((Z_U,(I.of .u64 0,(I.of .u64 0,(I.of .u64 0,(a0P,([],())))))),(y4.1.2.1,())),())) (some (((y4.1.1,(a.2.1,(a.2.2.1,(a.2.2.2.1,(y3.1.1,a.2.2.2.2.2))))),(I.of .i64 0,())),())))))
def a6C (x : (⟨[.pl a0E, .pl a0I, .pl a1C, .pl a0V, .pl (.int .u64)], []⟩ : Tm).D) : Option (⟨[.pl a0E, .pl a0Q, .pl (.int .i64)], []⟩ : Tm).D :=
 let a : a0T := x.1.1
 let b : a1I := x.1.2.1
 let c : U := x.1.2.2.1
 let d : a1X := x.1.2.2.2.1
 let e : (I .u64) := x.1.2.2.2.2.1
 optF none (a4Y ((a,(b,(d,(e,())))),())) fun y0 => brn (I.neb y0.1.1 (I.of .i64 0)) (some (((Z_U,(I.of .u64 0,(I.of .u64 0,(I.of .u64 0,(a0P,([],())))))),((I.of .u64 0,(Z_U,([],()))),(y0.1.1,()))),())) (optF none (a6Z ((a,(b,(d,(e,())))),())) fun y1 => jn (fun (x2 : (((I .i64) × Unit) × (a0T × (a1I × (U × (a1X × (a0T × (a1R × (a1R × Unit))))))))) => jn (fun (x3 : (((I .i64) × Unit) × (a0T × (a1I × (U × (a1X × (a0T × (a1R × (a1R × Unit))))))))) => jn (fun (x4 : (((I .i64) × Unit) × (a0T × (a1I × (U × (a1X × (a0T × (a1R × (a1R × Unit))))))))) => jn (fun (x5 : (((I .i64) × Unit) × (a0T × (a1X × (a0T × (a1R × (a1R × Unit))))))) => brn (I.neb x5.1.1 (I.of .i64 0)) (some (((Z_U,(I.of .u64 0,(I.of .u64 0,(I.of .u64 0,(a0P,([],())))))),((I.of .u64 0,(Z_U,([],()))),(x5.1.1,()))),())) (some (((x5.2.1.1,((I.sub x5.2.1.2.1 x5.2.2.2.2.2.1.1),(x5.2.2.1.2.1,x5.2.1.2.2.2))),(x5.2.2.2.2.2.1,(I.of .i64 0,()))),()))) fun j5 => brn (I.eqb x4.1.1 (I.of .i64 0)) (optF none (a8J ((x4.2.1,(x4.2.2.1,(x4.2.2.2.1,(x4.2.2.2.2.2.2.2.1,())))),())) fun y6 => j5 ((y6.1.2.1,()),(y6.1.1,(x4.2.2.2.2.1,(x4.2.2.2.2.2.1,(x4.2.2.2.2.2.2.1,(x4.2.2.2.2.2.2.2.1,()))))))) (j5 ((x4.1.1,()),(x4.2.1,(x4.2.2.2.2.1,(x4.2.2.2.2.2.1,(x4.2.2.2.2.2.2.1,(x4.2.2.2.2.2.2.2.1,())))))))) fun j4 => brn (I.eqb x3.1.1 (I.of .i64 0)) (optF none (a9G ((x3.2.1.2.2.2.2.2.1,(x3.2.2.2.2.2.2.2.1.2.2.1,())),())) fun y5 => j4 ((y5.1.2.1,()),((x3.2.1.1,(x3.2.1.2.1,(x3.2.1.2.2.1,(x3.2.1.2.2.2.1,(x3.2.1.2.2.2.2.1,(y5.1.1,x3.2.1.2.2.2.2.2.2)))))),(x3.2.2.1,(x3.2.2.2.1,(x3.2.2.2.2.1,(x3.2.2.2.2.2.1,(x3.2.2.2.2.2.2.1,(x3.2.2.2.2.2.2.2.1,()))))))))) (j4 ((x3.1.1,()),(x3.2.1,(x3.2.2.1,(x3.2.2.2.1,(x3.2.2.2.2.1,(x3.2.2.2.2.2.1,(x3.2.2.2.2.2.2.1,(x3.2.2.2.2.2.2.2.1,())))))))))) fun j3 => brn (I.eqb x2.1.1 (I.of .i64 0)) (optF none (b0R ((x2.2.1.2.2.2.2.2.1,(x2.2.2.2.1,())),())) fun y4 => j3 ((y4.1.2.1,()),(x2.2.1,(x2.2.2.1,(x2.2.2.2.1,(x2.2.2.2.2.1,(x2.2.2.2.2.2.1,(x2.2.2.2.2.2.2.1,((x2.2.2.2.2.2.2.2.1.1,(x2.2.2.2.2.2.2.2.1.2.1,(y4.1.1,x2.2.2.2.2.2.2.2.1.2.2.2))),()))))))))) (j3 ((x2.1.1,()),(x2.2.1,(x2.2.2.1,(x2.2.2.2.1,(x2.2.2.2.2.1,(x2.2.2.2.2.2.1,(x2.2.2.2.2.2.2.1,(x2.2.2.2.2.2.2.2.1,())))))))))) fun j2 => brn (I.eqb y1.1.2.1 (I.of .i64 0)) (optF none (a8N ((a.2.2.2.2.2.1,(d.1,(d.2.2.1,(y1.1.1.2.1,((I.add a.2.2.2.1 (I.of .u64 1)),()))))),())) fun y3 => j2 ((y3.1.2.1,()),((a.1,(a.2.1,(a.2.2.1,((I.add a.2.2.2.1 (I.of .u64 1)),(a.2.2.2.2.1,(y3.1.1,a.2.2.2.2.2.2)))))),(b,(c,(d,((Z_U,(I.of .u64 0,(I.of .u64 0,(I.of .u64 0,(a0P,([],())))))),((I.of .u64 0,(Z_U,([],()))),(y1.1.1,()))))))))) (j2 ((y1.1.2.1,()),(a,(b,(c,(d,((Z_U,(I.of .u64 0,(I.of .u64 0,(I.of .u64 0,(a0P,([],())))))),((I.of .u64 0,(Z_U,([],()))),(y1.1.1,()))))))))))
def a4X (x : (⟨[], []⟩ : Tm).D) : Option (⟨[.pl .bool], []⟩ : Tm).D :=
 optF none (b2J ((),())) fun y0 => optF none (a5D ((y0.1.1,(I.of .u64 7,())),())) fun y1 => optF none (a6F ((),())) fun y2 => optF none (a6C ((y1.1.1,(y2.1.1,((I.of .u64 20,(I.of .u64 0,(I.of .u64 0,(I.of .u64 0,())))),((I.of .u64 7,(I.of .u64 0,((I.of .u64 50,(I.of .u64 0,(I.of .u64 0,(I.of .u64 0,())))),()))),(I.of .u64 0,()))))),())) fun y3 => optF none (a6F ((),())) fun y4 => optF none (a6C ((y1.1.1,(y4.1.1,((I.of .u64 20,(I.of .u64 0,(I.of .u64 0,(I.of .u64 0,())))),((I.of .u64 8,a2F),(I.of .u64 0,()))))),())) fun y5 => brn (I.eqb y1.1.2.1 (I.of .i64 0)) (brn (I.eqb y3.1.2.2.1 (I.of .i64 0)) (brn (I.eqb y5.1.2.2.1 (I.of .i64 8)) (brn (I.eqb (I.ofNat .i64 (@a0O a0N y3.1.2.1.2.2.1)) (I.of .i64 1)) (brn (inB (I.of .i64 0) (@a0O a0N y3.1.2.1.2.2.1)) (brn (Ty.eqb a1H (@rdL a0N a2F y3.1.2.1.2.2.1 0) (I.of .u64 7,((I.of .u64 20,(I.of .u64 0,(I.of .u64 0,(I.of .u64 0,())))),()))) (brn (I.eqb (I.ofNat .i64 (@a0O a0A y3.1.1.2.2.2.2.2.1)) (I.of .i64 1)) (brn (inB (I.of .i64 0) (@a0O a0A y3.1.1.2.2.2.2.2.1)) (some (((Ty.eqb a1C (@rdL a0A a0B y3.1.1.2.2.2.2.2.1 0).2.1 (I.of .u64 30,(I.of .u64 0,(I.of .u64 0,(I.of .u64 0,()))))),()),())) none) (some ((false,()),()))) (some ((false,()),()))) none) (some ((false,()),()))) (some ((false,()),()))) (some ((false,()),()))) (some ((false,()),()))
def b1M (x : (⟨[.pl a0E], []⟩ : Tm).D) : Option (⟨[.pl a0E], []⟩ : Tm).D :=
 let a : a0T := x.1.1
 optF none (a0S ((a.2.2.2.2.2.1,()),())) fun y0 => some (((a.1,(a.2.1,(a.2.2.1,(a.2.2.2.1,(a.2.2.2.2.1,(y0.2.1,a.2.2.2.2.2.2)))))),()),())
def a9D (x : (⟨[.pl a0E, .pl (.int .u64)], []⟩ : Tm).D) : Option (⟨[.pl a0E, .pl (.int .i64)], []⟩ : Tm).D :=
 let a : a0T := x.1.1
 let b : (I .u64) := x.1.2.1
 optF none (a6D ((a,()),())) fun y0 => brn (a2R y0.1.1) (some (((Z_U,(I.of .u64 0,(I.of .u64 0,(I.of .u64 0,(a0P,([],())))))),(I.of .i64 2,())),())) (optF none (b1D ((a.2.1,(b,(I.of .u64 0,()))),())) fun y1 => brn (I.neb y1.1.2.1 (I.of .u64 0)) (some (((Z_U,(I.of .u64 0,(I.of .u64 0,(I.of .u64 0,(a0P,([],())))))),(I.of .i64 4,())),())) (optF none (b1M ((a,()),())) fun y2 => some (((y2.1.1.1,(y1.1.1,y2.1.1.2.2)),(I.of .i64 0,())),())))
end
end Sym

/- The given functions as plain functions, as the printer told them. -/
namespace Sym
open Go
abbrev a4C : Type := (I .u64) × (U × ((List a0N) × Unit))
abbrev a0U : Ty := .cons .bool (.cons (.sl (.int .i64)) .nil)
abbrev a0W : Ty := .cons (.int .i64) (.cons (.int .u64) (.cons a1C (.cons a1C (.cons .bool (.cons .bool (.cons (.int .u64) .nil))))))
noncomputable section
def a3W (x : (⟨[.pl a0E], []⟩ : Tm).D) : Option (⟨[.pl .bool], []⟩ : Tm).D :=
 let a : a0T := x.1.1
 jn (fun (x0 : (Unit × (a0T × Unit))) => iter none (fun x1 => brn (I.ltb x1.1.1 (I.ofNat .i64 (@a0O a0A x1.2.1.2.2.2.2.2.1))) (brn (inB x1.1.1 (@a0O a0A x1.2.1.2.2.2.2.2.1)) (brn (I.ltb x1.2.1.2.2.2.1 (@rdL a0A a0B x1.2.1.2.2.2.2.2.1 (I.nat x1.1.1)).2.2.2.2.2.1) (.done (some ((false,()),()))) (.again (((I.add x1.1.1 (I.of .i64 1)),()),(x1.2.1,())))) (.done none)) (.done (some ((true,()),())))) K0 ((I.of .i64 0,()),(x0.2.1,()))) fun j0 => optF none (a2Y ((a.2.2.2.2.2.1,()),())) fun y1 => brn (a2R y1.1.1) (some ((false,()),())) (optF none (a3E ((a.2.2.2.2.1,()),())) fun y2 => brn (a2R y2.1.1) (some ((false,()),())) (j0 ((),(a,()))))
def a5F (x : (⟨[.pl a0E, .pl (.int .u64)], []⟩ : Tm).D) : Option (⟨[.pl a0E, .pl (.int .i64)], []⟩ : Tm).D :=
 let a : a0T := x.1.1
 let b : (I .u64) := x.1.2.1
 optF none (a3W ((a,()),())) fun y0 => brn (a2R y0.1.1) (some (((Z_U,(I.of .u64 0,(I.of .u64 0,(I.of .u64 0,(a0P,([],())))))),(I.of .i64 2,())),())) (optF none (a4G ((a.2.2.2.2.2.1,(b,())),())) fun y1 => brn (I.neb y1.1.2.1 (I.of .i64 0)) (some (((Z_U,(I.of .u64 0,(I.of .u64 0,(I.of .u64 0,(a0P,([],())))))),(y1.1.2.1,())),())) (some (((a.1,(a.2.1,(a.2.2.1,(a.2.2.2.1,(a.2.2.2.2.1,(y1.1.1,a.2.2.2.2.2.2)))))),(I.of .i64 0,())),())))
def a5T (x : (⟨[.pl a0E, .pl (.int .u64)], []⟩ : Tm).D) : Option (⟨[.pl a0E, .pl (.int .i64)], []⟩ : Tm).D :=
 let a : a0T := x.1.1
 let b : (I .u64) := x.1.2.1
 optF none (a3W ((a,()),())) fun y0 => brn (a2R y0.1.1) (some (((Z_U,(I.of .u64 0,(I.of .u64 0,(I.of .u64 0,(a0P,([],())))))),(I.of .i64 2,())),())) (brn (I.ltb (I.add a.2.1 b) b) (some (((Z_U,(I.of .u64 0,(I.of .u64 0,(I.of .u64 0,(a0P,([],())))))),(I.of .i64 4,())),())) (brn (a2P (@a0O a0A (@a0G a0A [] a.2.2.2.2.2.1))) (some (((a.1,((I.add a.2.1 b),(a.2.2.1,(a.2.2.2.1,(a.2.2.2.2.1,((@a0G a0A [] a.2.2.2.2.2.1),a.2.2.2.2.2.2)))))),(I.of .i64 0,())),())) none))
def a7F (x : (⟨[.pl a1C], []⟩ : Tm).D) : Option (⟨[.pl (.int .i64)], []⟩ : Tm).D :=
 let a : U := x.1.1
 iter none (fun x0 => brn (I.ltb x0.1.2.1 (I.of .i64 256)) (brn (inB (I.quo x0.1.2.1 (I.of .i64 64)) 4) (brn (I.nn (I.conv (k := .i64) .u64 (I.rem x0.1.2.1 (I.of .i64 64)))) (brn (I.eqb (I.and (I.shr (@Arr.sel (I .u64) (I.of .u64 0) 4 x0.2.1 (I.nat (I.quo x0.1.2.1 (I.of .i64 64)))) (I.conv (k := .i64) .u64 (I.rem x0.1.2.1 (I.of .i64 64)))) (I.of .u64 1)) (I.of .u64 1)) (.again (((I.add x0.1.2.1 (I.of .i64 1)),((I.add x0.1.2.1 (I.of .i64 1)),())),(x0.2.1,()))) (.again ((x0.1.1,((I.add x0.1.2.1 (I.of .i64 1)),())),(x0.2.1,())))) (.done none)) (.done none)) (.done (some ((x0.1.1,()),())))) K0 ((I.of .i64 0,(I.of .i64 0,())),(a,()))
def a7N (x : (⟨[.pl a0E, .pl a0I, .pl a0V, .pl (.int .u64)], []⟩ : Tm).D) : Option (⟨[.pl (.int .i64)], []⟩ : Tm).D :=
 let a : a0T := x.1.1
 let b : a1I := x.1.2.1
 let c : a1X := x.1.2.2.1
 let d : (I .u64) := x.1.2.2.2.1
 optF none (a3W ((a,()),())) fun y0 => brn (a2R y0.1.1) (some ((I.of .i64 2,()),())) (optF none (a4U ((b,()),())) fun y1 => brn (a2R y1.1.1) (some ((I.of .i64 15,()),())) (optF none (a3S ((a.2.2.2.2.2.1,(c.1,())),())) fun y2 => brn (I.ltb y2.1.1 (I.of .i64 0)) (some ((I.of .i64 8,()),())) (jn (fun (x3 : (Unit × (a1X × Unit))) => optF none (a7F ((x3.2.1.2.2.1,()),())) fun y4 => brn (I.ltb (I.of .i64 128) y4.1.1) (some ((I.of .i64 2,()),())) (some ((I.of .i64 0,()),()))) fun j3 => brn (I.ltb c.2.1 a.2.2.1) (some ((I.of .i64 14,()),())) (brn (I.ltb d c.2.1) (some ((I.of .i64 14,()),())) (j3 ((),(c,())))))))
def a5P (x : (⟨[.pl (.int .u64), .pl (.int .u64), .pl (.int .u64), .pl (.int .u64)], []⟩ : Tm).D) : Option (⟨[.pl (.int .u64), .pl (.int .i64)], []⟩ : Tm).D :=
 let a : (I .u64) := x.1.1
 let b : (I .u64) := x.1.2.1
 let c : (I .u64) := x.1.2.2.1
 let d : (I .u64) := x.1.2.2.2.1
 jn (fun (x0 : (U × Unit)) => brn (I.eqb x0.1.2.2.2.1 x0.1.2.1) (some ((x0.1.1,(I.of .i64 0,())),())) (optF none (a1J ((x0.1.1,()),())) fun y1 => optF none (a1J (((I.sub x0.1.2.2.1 x0.1.2.1),()),())) fun y2 => optF none (a5Q ((y1.1.1,(y2.1.1,())),())) fun y3 => optF none (a1J (((I.sub x0.1.2.2.2.1 x0.1.2.1),()),())) fun y4 => optF none (a4S ((y3.1.1,(y4.1.1,())),())) fun y5 => optF none (a1B ((y5.1.1,()),())) fun y6 => some ((y6.1.1.1,(I.of .i64 0,())),()))) fun j0 => brn (I.ltb c b) (some ((I.of .u64 0,(I.of .i64 14,())),())) (brn (I.ltb d c) (some ((I.of .u64 0,(I.of .i64 14,())),())) (j0 ((a,(b,(c,(d,())))),())))
def a7J (x : (⟨[.pl a1C, .pl a1C], []⟩ : Tm).D) : Option (⟨[.pl a1C, .pl (.int .i64)], []⟩ : Tm).D :=
 let a : U := x.1.1
 let b : U := x.1.2.1
 optF none (a0K ((a,()),())) fun y0 => optF none (a0K ((b,()),())) fun y1 => optF none (a5Q ((y0.1.1,(y1.1.1,())),())) fun y2 => optF none (a2N ((y2.1.1,()),())) fun y3 => some ((y3.1.1,(y3.1.2.1,())),())
def a5V (x : (⟨[.pl (.sl a0D)], []⟩ : Tm).D) : Option (⟨[.pl a1C, .pl (.int .i64)], []⟩ : Tm).D :=
 let a : (List a0A) := x.1.1
 optF none (a2Y ((a,()),())) fun y0 => brn (a2R y0.1.1) (some ((Z_U,(I.of .i64 2,())),())) (iter none (fun x1 => brn (I.ltb x1.1.2.2.1 (I.ofNat .i64 (@a0O a0A x1.1.1))) (brn (inB x1.1.2.2.1 (@a0O a0A x1.1.1)) (optF (.done none) (a0K (((@rdL a0A a0B x1.1.1 (I.nat x1.1.2.2.1)).2.1,()),())) fun y2 => optF (.done none) (a2G ((x1.1.2.1,(y2.1.1,())),())) fun y3 => .again ((x1.1.1,(y3.1.1,((I.add x1.1.2.2.1 (I.of .i64 1)),()))),(x1.2.1,()))) (.done none)) (.done (optF none (a2N ((x1.1.2.1,()),())) fun y2 => some ((y2.1.1,(y2.1.2.1,())),())))) K0 ((a,([],(I.of .i64 0,()))),(Z_U,())))
def a6R (x : (⟨[.pl a0E, .pl a0I, .pl a1C, .pl a0V, .pl (.int .u64)], []⟩ : Tm).D) : Option (⟨[.pl a0E, .pl a0Q, .pl (.int .i64)], []⟩ : Tm).D :=
 let a : a0T := x.1.1
 let b : a1I := x.1.2.1
 let c : U := x.1.2.2.1
 let d : a1X := x.1.2.2.2.1
 let e : (I .u64) := x.1.2.2.2.2.1
 optF none (a7N ((a,(b,(d,(e,())))),())) fun y0 => brn (I.neb y0.1.1 (I.of .i64 0)) (some (((Z_U,(I.of .u64 0,(I.of .u64 0,(I.of .u64 0,(a0P,([],())))))),((I.of .u64 0,(Z_U,([],()))),(y0.1.1,()))),())) (optF none (a5P ((a.2.1,(a.2.2.1,(d.2.1,(e,())))),())) fun y1 => optF none (a7J ((b.2.2.2.2.2.2.2.1,((y1.1.1,(I.of .u64 0,(I.of .u64 0,(I.of .u64 0,())))),())),())) fun y2 => jn (fun (x3 : (Unit × (a0T × (a1I × (U × (a1X × (a0T × (a4C × (a4C × (U × Unit)))))))))) => optF none (a3N ((x3.2.1.2.2.2.2.2.1,(x3.2.2.2.2.1.1,(x3.2.2.2.2.1.2.2.1,(x3.2.2.2.2.2.2.2.2.1,((I.add x3.2.1.2.2.2.1 (I.of .u64 1)),()))))),())) fun y4 => brn (I.neb y4.1.2.1 (I.of .i64 0)) (some (((Z_U,(I.of .u64 0,(I.of .u64 0,(I.of .u64 0,(a0P,([],())))))),((I.of .u64 0,(Z_U,([],()))),(I.of .i64 4,()))),())) (optF none (a8F ((y4.1.1,(x3.2.2.2.1,())),())) fun y5 => optF none (a7G ((y4.1.1,(y5.1.1,())),())) fun y6 => brn (I.neb y6.1.2.1 (I.of .i64 0)) (some (((Z_U,(I.of .u64 0,(I.of .u64 0,(I.of .u64 0,(a0P,([],())))))),((I.of .u64 0,(Z_U,([],()))),(I.of .i64 4,()))),())) (optF none (a8R ((y5.1.1,()),())) fun y7 => optF none (a5X ((x3.2.2.2.1,(y7.1.1,())),())) fun y8 => optF none (a5V ((y6.1.1,()),())) fun y9 => brn (I.neb y9.1.2.1 (I.of .i64 0)) (some (((Z_U,(I.of .u64 0,(I.of .u64 0,(I.of .u64 0,(a0P,([],())))))),((I.of .u64 0,(Z_U,([],()))),(I.of .i64 4,()))),())) (optF none (a8U ((y8.1.1,(y9.1.1,())),())) fun y10 => jn (fun (x11 : (((List a0A) × Unit) × (a0T × (a1X × (a0T × (a4C × (a4C × Unit))))))) => some (((x11.2.1.1,((I.sub x11.2.1.2.1 x11.2.2.2.2.2.1.1),(x11.2.2.1.2.1,(x11.2.1.2.2.2.1,(x11.2.1.2.2.2.2.1,(x11.1.1,x11.2.1.2.2.2.2.2.2)))))),(x11.2.2.2.2.2.1,(I.of .i64 0,()))),())) fun j11 => brn (I.ltb (I.of .u64 0) x3.2.2.2.2.2.2.2.1.1) (optF none (a8C ((x3.2.1.1,(y10.1.1,(x3.2.1.2.2.2.2.1,(x3.2.2.2.2.2.2.2.1.1,(x3.2.2.1,()))))),())) fun y12 => brn (I.neb y12.1.2.1 (I.of .i64 0)) (some (((Z_U,(I.of .u64 0,(I.of .u64 0,(I.of .u64 0,(a0P,([],())))))),((I.of .u64 0,(Z_U,([],()))),(I.of .i64 4,()))),())) (j11 ((y6.1.1,()),((y12.1.1,(x3.2.1.2.1,(x3.2.1.2.2.1,((I.add x3.2.1.2.2.2.1 (I.of .u64 1)),(y10.1.1,x3.2.1.2.2.2.2.2))))),(x3.2.2.2.2.1,(x3.2.2.2.2.2.1,(x3.2.2.2.2.2.2.1,((x3.2.2.2.2.2.2.2.1.1,(x3.2.2.2.2.2.2.2.1.2.1,(y5.1.1,x3.2.2.2.2.2.2.2.1.2.2.2))),())))))))) (j11 ((y6.1.1,()),((x3.2.1.1,(x3.2.1.2.1,(x3.2.1.2.2.1,((I.add x3.2.1.2.2.2.1 (I.of .u64 1)),x3.2.1.2.2.2.2)))),(x3.2.2.2.2.1,(x3.2.2.2.2.2.1,(x3.2.2.2.2.2.2.1,((x3.2.2.2.2.2.2.2.1.1,(x3.2.2.2.2.2.2.2.1.2.1,(y5.1.1,x3.2.2.2.2.2.2.2.1.2.2.2))),()))))))))))) fun j3 => brn (I.neb y2.1.2.1 (I.of .i64 0)) (some (((Z_U,(I.of .u64 0,(I.of .u64 0,(I.of .u64 0,(a0P,([],())))))),((I.of .u64 0,(Z_U,([],()))),(I.of .i64 4,()))),())) (brn (I.eqb (I.add a.2.2.2.1 (I.of .u64 1)) (I.of .u64 0)) (some (((Z_U,(I.of .u64 0,(I.of .u64 0,(I.of .u64 0,(a0P,([],())))))),((I.of .u64 0,(Z_U,([],()))),(I.of .i64 4,()))),())) (j3 ((),(a,(b,(c,(d,((Z_U,(I.of .u64 0,(I.of .u64 0,(I.of .u64 0,(a0P,([],())))))),((I.of .u64 0,(Z_U,([],()))),((y1.1.1,(y2.1.1,([],()))),(y2.1.1,()))))))))))))
def a7K (x : (⟨[.pl a0Q, .pl a0Q], []⟩ : Tm).D) : Option (⟨[.pl .bool], []⟩ : Tm).D :=
 let a : a4C := x.1.1
 let b : a4C := x.1.2.1
 brn (I.eqb a.1 b.1) (brn (Ty.eqb a1C a.2.1 b.2.1) (optF none (a4F ((a.2.2.1,(b.2.2.1,())),())) fun y0 => some ((y0.1.1,()),())) (some ((false,()),()))) (some ((false,()),()))
def a3B (x : (⟨[.pl a0E, .pl a0E], []⟩ : Tm).D) : Option (⟨[.pl .bool], []⟩ : Tm).D :=
 let a : a0T := x.1.1
 let b : a0T := x.1.2.1
 brn (Ty.eqb a1C a.1 b.1) (brn (I.eqb a.2.1 b.2.1) (brn (I.eqb a.2.2.1 b.2.2.1) (brn (I.eqb a.2.2.2.1 b.2.2.2.1) (brn (Ty.eqb a0F a.2.2.2.2.1 b.2.2.2.2.1) (optF none (a4P ((a.2.2.2.2.2.1,(b.2.2.2.2.2.1,())),())) fun y0 => some ((y0.1.1,()),())) (some ((false,()),()))) (some ((false,()),()))) (some ((false,()),()))) (some ((false,()),()))) (some ((false,()),()))
def a2Q (x : (⟨[.pl a0E, .pl a0I, .pl (.arr 8 (.int .u64)), .pl a1C, .pl a0V, .pl (.int .u64), .pl (.sl a0W), .pl (.int .u64)], []⟩ : Tm).D) : Option (⟨[.pl .bool], []⟩ : Tm).D :=
 let a : a0T := x.1.1
 let b : a1I := x.1.2.1
 let c : ((I .u64) × ((I .u64) × ((I .u64) × ((I .u64) × U)))) := x.1.2.2.1
 let d : U := x.1.2.2.2.1
 let e : a1X := x.1.2.2.2.2.1
 let f : (I .u64) := x.1.2.2.2.2.2.1
 let g : (List a1E) := x.1.2.2.2.2.2.2.1
 let h : (I .u64) := x.1.2.2.2.2.2.2.2.1
 jn (fun (x0 : (((I .u64) × ((List a1E) × ((I .u64) × Unit))) × (a0T × (a1I × (((I .u64) × ((I .u64) × ((I .u64) × ((I .u64) × U)))) × (U × (a1X × Unit))))))) => optF none (a5S ((x0.1.2.1,()),())) fun y1 => jn (fun (x2 : (((I .u64) × ((I .u64) × Unit)) × (a0T × (a1I × (((I .u64) × ((I .u64) × ((I .u64) × ((I .u64) × U)))) × (U × (a1X × (a0T × Unit)))))))) => iter none (fun x3 => brn (I.ltb x3.1.2.2.2.1 (I.of .i64 2)) (brn (inB x3.1.2.2.2.1 2) (optF (.done none) (a3K ((x3.2.2.1,()),())) fun y4 => iter (.done none) (fun x5 => brn (I.ltb x5.1.2.2.2.2.2.1 (I.of .i64 2)) (brn (inB x5.1.2.2.2.2.2.1 2) (optF (.done (.done none)) (a6C ((x5.2.2.2.2.2.1,((@Arr.sel a1I b5E 2 x5.1.2.2.2.2.1 (I.nat x5.1.2.2.2.2.2.1)),(x5.2.2.2.1,(x5.2.2.2.2.1,(x5.1.1,()))))),())) fun y6 => optF (.done (.done none)) (a6R ((x5.2.2.2.2.2.1,((@Arr.sel a1I b5E 2 x5.1.2.2.2.2.1 (I.nat x5.1.2.2.2.2.2.1)),(x5.2.2.2.1,(x5.2.2.2.2.1,(x5.1.1,()))))),())) fun y7 => brn (I.neb y6.1.2.2.1 y7.1.2.2.1) (.done (.done (some ((false,()),())))) (optF (.done (.done none)) (a3B ((y6.1.1,(y7.1.1,())),())) fun y8 => brn (a2R y8.1.1) (.done (.done (some ((false,()),())))) (optF (.done (.done none)) (a7K ((y6.1.2.1,(y7.1.2.1,())),())) fun y9 => brn (a2R y9.1.1) (.done (.done (some ((false,()),())))) (.again ((x5.1.1,(x5.1.2.1,(x5.1.2.2.1,(x5.1.2.2.2.1,(x5.1.2.2.2.2.1,((I.add x5.1.2.2.2.2.2.1 (I.of .i64 1)),())))))),(x5.2.1,(x5.2.2.1,(x5.2.2.2.1,(x5.2.2.2.2.1,(x5.2.2.2.2.2.1,())))))))))) (.done (.done none))) (.done (optF (.done none) (a9D ((x5.2.2.2.2.2.1,(x5.1.2.1,())),())) fun y6 => optF (.done none) (a5T ((x5.2.2.2.2.2.1,(x5.1.2.1,())),())) fun y7 => optF (.done none) (a5D ((x5.2.2.2.2.2.1,(x5.2.2.2.2.1.1,())),())) fun y8 => optF (.done none) (a5F ((x5.2.2.2.2.2.1,(x5.2.2.2.2.1.1,())),())) fun y9 => optF (.done none) (a6D ((x5.2.2.2.2.2.1,()),())) fun y10 => optF (.done none) (a3W ((x5.2.2.2.2.2.1,()),())) fun y11 => brn (a2R (Ty.eqb .bool y10.1.1 y11.1.1)) (.done (some ((false,()),()))) (brn (I.neb y6.1.2.1 y7.1.2.1) (.done (some ((false,()),()))) (brn (I.neb y8.1.2.1 y9.1.2.1) (.done (some ((false,()),()))) (optF (.done none) (a3B ((y6.1.1,(y7.1.1,())),())) fun y12 => brn (a2R y12.1.1) (.done (some ((false,()),()))) (optF (.done none) (a3B ((y8.1.1,(y9.1.1,())),())) fun y13 => brn (a2R y13.1.1) (.done (some ((false,()),()))) (.again ((x5.1.1,(x5.1.2.1,(x5.1.2.2.1,((I.add x5.1.2.2.2.1 (I.of .i64 1)),())))),(x5.2.1,(x5.2.2.1,(x5.2.2.2.1,(x5.2.2.2.2.1,()))))))))))))) K0 ((x3.1.1,(x3.1.2.1,(x3.1.2.2.1,(x3.1.2.2.2.1,((x3.2.1,(y4.1.1,())),(I.of .i64 0,())))))),(x3.2.1,(x3.2.2.1,(x3.2.2.2.1,(x3.2.2.2.2.1,((@Arr.sel a0T (Z_U,(I.of .u64 0,(I.of .u64 0,(I.of .u64 0,(a0P,([],())))))) 2 x3.1.2.2.1 (I.nat x3.1.2.2.2.1)),()))))))) (.done none)) (.done (optF none (a4X ((),())) fun y4 => some ((y4.1.1,()),())))) K0 ((x2.1.1,(x2.1.2.1,((x2.2.1,(x2.2.2.2.2.2.2.1,())),(I.of .i64 0,())))),(x2.2.2.1,(x2.2.2.2.1,(x2.2.2.2.2.1,(((I.rem x2.2.2.2.2.2.1.1 (I.of .u64 7)),x2.2.2.2.2.2.1.2),())))))) fun j2 => brn x0.2.1.2.2.2.2.1.1 (j2 ((x0.1.1,(x0.1.2.2.1,())),(x0.2.1,(x0.2.2.1,(x0.2.2.2.1,(x0.2.2.2.2.1,(x0.2.2.2.2.2.1,((x0.2.1.1,(x0.2.1.2.1,(x0.2.1.2.2.1,(x0.2.1.2.2.2.1,(((a2R (Ty.eqb a1C x0.2.1.2.2.2.2.1.2.1 Z_U)),(x0.2.1.2.2.2.2.1.2.1,())),(y1.1.1,x0.2.1.2.2.2.2.2.2)))))),())))))))) (j2 ((x0.1.1,(x0.1.2.2.1,())),(x0.2.1,(x0.2.2.1,(x0.2.2.2.1,(x0.2.2.2.2.1,(x0.2.2.2.2.2.1,((x0.2.1.1,(x0.2.1.2.1,(x0.2.1.2.2.1,(x0.2.1.2.2.2.1,((false,(x0.2.1.2.2.2.2.1.2.1,())),(y1.1.1,x0.2.1.2.2.2.2.2.2)))))),()))))))))) fun j0 => jn (fun (x1 : (((I .u64) × ((List a1E) × ((I .u64) × (Bool × Unit)))) × (a0T × (a1I × (((I .u64) × ((I .u64) × ((I .u64) × ((I .u64) × U)))) × (U × (a1X × Unit))))))) => brn x1.1.2.2.2.1 (optF none (a4X ((),())) fun y2 => some ((y2.1.1,()),())) (j0 ((x1.1.1,(x1.1.2.1,(x1.1.2.2.1,()))),(x1.2.1,(x1.2.2.1,(x1.2.2.2.1,(x1.2.2.2.2.1,(x1.2.2.2.2.2.1,())))))))) fun j1 => brn (I.ltb (I.of .i64 20) (I.ofNat .i64 (@a0O a0A a.2.2.2.2.2.1))) (j1 ((f,(g,(h,(true,())))),(a,(b,(c,(d,(e,()))))))) (j1 ((f,(g,(h,((I.ltb (I.of .i64 30) (I.ofNat .i64 (@a0O a1E g))),())))),(a,(b,(c,(d,(e,())))))))
end
end Sym

/- slices.Insert at a slice of posters, as the machine runs it. -/
namespace Sym
open Go Go.Proofs Go.RowKit Go.Lib
section
variable {P : Program}
theorem b3P (w : World) (dT sT ty elem : TypeId) (g o dLen dCap : Nat) (a : Addr) (sLen sCap : Nat) (cur : Array Value) (t : TypeId) (cs : List Value) (sz : Nat)
  (hu : P.underlying dT = some (.slice elem)) (hs : (P.info? elem).map (·.size) = some sz)
  (hg : w.heap[g]? = some (.cells cur t (0, 0))) (hn : cs.length = Nat.min sLen dLen * sz)
  (hsrc : ∀ j v, cs[j]? = some v → w.cell? (a.add j) = some v) (hfit : o + cs.length ≤ cur.size) (h1 : ∀ v ∈ cs, v.oneCell' = true) :
  (Builtin.copy_ #[dT, sT] ty #[.slice (some ⟨g, o, none⟩) dLen dCap, .slice (some a) sLen sCap]).run P w =
   .ok (goInt (Nat.min sLen dLen)) (w.setRow g (cur.toList.take o ++ cs ++ cur.toList.drop (o + cs.length)).toArray) := by
 have hl := run_loadCells_list (P := P) w a cs hsrc
 have hst := run_storeCells_at P g o t cs 0 cur w hg (by simpa using hfit) h1
 cases hq : P.info? elem with
 | none => simp [hq] at hs
 | some i =>
  have hi : i.size = sz := by simpa [hq] using hs
  simp [Builtin.copy_, run_underlying hu, Builtin.lenOf, Builtin.firstCells, Go.sizeOf, typeInfo, hq, hi, ← hn, hl, hst]
end
theorem d8C : Tryz.prog.underlying 34 = some (.slice 68) := by kernel_rfl
set_option maxHeartbeats 1000000 in
set_option maxRecDepth 100000 in
theorem d7Y (n m : Nat) (hd hv : Value) (w w' : World) (hd' : Value) (hm : 0 < m) (hn : n ≤ 1073741824)
  (hdl : hd = .slice none 0 0 ∧ n = 0 ∨ ∃ g cap, hd = .slice (some ⟨g, 0, none⟩) n cap ∧ n ≤ cap ∧ cap ≤ maxLen) (hvl : ∃ a c, hv = .slice a m c)
  (hrun : (Builtin.append_ #[34, 34] 34 #[hd, hv]).run Tryz.prog w = .ok hd' w') :
  Calls Tryz.prog 54 #[hd, .int .i64 n, hv] w fun e w2 => e = .returned hd' ∧ w2 = w' := by
 obtain ⟨a, c, rfl⟩ := hvl
 have hz1 : ¬ ((m : Int) = 0) := by omega
 go_enter Tryz.func54, Tryz.ntmps54
 rcases hdl with ⟨rfl, rfl⟩ | ⟨g, cap, rfl, h1, h2⟩
 ·
  go_wp2_with (at_builtin; refine Lib.wpList_append_run _ rfl _ _ _ _ rfl _ _ rfl rfl _ _ hrun ?_)
  go_ret
  exact ⟨rfl, rfl⟩
 ·
  go_wp2_with (at_builtin; refine Lib.wpList_append_run _ rfl _ _ _ _ rfl _ _ rfl rfl _ _ hrun ?_)
  all_goals (go_ret; exact ⟨rfl, rfl⟩)
theorem d3B : (Tryz.prog.info? 68).map (·.size) = some 18 := by kernel_rfl
theorem e5H (w : World) : (Go.sizeOf 68).run Tryz.prog w = .ok 18 w := by
 have h := d3B
 cases hq : Tryz.prog.info? 68 with
 | none => rw [hq] at h; cases h
 | some i =>
  have hi : i.size = 18 := by rw [hq] at h; simpa using h
  simp [Go.sizeOf, typeInfo, hq, hi]
set_option maxHeartbeats 1000000 in
set_option maxRecDepth 100000 in
theorem d4Y (n m i cap vc g vb : Nat) (cur curv cur1 cur2 : Array Value) (cs vs : List Value) (e ev : TypeId) (w : World) (hm : 0 < m) (hi : i < n) (hroom : n + m ≤ cap) (hc63 : cap ≤ maxLen) (hvb : vb ≠ g)
  (hg : w.heap[g]? = some (.cells cur e (0, 0))) (hv : w.heap[vb]? = some (.cells curv ev (0, 0))) (hcs : cur.size = cap * 18) (hvs : m * 18 ≤ curv.size)
  (h1 : ∀ v ∈ cs, v.oneCell' = true) (h1v : ∀ v ∈ vs, v.oneCell' = true)
  (hcs0 : cs = (cur.toList.drop (i * 18)).take ((n - i) * 18)) (hvs0 : vs = curv.toList.take (m * 18))
  (hc1 : cur1 = (cur.toList.take ((i + m) * 18) ++ cs ++ cur.toList.drop ((i + m) * 18 + cs.length)).toArray)
  (hc2 : cur2 = (cur1.toList.take (i * 18) ++ vs ++ cur1.toList.drop (i * 18 + vs.length)).toArray) :
  Calls Tryz.prog 54 #[.slice (some ⟨g, 0, none⟩) n cap, .int .i64 i, .slice (some ⟨vb, 0, none⟩) m vc] w fun e w2 => e = .returned (.slice (some ⟨g, 0, none⟩) (n + m) cap) ∧ w2 = (w.drew.setRow g cur1).setRow g cur2 := by
 have mixed : Tryz.prog.follows Departure.mixedOrders = true := by kernel_rfl
 have hz1 : ¬ ((m : Int) = 0) := by omega
 have hz2 : ¬ ((i : Int) = (n : Int)) := by omega
 have hov : ∀ lb cb, (callFunc 97 #[.slice (some ⟨vb, 0, none⟩) m vc, .slice (some ⟨g, (i + m) * 18, none⟩) lb cb]).run Tryz.prog w = .ok (.value (.bool false)) w := fun lb cb => by
  rw [run_callFunc_extern Tryz.func97 (by kernel_rfl) (by kernel_rfl) (by kernel_rfl) (e := Extern.SlicesOverlaps.overlaps #[34, 34] #[4]) (by kernel_rfl),
   Lib.run_overlaps_apart w 34 4 68 d8C 18 e5H ⟨vb, 0, none⟩ ⟨g, (i + m) * 18, none⟩ m vc lb cb hvb ev e curv.size cur.size (by simp [World.shape?, hv]) (by simp [World.shape?, hg]) (by omega) (by simp [World.frozen?, hv]) (by simp [World.frozen?, hv])]
  rfl
 have hw1 : IntKind.i64.wrap ((i : Int) + (m : Int)) = (i : Int) + (m : Int) := by rw [IntKind.wrap_i64]; unfold maxLen at hc63; omega
 have hw2 : IntKind.i64.wrap ((n : Int) + (m : Int)) = (n : Int) + (m : Int) := by rw [IntKind.wrap_i64]; unfold maxLen at hc63; omega
 have hb1 : (0 : Int) ≤ (i : Int) + (m : Int) := by omega
 have hin : i ≤ n := by omega
 have htn : ((i : Int) + (m : Int)).toNat = i + m := by omega
 have hb2 : ¬ (cap = i + m) := by omega
 have hb3 : (i : Int) ≤ (n : Int) + (m : Int) := by omega
 have hb4 : ¬ (cap = i) := by omega
 have e1 : (i + m) * 18 + (n - i) * 18 = (n + m) * 18 := by omega
 have e2 : (n + m) * 18 ≤ cap * 18 := Nat.mul_le_mul_right _ hroom
 have hcl : cs.length = (n - i) * 18 := by rw [hcs0, List.length_take, List.length_drop, Array.length_toList, hcs]; omega
 have hvl : vs.length = m * 18 := by rw [hvs0, List.length_take, Array.length_toList]; omega
 have hc1s : cur1.size = cap * 18 := by rw [hc1]; simp [hcl, hcs]; omega
 have hcp1 : ∀ ty dc sc, (Builtin.copy_ #[34, 34] ty #[.slice (some ⟨g, (i + m) * 18, none⟩) (n + m - (i + m)) dc, .slice (some ⟨g, i * 18, none⟩) (n + m - i) sc]).run Tryz.prog w.drew = .ok (goInt (Nat.min (n + m - i) (n + m - (i + m)))) (w.drew.setRow g cur1) := fun ty dc sc => by
  have hmin : Nat.min (n + m - i) (n + m - (i + m)) = n - i := by simp only [Nat.min_def]; split <;> omega
  rw [hc1]
  exact b3P w.drew 34 34 ty 68 g ((i + m) * 18) _ dc ⟨g, i * 18, none⟩ _ sc cur e cs 18 d8C d3B hg (by rw [hmin]; exact hcl)
   (fun j v hj => by
    rw [Addr.add_lit]
    have : (cur.toList.drop (i * 18))[j]? = some v := by rw [hcs0, List.getElem?_take] at hj; split at hj; exact hj; cases hj
    rw [List.getElem?_drop] at this
    have h2 : w.drew.heap[g]? = some (.cells cur e (0, 0)) := hg
    simp only [World.cell?, h2]
    simpa using this) (by omega) h1
 have hcp2 : ∀ (W : World), W.heap = (w.drew.setRow g cur1).heap → ∀ ty dc, (Builtin.copy_ #[34, 34] ty #[.slice (some ⟨g, i * 18, none⟩) (n + m - i) dc, .slice (some ⟨vb, 0, none⟩) m vc]).run Tryz.prog W = .ok (goInt (Nat.min m (n + m - i))) (W.setRow g cur2) := fun W hW ty dc => by
  rw [hc2]
  have hmin : Nat.min m (n + m - i) = m := by simp only [Nat.min_def]; split <;> omega
  exact b3P W 34 34 ty 68 g (i * 18) _ dc ⟨vb, 0, none⟩ _ vc cur1 e vs 18 d8C d3B (by rw [hW]; exact setRow_heap w.drew g cur cur1 e _ hg) (by rw [hmin]; exact hvl)
   (fun j v hj => by
    rw [Addr.add_lit]
    have : curv.toList[j]? = some v := by rw [hvs0, List.getElem?_take] at hj; split at hj; exact hj; cases hj
    have h2 : W.heap[vb]? = some (.cells curv ev (0, 0)) := by rw [hW, setRow_other w.drew g vb cur1 hvb]; exact hv
    simp only [World.cell?, h2]
    simpa using this) (by omega) h1v
 clear hc1 hc2 hcs0 hvs0 hcl hvl hc1s e1 e2
 go_enter Tryz.func54, Tryz.ntmps54
 go_wp2_with (simp only [hov])
 go_region_law_o (refine step_copy_runI rfl _ _ 34 34 rfl _ _ (by simp [Act.eval, Act.put]) (by simp [Act.eval, Act.put]) (hcp1 _ _ _) ?_)
 go_wp2_with (at_builtin; refine wpList_copy_runI _ rfl _ _ 34 34 rfl _ _ rfl rfl (hcp2 _ rfl _ _) ?_)
 go_ret
 exact ⟨rfl, rfl⟩
theorem h3K : Tryz.prog.underlying 3 = some (.int .i64) := by kernel_rfl
set_option maxHeartbeats 2000000 in
set_option maxRecDepth 100000 in
theorem d5I (n m i cap vc g vb : Nat) (cur curv ROW ROW1 ROW2 : Array Value) (cs vs olds : List Value) (e ev : TypeId) (w : World) (i0 : TypeInfo) (z : Value) (hi0 : Tryz.prog.info? 68 = some i0) (hz0 : i0.zero = some z) (hzs : i0.size = 18) (hzc : z.cells.size = 18) (hby : i0.bytes ≤ 131072)
  (hm : 0 < m) (hi : i < n) (hnc : n ≤ cap) (hroom : cap < n + m) (hlim : n + m ≤ 1073741824) (hvb : vb ≠ g)
  (hg : w.heap[g]? = some (.cells cur e (0, 0))) (hv : w.heap[vb]? = some (.cells curv ev (0, 0))) (hcs : cur.size = cap * 18) (hvs : m * 18 ≤ curv.size)
  (h1 : ∀ v ∈ cs, v.oneCell' = true) (h1v : ∀ v ∈ vs, v.oneCell' = true)
  (hol : olds = cur.toList.take (i * 18)) (hcs0 : cs = (cur.toList.drop (i * 18)).take ((n - i) * 18)) (hvs0 : vs = curv.toList.take (m * 18))
  (hROW : ROW = olds.toArray ++ Builtin.zeroCells z.cells (n + m - i) ++ Builtin.zeroCells z.cells (grownCap w (n + m) cap 68 - (n + m)))
  (hc1 : ROW1 = (ROW.toList.take (i * 18) ++ vs ++ ROW.toList.drop (i * 18 + vs.length)).toArray)
  (hc2 : ROW2 = (ROW1.toList.take ((i + m) * 18) ++ cs ++ ROW1.toList.drop ((i + m) * 18 + cs.length)).toArray) :
  Calls Tryz.prog 54 #[.slice (some ⟨g, 0, none⟩) n cap, .int .i64 i, .slice (some ⟨vb, 0, none⟩) m vc] w fun e w2 => e = .returned (.slice (some ⟨w.heap.size, 0, none⟩) (n + m) (grownCap w (n + m) cap 68)) ∧
   w2 = (((w.drew.alloc (.cells ROW 68)).setRow w.heap.size ROW1).drew).setRow w.heap.size ROW2 := by
 have mixed : Tryz.prog.follows Departure.mixedOrders = true := by kernel_rfl
 have hz1 : ¬ ((m : Int) = 0) := by omega
 have hz2 : ¬ ((i : Int) = (n : Int)) := by omega
 have hz3 : (cap : Int) < (n : Int) + (m : Int) := by omega
 have hgw : g < w.heap.size := by
  have := hg
  rcases Nat.lt_or_ge g w.heap.size with h | h
  ·
   exact h
  ·
   rw [Array.getElem?_eq_none h] at this; cases this
 have hvw : vb < w.heap.size := by
  have := hv
  rcases Nat.lt_or_ge vb w.heap.size with h | h
  ·
   exact h
  ·
   rw [Array.getElem?_eq_none h] at this; cases this
 have hkk : (n : Int) + (m : Int) - (i : Int) = ((n + m - i : Nat) : Int) := by omega
 have hik : i + (n + m - i) = n + m := by omega
 have hbytes : (n + m) * i0.bytes ≤ 140737488355328 := Nat.le_trans (Nat.mul_le_mul hlim hby) (by decide)
 have e0 : i * 18 ≤ cap * 18 := Nat.mul_le_mul_right _ (by omega)
 have holl : olds.length = i * 18 := by rw [hol, List.length_take, Array.length_toList, hcs]; omega
 have hold : (Builtin.firstCells i0.size i (.slice (some ⟨g, 0, none⟩) i cap)).run Tryz.prog w.drew = .ok olds.toArray w.drew := by
  rw [hzs]
  exact run_firstCells_some w.drew 18 i ⟨g, 0, none⟩ i cap olds holl (fun j v hj => by
   rw [Addr.add_lit]
   have : cur.toList[j]? = some v := by rw [hol, List.getElem?_take] at hj; split at hj; exact hj; cases hj
   have h2 : w.drew.heap[g]? = some (.cells cur e (0, 0)) := hg
   simp only [World.cell?, h2]
   simpa using this)
 have hrz : ∀ ty, (Builtin.append_ #[34, 3] ty #[.slice (some ⟨g, 0, none⟩) i cap, .int .i64 ((n : Int) + (m : Int) - (i : Int))]).run Tryz.prog w =
   .ok (.slice (some ⟨w.heap.size, 0, none⟩) (n + m) (grownCap w (n + m) cap 68)) (w.drew.alloc (.cells ROW 68)) := fun ty => by
  have h := Lib.run_append_grow_zeros w 34 3 ty 68 i0 z .i64 .i64 d8C h3K hi0 hz0 (some ⟨g, 0, none⟩) i cap olds hold (n + m - i) (by omega) (by omega) (by omega) (by omega) (by
   have : (n + m - i) * i0.bytes ≤ (n + m) * i0.bytes := Nat.mul_le_mul_right _ (by omega)
   omega) (by rw [hik]; exact growslice_fits hroom hbytes)
  rw [hik] at h
  rw [hkk, hROW]
  exact h
 obtain ⟨G, hG⟩ : ∃ G, G = grownCap w (n + m) cap 68 := ⟨_, rfl⟩
 have hGn : n + m ≤ G := by rw [hG]; exact grownCap_ge w _ _ _
 have hG63 : G ≤ 9223372036854775807 := by
  have := grownCap_le_maxLen w (n + m) cap 68 (by unfold maxLen; omega)
  rw [← hG] at this
  unfold maxLen at this
  omega
 rw [← hG] at hrz ⊢
 have zl : ∀ k, (Builtin.zeroCells z.cells k).size = k * 18 := fun k => by rw [size_zeroCells, hzc]
 have hRl : ROW.size = G * 18 := by
  rw [hROW, ← hG]
  simp only [Array.size_append, zl, List.size_toArray, holl]
  omega
 have e1 : (i + m) * 18 + (n - i) * 18 = (n + m) * 18 := by omega
 have e2 : (n + m) * 18 ≤ G * 18 := Nat.mul_le_mul_right _ hGn
 have e3 : n * 18 ≤ cap * 18 := Nat.mul_le_mul_right _ hnc
 have hcl : cs.length = (n - i) * 18 := by rw [hcs0, List.length_take, List.length_drop, Array.length_toList, hcs]; omega
 have hvl : vs.length = m * 18 := by rw [hvs0, List.length_take, Array.length_toList]; omega
 have hR1l : ROW1.size = G * 18 := by rw [hc1]; simp [hvl, hRl]; omega
 obtain ⟨W1, hW1⟩ : ∃ W1, W1 = w.drew.alloc (.cells ROW 68) := ⟨_, rfl⟩
 rw [← hW1] at hrz ⊢
 have hN : W1.heap[w.heap.size]? = some (.cells ROW 68 (0, 0)) := by rw [hW1]; exact b8F w.drew _
 have hOg : W1.heap[g]? = some (.cells cur e (0, 0)) := by rw [hW1, b6L w.drew _ hgw]; exact hg
 have hOv : W1.heap[vb]? = some (.cells curv ev (0, 0)) := by rw [hW1, b6L w.drew _ hvw]; exact hv
 have hcpA : ∀ (W : World), W.heap = W1.heap → ∀ ty dc, (Builtin.copy_ #[34, 34] ty #[.slice (some ⟨w.heap.size, i * 18, none⟩) (n + m - i) dc, .slice (some ⟨vb, 0, none⟩) m vc]).run Tryz.prog W = .ok (goInt (Nat.min m (n + m - i))) (W.setRow w.heap.size ROW1) := fun W hW ty dc => by
  have hmin : Nat.min m (n + m - i) = m := by simp only [Nat.min_def]; split <;> omega
  rw [hc1]
  exact b3P W 34 34 ty 68 w.heap.size (i * 18) _ dc ⟨vb, 0, none⟩ _ vc ROW 68 vs 18 d8C d3B (by rw [hW]; exact hN) (by rw [hmin]; exact hvl)
   (fun j v hj => by
    rw [Addr.add_lit]
    have : curv.toList[j]? = some v := by rw [hvs0, List.getElem?_take] at hj; split at hj; exact hj; cases hj
    have h2 : W.heap[vb]? = some (.cells curv ev (0, 0)) := by rw [hW]; exact hOv
    simp only [World.cell?, h2]
    simpa using this) (by omega) h1v
 have hcpB : ∀ (W : World), W.heap = (W1.setRow w.heap.size ROW1).heap → ∀ ty dc sc, (Builtin.copy_ #[34, 34] ty #[.slice (some ⟨w.heap.size, (i + m) * 18, none⟩) (n + m - (i + m)) dc, .slice (some ⟨g, i * 18, none⟩) (n - i) sc]).run Tryz.prog W = .ok (goInt (Nat.min (n - i) (n + m - (i + m)))) (W.setRow w.heap.size ROW2) := fun W hW ty dc sc => by
  have hmin : Nat.min (n - i) (n + m - (i + m)) = n - i := by simp only [Nat.min_def]; split <;> omega
  rw [hc2]
  exact b3P W 34 34 ty 68 w.heap.size ((i + m) * 18) _ dc ⟨g, i * 18, none⟩ _ sc ROW1 68 cs 18 d8C d3B (by rw [hW]; exact setRow_heap W1 _ ROW ROW1 68 _ hN) (by rw [hmin]; exact hcl)
   (fun j v hj => by
    rw [Addr.add_lit]
    have : (cur.toList.drop (i * 18))[j]? = some v := by rw [hcs0, List.getElem?_take] at hj; split at hj; exact hj; cases hj
    rw [List.getElem?_drop] at this
    have h2 : W.heap[g]? = some (.cells cur e (0, 0)) := by rw [hW, setRow_other W1 _ g ROW1 (by omega)]; exact hOg
    simp only [World.cell?, h2]
    simpa using this) (by omega) h1
 have hGi : ¬ (G = i) := by omega
 have hGim : ¬ (G = i + m) := by omega
 have hci : ¬ (cap = i) := by omega
 have hw1 : IntKind.i64.wrap ((i : Int) + (m : Int)) = (i : Int) + (m : Int) := by rw [IntKind.wrap_i64]; omega
 have hw2 : IntKind.i64.wrap ((n : Int) + (m : Int)) = (n : Int) + (m : Int) := by rw [IntKind.wrap_i64]; omega
 have hb1 : (0 : Int) ≤ (i : Int) + (m : Int) := by omega
 have hin : i ≤ n := by omega
 have htn : ((i : Int) + (m : Int)).toNat = i + m := by omega
 have hb3 : (i : Int) ≤ (n : Int) := by omega
 clear hc1 hc2 hROW hcs0 hvs0 hol hcl hvl hRl hR1l e0 e1 e2 e3 hold holl hkk hik hG hN hOg hOv hW1
 go_enter Tryz.func54, Tryz.ntmps54
 go_wp2_with (first
  | (at_builtin; refine Lib.wpList_append_run _ rfl _ _ _ _ rfl _ _ rfl rfl _ _ (hrz _) ?_)
  | (at_builtin; refine wpList_copy_runI _ rfl _ _ 34 34 rfl _ _ rfl rfl (hcpA _ rfl _ _) ?_)
  | (at_builtin; refine wpList_copy_runI _ rfl _ _ 34 34 rfl _ _ rfl rfl (hcpB _ rfl _ _ _) ?_))
 go_region_law_o (refine step_copy_runI rfl _ _ 34 34 rfl (.slice (some ⟨w.heap.size, (i + m) * 18, none⟩) (n + m - (i + m)) (G - (i + m))) (.slice (some ⟨g, i * 18, none⟩) (n - i) (cap - i)) (by simp [Act.eval, Act.put]) (by simp [Act.eval, Act.put]) (hcpB (W1.setRow w.heap.size ROW1).drew rfl 3 (G - (i + m)) (cap - i)) ?_)
 go_wp2
 go_ret
 exact ⟨rfl, rfl⟩
end Sym

/- slices.Insert at a slice of posters: what it does to rows. -/
namespace Sym
open Go Go.Proofs
theorem d7E {X : Type} {E : X → List Value → Prop} {s : Nat} (hl : ∀ x cs, E x cs → cs.length = s) : ∀ (l : List X) (xs : List Value) (i : Nat), b3K E l xs → b3K E (l.take i) (xs.take (i * s)) ∧ b3K E (l.drop i) (xs.drop (i * s))
 | l, xs, 0, h => by simp only [Nat.zero_mul, List.take_zero, List.drop_zero]; exact ⟨rfl, h⟩
 | [], xs, i + 1, h => by
  have h : xs = [] := h
  subst h
  simp only [List.take_nil, List.drop_nil]
  exact ⟨rfl, rfl⟩
 | x :: l, xs, i + 1, h => by
  obtain ⟨c1, c2, rfl, h1, h2⟩ := h
  have hc := hl x c1 h1
  have ⟨g1, g2⟩ := d7E hl l c2 i h2
  have e : (i + 1) * s = c1.length + i * s := by rw [hc, Nat.succ_mul]; omega
  refine ⟨⟨c1, c2.take (i * s), ?_, h1, g1⟩, ?_⟩
  ·
   rw [e, List.take_append, List.take_of_length_le (by omega), Nat.add_sub_cancel_left]
  ·
   rw [e]
   simpa using g2
theorem e4V {α : Type} {L X V C : List α} {a b c : Nat} (h1 : L.take a = X) (ha : X.length = a) (hv : V.length = b) (hc : C.length = c) (hl : a + b + c ≤ L.length) :
  (((L.take (a + b) ++ C ++ L.drop (a + b + C.length)).take a ++ V ++ (L.take (a + b) ++ C ++ L.drop (a + b + C.length)).drop (a + V.length))).length = L.length ∧
  (((L.take (a + b) ++ C ++ L.drop (a + b + C.length)).take a ++ V ++ (L.take (a + b) ++ C ++ L.drop (a + b + C.length)).drop (a + V.length))).take (a + b + c) = X ++ V ++ C := by
 have e1 : (L.take (a + b) ++ C ++ L.drop (a + b + C.length)).take a = X := by
  rw [List.append_assoc, List.take_append, List.length_take, Nat.sub_eq_zero_of_le (by omega), List.take_zero, List.append_nil, List.take_take, Nat.min_eq_left (by omega)]
  exact h1
 have e2 : (L.take (a + b) ++ C ++ L.drop (a + b + C.length)).drop (a + V.length) = C ++ L.drop (a + b + C.length) := by
  rw [List.append_assoc, hv, List.drop_append, List.drop_of_length_le (by rw [List.length_take]; omega), List.length_take, Nat.sub_eq_zero_of_le (by omega)]
  rfl
 rw [e1, e2]
 refine ⟨by simp only [List.length_append, List.length_drop]; omega, ?_⟩
 rw [← List.append_assoc, List.take_append, List.take_of_length_le (by simp only [List.length_append]; omega), Nat.sub_eq_zero_of_le (by simp only [List.length_append]; omega), List.take_zero, List.append_nil]
theorem e0W {α : Type} {L X V C : List α} {a b c : Nat} (h1 : L.take a = X) (ha : X.length = a) (hv : V.length = b) (hc : C.length = c) (hl : a + b + c ≤ L.length) :
  (((L.take a ++ V ++ L.drop (a + V.length)).take (a + b) ++ C ++ (L.take a ++ V ++ L.drop (a + V.length)).drop (a + b + C.length))).length = L.length ∧
  (((L.take a ++ V ++ L.drop (a + V.length)).take (a + b) ++ C ++ (L.take a ++ V ++ L.drop (a + V.length)).drop (a + b + C.length))).take (a + b + c) = X ++ V ++ C := by
 have e1 : (L.take a ++ V ++ L.drop (a + V.length)).take (a + b) = X ++ V := by
  rw [h1, List.take_append, List.take_of_length_le (by simp only [List.length_append]; omega), Nat.sub_eq_zero_of_le (by simp only [List.length_append]; omega), List.take_zero, List.append_nil]
 have e2 : (L.take a ++ V ++ L.drop (a + V.length)).length = L.length := by rw [h1]; simp only [List.length_append, List.length_drop]; omega
 rw [e1]
 refine ⟨by simp only [List.length_append, List.length_drop] at e2 ⊢; omega, ?_⟩
 rw [List.take_append, List.take_of_length_le (by simp only [List.length_append]; omega), Nat.sub_eq_zero_of_le (by simp only [List.length_append]; omega), List.take_zero, List.append_nil]
set_option maxRecDepth 100000 in
theorem d8E (n m i : Nat) (hd hv : Value) (xs vs : List Value) (e ev : TypeId) (w : World) (hm : 0 < m) (hi : i ≤ n) (hlim : n + m ≤ 1073741824)
  (ho : w.ownsRow 0 e 18 hd n xs) (hov : w.ownsRow 0 ev 18 hv m vs) (hne : ∀ r, a3V hd = some r → a3V hv ≠ some r)
  (h1 : ∀ v ∈ xs, v.oneCell' = true) (h1v : ∀ v ∈ vs, v.oneCell' = true) :
  Calls Tryz.prog 54 #[hd, .int .i64 i, hv] w fun en w2 => ∃ hd' e'', en = .returned hd' ∧ w2.ownsRow 0 e'' 18 hd' (n + m) (xs.take (i * 18) ++ vs ++ xs.drop (i * 18)) ∧ w.grownBy w2 (a3V hd) ∧ (∀ r, a3V hd' = some r → w.heap.size ≤ r ∨ a3V hd = some r) := by
 have ht : TI Tryz.prog 68 pT18 := e6E (by kernel_rfl)
 obtain ⟨i0, hi0, hby, hz0⟩ := ht.info
 have hz0 := hz0.resolve_right (by intro h; cases h)
 have hzs : i0.size = 18 := by have := ht.ok.size; simp [Program.cellsOf, hi0] at this; exact this
 have hcz : (mkZ pT18).cells = (a4V pT18).toArray := a6X (a3T pT18) (a9R pT18)
 have hzc : (mkZ pT18).cells.size = 18 := by rw [hcz, List.size_toArray, a3T]; rfl
 have e1 : i * 18 ≤ n * 18 := Nat.mul_le_mul_right _ hi
 rcases a6W hov with ⟨_, h0, _⟩ | ⟨vb, vc, curv, f1, f2, f3, f4, f5, f6, f7⟩
 ·
  omega
 have hvsl : m * 18 ≤ curv.size := by rw [f5]; exact Nat.mul_le_mul_right _ f3
 rcases Nat.lt_or_ge i n with hin | hin
 ·
  rcases a6W ho with ⟨_, h0, _⟩ | ⟨g, cap, cur, g1, g2, g3, g4, g5, g6, g7⟩
  ·
   omega
  have hvb : vb ≠ g := fun e => hne g (by rw [g1]; rfl) (by rw [f1, e]; rfl)
  subst g1 f1
  have hol : cur.toList.take (i * 18) = xs.take (i * 18) := by rw [← g6, List.take_take, Nat.min_eq_left e1]
  have hcs : (cur.toList.drop (i * 18)).take ((n - i) * 18) = xs.drop (i * 18) := by
   rw [← g6, List.drop_take, Nat.sub_mul]
  have hxl : xs.length = n * 18 := ho.1
  have hdl : (xs.drop (i * 18)).length = (n - i) * 18 := by rw [List.length_drop, hxl, Nat.sub_mul]
  have hvl : vs.length = m * 18 := hov.1
  have htl : (xs.take (i * 18)).length = i * 18 := by rw [List.length_take, hxl]; exact Nat.min_eq_left e1
  have e3 : i * 18 + m * 18 = (i + m) * 18 := by rw [Nat.add_mul]
  have e4 : (i + m) * 18 + (n - i) * 18 = (n + m) * 18 := by omega
  have hall : (xs.take (i * 18) ++ vs ++ xs.drop (i * 18)).length = (n + m) * 18 := by simp only [List.length_append, htl, hvl, hdl]; omega
  rcases Nat.lt_or_ge cap (n + m) with hroom | hroom
  ·
   have hw := d5I n m i cap vc g vb cur curv _ _ _ (xs.drop (i * 18)) vs (xs.take (i * 18)) e ev w i0 _ hi0 hz0 hzs hzc hby hm hin g3 hroom hlim hvb g2 f2 g5 hvsl (fun v hv => h1 v (List.mem_of_mem_drop hv)) h1v hol.symm hcs.symm f6.symm rfl rfl rfl
   obtain ⟨G, hG⟩ : ∃ G, G = grownCap w (n + m) cap 68 := ⟨_, rfl⟩
   have hGn : n + m ≤ G := by rw [hG]; exact grownCap_ge w _ _ _
   have hGm : G ≤ maxLen := by rw [hG]; exact grownCap_le_maxLen w (n + m) cap 68 (by unfold maxLen; omega)
   obtain ⟨ROW, hR⟩ : ∃ ROW : Array Value, ROW = (xs.take (i * 18)).toArray ++ Builtin.zeroCells (mkZ pT18).cells (n + m - i) ++ Builtin.zeroCells (mkZ pT18).cells (G - (n + m)) := ⟨_, rfl⟩
   rw [← hG] at hw
   rw [← hR] at hw
   have zl : ∀ k, (Builtin.zeroCells (mkZ pT18).cells k).size = k * 18 := fun k => by rw [size_zeroCells, hzc]
   have hRl : ROW.size = G * 18 := by
    rw [hR]
    simp only [Array.size_append, zl, List.size_toArray, htl]
    omega
   have hRt : ROW.toList.take (i * 18) = xs.take (i * 18) := by
    rw [hR]
    simp only [Array.toList_append, List.append_assoc]
    rw [List.take_append, htl, Nat.sub_self, List.take_zero, List.append_nil, List.take_of_length_le (by rw [htl]; exact Nat.le_refl _)]
   have ⟨q1, q2⟩ := e0W (L := ROW.toList) hRt htl hvl hdl (by rw [Array.length_toList, hRl]; omega)
   refine Calls.mono hw ?_
   rintro en w2 ⟨rfl, rfl⟩
   have hN : ((w.drew.alloc (.cells ROW 68)).setRow w.heap.size (ROW.toList.take (i * 18) ++ vs ++ ROW.toList.drop (i * 18 + vs.length)).toArray).heap[w.heap.size]? = some (.cells (ROW.toList.take (i * 18) ++ vs ++ ROW.toList.drop (i * 18 + vs.length)).toArray 68 (0, 0)) := setRow_heap _ _ ROW _ 68 _ (b8F w.drew _)
   refine ⟨_, 68, rfl, ⟨hall, .inr ⟨w.heap.size, G, _, rfl, Nat.zero_le _, setRow_heap _ _ _ _ 68 _ hN, hGn, hGm, ?_, ?_⟩⟩, ⟨rfl, rfl, rfl, by simp, fun k hk _ => ?_⟩, fun r hr => by simp only [a3V, Option.some.injEq] at hr; left; omega⟩
   ·
    rw [List.size_toArray, ← hRl, ← Array.length_toList, ← e3]
    exact q1
   ·
    rw [← e4, ← e3]
    exact q2
   ·
    rw [setRow_other _ _ k _ (by omega)]
    show ((w.drew.alloc _).setRow w.heap.size _).heap[k]? = _
    rw [setRow_other _ _ k _ (by omega)]
    exact b6L w.drew _ hk
  ·
   have hw := d4Y n m i cap vc g vb cur curv _ _ (xs.drop (i * 18)) vs e ev w hm hin hroom g4 hvb g2 f2 g5 hvsl (fun v hv => h1 v (List.mem_of_mem_drop hv)) h1v hcs.symm f6.symm rfl rfl
   have ⟨q1, q2⟩ := e4V (L := cur.toList) hol htl hvl hdl (by rw [Array.length_toList, g5]; omega)
   refine Calls.mono hw ?_
   rintro en w2 ⟨rfl, rfl⟩
   refine ⟨_, e, rfl, ⟨hall, .inr ⟨g, cap, _, rfl, Nat.zero_le _, setRow_heap _ _ _ _ e _ (setRow_heap w.drew g cur _ e _ g2), hroom, g4, ?_, ?_⟩⟩, ⟨rfl, rfl, rfl, by simp, fun k _ hk => ?_⟩, fun r hr => .inr hr⟩
   ·
    rw [List.size_toArray, ← g5, ← Array.length_toList, ← e3]
    exact q1
   ·
    rw [← e4, ← e3]
    exact q2
   ·
    have hkg : k ≠ g := fun e => hk (by rw [e]; rfl)
    rw [setRow_other _ g k _ hkg, setRow_other _ g k _ hkg]
    rfl
 ·
  have : i = n := by omega
  subst this
  subst f1
  have ht2 : TI Tryz.prog 34 (.sl pT18) := e6E (by kernel_rfl)
  obtain ⟨e63, hu, he, j0, hj0, hjb, hjz⟩ := ht2.elem pT18 rfl
  have hjz := hjz.resolve_right (by intro h; cases h)
  obtain ⟨hd', w', e'', hrun, hown, hgb, hnew⟩ := b4U (P := Tryz.prog) w 34 hu he hj0 hjb hjz (by decide) hd i xs (e' := e) ho (.slice (some ⟨vb, 0, none⟩) m vc) m rfl vs hov.1
   (fun w' hw' => by
    have hh : w'.heap = w.heap := by rcases hw' with rfl | rfl <;> rfl
    exact run_firstCells_some (P := Tryz.prog) w' 18 m ⟨vb, 0, none⟩ m vc vs hov.1 fun j v hj => by
     rw [add_lit]
     have h2 : w'.heap[vb]? = some (.cells curv ev (0, 0)) := by rw [hh]; exact f2
     have := f7 j v hj
     simp only [World.cell?, h2]
     simpa using this) h1v hlim
  have hxl : xs.length = i * 18 := ho.1
  have hdl : hd = .slice none 0 0 ∧ i = 0 ∨ ∃ g cap, hd = .slice (some ⟨g, 0, none⟩) i cap ∧ i ≤ cap ∧ cap ≤ maxLen := by
   rcases a6W ho with ⟨a1, a2, _⟩ | ⟨g, cap, cur, g1, g2, g3, g4, _⟩
   ·
    exact .inl ⟨a1, a2⟩
   ·
    exact .inr ⟨g, cap, g1, g3, g4⟩
  refine Calls.mono (d7Y i m hd _ w w' hd' hm (by omega) hdl ⟨_, _, rfl⟩ hrun) ?_
  rintro en w2 ⟨rfl, rfl⟩
  refine ⟨hd', e'', rfl, ?_, hgb, hnew⟩
  rw [← hxl, List.take_length, List.drop_length, List.append_nil]
  exact hown
end Sym

/- slices.Insert at a slice of posters: its contract. -/
namespace Sym
open Go Go.Proofs
set_option maxRecDepth 100000 in
theorem e1R (hodd : d9K Tryz.prog) : a1K Tryz.prog 54 insertC := by
 intro x y hxy c vals hS hH hargs
 obtain ⟨i, l, ys, rfl⟩ : ∃ (i : I .i64) (l ys : List pT18.D), x = ((i, ()), (l, (ys, ()))) := ⟨x.1.1, x.2.1, x.2.2.1, rfl⟩
 have hF : b6G ((i, ()), (l, (ys, ()))) = some y := hxy
 unfold b6G at hF
 simp only [a0O] at hF
 have c1 : inB' i l.length = true := by cases h : inB' i l.length with | true => rfl | false => rw [h] at hF; cases hF
 rw [c1] at hF
 have c2 : Nat.ble 1 ys.length = true := by cases h : Nat.ble 1 ys.length with | true => rfl | false => rw [h] at hF; cases hF
 rw [c2] at hF
 have c3 : a2P (l.length + ys.length) = true := by cases h : a2P (l.length + ys.length) with | true => rfl | false => rw [h] at hF; cases hF
 rw [c3] at hF
 have hy : ((), (a6E l 0 (I.nat i) ++ ys ++ a6E l (I.nat i) (l.length - I.nat i), ())) = y := Option.some.inj hF
 clear hF hxy
 subst hy
 have hH : c.H = [.row pT18 l, .row pT18 ys] := hH
 simp only [inB', Bool.and_eq_true, decide_eq_true_eq] at c1
 have hm := Nat.le_of_ble_eq_true c2
 simp only [a2P, decide_eq_true_eq] at c3
 obtain ⟨k, hk⟩ : ∃ k, k = I.nat i := ⟨_, rfl⟩
 have hki : i.val = (k : Int) := by rw [hk]; unfold I.nat; omega
 have hkl : k ≤ l.length := by omega
 have b0 : a0J c.H 0 = .row pT18 l := by rw [hH]; rfl
 have b1 : a0J c.H 1 = .row pT18 ys := by rw [hH]; rfl
 match vals, hargs with
 | [v0, v1, v2], hargs =>
  obtain ⟨h0, h1, h2, _⟩ := hargs
  have whole : ∀ b t (l : List t.D) v, a0J c.H b = .row t l → VOk c (.whole b) v → v = c.ρ b := by
   intro b t l v hb hv
   obtain ⟨cs, ⟨u, rfl, _, hw⟩, hxv⟩ := hv
   unfold a8I at hw
   simp only [hb] at hw
   rw [← hw]
   exact hxv
  have e0 := whole 0 pT18 l v0 b0 h0
  have e2 := whole 1 pT18 ys v2 b1 h2
  have e1 := b1E h1
  subst e0 e1 e2
  have hM := hS.mem
  have B0 := hS.blk 0
  have B1 := hS.blk 1
  unfold BlkOk at B0 B1
  simp only [b0] at B0
  simp only [b1] at B1
  obtain ⟨hl0, ee0, xs, ho0, hx0⟩ := B0
  obtain ⟨hl1, ee1, vs, ho1, hx1⟩ := B1
  have hne : ∀ r, a3V (c.ρ 0) = some r → a3V (c.ρ 1) ≠ some r := fun r q1 q2 => by
   have := hS.inj 0 1 r (by rw [b0]; rfl) (by rw [b1]; rfl) q1 q2
   cases this
  have hc := d8E l.length ys.length k (c.ρ 0) (c.ρ 1) xs vs ee0 ee1 c.w hm hkl c3 ho0 ho1 hne (c0J l xs hx0) (c0J ys vs hx1)
  have hfn : Tryz.prog.funcs[54]? = some Tryz.f54 := Tryz.func54
  obtain ⟨body, hbd⟩ : ∃ b, Tryz.f54.body = some b := ⟨_, rfl⟩
  right
  rw [hki]
  refine ⟨b2W hfn hbd (hodd 54 _ hfn), Calls.mono hc ?_⟩
  rintro en w2 ⟨hd', e'', rfl, ho2, hg, hnew⟩
  refine ⟨hd', rfl, ?_⟩
  have ⟨t1, t2⟩ := d7E (fun x cs => a2L pT18 x cs) l xs k hx0
  have hlen : (l.take k ++ ys ++ l.drop k).length = l.length + ys.length := by
   simp only [List.length_append, List.length_take, List.length_drop]; omega
  obtain ⟨c', k1, k2, k3, k4, k5⟩ := mem_row hM (nb := 2) (by rw [hH]; rfl) (t := pT18) (l := l.take k ++ ys ++ l.drop k) (a3V (c.ρ 0)) hg (by rw [hlen]; exact ho2) (c1B _ _ _ _ (c1B _ _ _ _ t1 hx1) t2) (by rw [hlen]; simp only [LIM]; omega) (some 0)
   (fun i h => by cases h; exact ⟨by rw [b0]; rfl, by decide⟩) (fun r h _ => ⟨0, rfl, h⟩) (fun r h => (hnew r h).imp _root_.id fun h => ⟨0, rfl, h⟩)
  have hsub : a6E l 0 (I.nat i) ++ ys ++ a6E l (I.nat i) (l.length - I.nat i) = l.take k ++ ys ++ l.drop k := by
   rw [← hk]
   simp only [a6E, List.drop_zero]
   rw [List.take_of_length_le (l := l.drop k) (by rw [List.length_drop]; exact Nat.le_refl _)]
  have hH' : c'.H = [.dead, .row pT18 ys, .row pT18 (l.take k ++ ys ++ l.drop k)] := by rw [k2, hH]; rfl
  obtain ⟨m, hz⟩ : ∃ m, insertC.Out.ext [.whole 2] c'.H = some (((), (l.take k ++ ys ++ l.drop k, ())), m) := by
   rw [hH']
   exact ⟨_, rfl⟩
  obtain ⟨c2, w2', hh2, hM2, hargs2⟩ := d7G k4 hz
  obtain ⟨us', q1, q2, q3⟩ := hargs2 [hd'] ⟨k5, trivial⟩
  have hus : us' = [hd'] := by
   match us', q2 with
   | [u], _ =>
    have h3 : u = hd' := by simpa using congrArg List.head? q1.symm
    rw [h3]
  subst hus
  refine ⟨c2, w2'.trans k1, ?_, ?_, hM2, fun i hi => ?_⟩
  ·
   rw [hh2, ← hsub]
  ·
   exact q3.1
  ·
   exact absurd hi (Nat.not_lt_zero i)
end Sym
