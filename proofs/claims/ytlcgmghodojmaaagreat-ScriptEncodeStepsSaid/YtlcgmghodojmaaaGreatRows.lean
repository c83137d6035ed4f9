/-
  No cell of these rows narrows 'for every input' (looked for: loops, veiled, ifaces, maps, wideKeys, modest, calm, conditions, laid).
  DERIVED. THE GIVEN ROWS OF THIS SEAT. 6 by the template 'for every input the law returns true; each argument reads behind the call as it read before'; 0 by the template 'total and deterministic' (their statements: YtlcgmghodojmaaaGreatTotals.lean).
  GIVEN WITH THE SEED: the statements are not yours to turn. If you find one false, say at which input.
  Laid BY PROGRAM, IN A SANDBOX (cutbox-rows.mjs): the forced cells as the released guide's own fill.sh prints them over the translation 7ab04e7118fa88f4… (all of the seat's roots in one cut). By AI agents, Wed Nov 11 2026. No macro, syntax, notation, axiom, sorry.
-/
import Derived.Test.YtlcgmghodojmaaaGreatChecked
import GoSem.Claim
import GoSem.ClaimJoined
import GoSem.ClaimMapViews
import Derived.JoinedTies
import Derived.KernelRfl
namespace Go.Proofs.YtlcgmghodojmaaaGreat
/- THE CELL 'sum', in the pinned program and in every row, IS THE sha256 OF THE DUMP (.gsa) THAT YtlcgmghodojmaaaGreatProg.lean LOADS. Nothing in Lean hashes anything: it is a label: what it is worth is what the hold of that sum in a sandbox is worth. -/
noncomputable def Tryz.pinned : Pinned := { name := "ytlcgmghodojmaaagreat", sum := "7ab04e7118fa88f4a5cd1da726d8f4e516f92e881e40d79e009b729faf059ec0", checked := Tryz.checked }
namespace Rows
def none {H : Type} : Left H := { results := [], args := [] }

/-- 'pontagelaw29.ScriptDecode': WHATEVER THE INPUT: true; the input reads as it did. -/
def scriptDecodeSpec : ChangeSpec := { name := "scriptDecode", fn := fun _ => fun
  | [d1, d2, d3, d4] => { results := [.lit (.bool true)], args := [d1, d2, d3, d4] }
  | _ => none }
def scriptDecodeRow : OpenClaim := { program := "ytlcgmghodojmaaagreat", sum := "7ab04e7118fa88f4a5cd1da726d8f4e516f92e881e40d79e009b729faf059ec0", func := "pontage/pontagelaw29.ScriptDecode", spec := "scriptDecode", inPlace := ["math/bits.Add64", "math/bits.Sub64", "slices.overlaps[pontage/api.Account]", "slices.overlaps[pontage/api.Poster]", "slices.overlaps[pontage/api.Payment]"], unfollowed := true, recurses := true, named := ["math/bits.divideError", "math/bits.overflowError"], apart := false }
def ScriptDecodeSaid : Prop := scriptDecodeRow.holds Tryz.pinned (OpenSpec.ofChange scriptDecodeSpec)

/-- ITS FALSE NEIGHBOUR: 'it returns false'. Refute it at one input. -/
def scriptDecodeWrong : ChangeSpec := { name := "scriptDecode", fn := fun _ => fun
  | [d1, d2, d3, d4] => { results := [.lit (.bool false)], args := [d1, d2, d3, d4] }
  | _ => none }
def ScriptDecodeWrongFalsely : Prop := scriptDecodeRow.holds Tryz.pinned (OpenSpec.ofChange scriptDecodeWrong)

/-- 'pontagelaw29.ScriptPrefix': WHATEVER THE INPUT: true; the input reads as it did. -/
def scriptPrefixSpec : ChangeSpec := { name := "scriptPrefix", fn := fun _ => fun
  | [d1, d2, d3] => { results := [.lit (.bool true)], args := [d1, d2, d3] }
  | _ => none }
def scriptPrefixRow : OpenClaim := { program := "ytlcgmghodojmaaagreat", sum := "7ab04e7118fa88f4a5cd1da726d8f4e516f92e881e40d79e009b729faf059ec0", func := "pontage/pontagelaw29.ScriptPrefix", spec := "scriptPrefix", inPlace := ["math/bits.Add64", "math/bits.Sub64", "slices.overlaps[pontage/api.Account]", "slices.overlaps[pontage/api.Poster]", "slices.overlaps[pontage/api.Payment]"], unfollowed := true, recurses := true, named := ["math/bits.divideError", "math/bits.overflowError"], apart := false }
def ScriptPrefixSaid : Prop := scriptPrefixRow.holds Tryz.pinned (OpenSpec.ofChange scriptPrefixSpec)

/-- ITS FALSE NEIGHBOUR: 'it returns false'. Refute it at one input. -/
def scriptPrefixWrong : ChangeSpec := { name := "scriptPrefix", fn := fun _ => fun
  | [d1, d2, d3] => { results := [.lit (.bool false)], args := [d1, d2, d3] }
  | _ => none }
def ScriptPrefixWrongFalsely : Prop := scriptPrefixRow.holds Tryz.pinned (OpenSpec.ofChange scriptPrefixWrong)

/-- 'pontagelaw29.ScriptComposition': WHATEVER THE INPUT: true; the input reads as it did. -/
def scriptCompositionSpec : ChangeSpec := { name := "scriptComposition", fn := fun _ => fun
  | [d1, d2, d3] => { results := [.lit (.bool true)], args := [d1, d2, d3] }
  | _ => none }
def scriptCompositionRow : OpenClaim := { program := "ytlcgmghodojmaaagreat", sum := "7ab04e7118fa88f4a5cd1da726d8f4e516f92e881e40d79e009b729faf059ec0", func := "pontage/pontagelaw29.ScriptComposition", spec := "scriptComposition", inPlace := ["math/bits.Add64", "math/bits.Sub64", "slices.overlaps[pontage/api.Account]", "slices.overlaps[pontage/api.Poster]", "slices.overlaps[pontage/api.Payment]"], unfollowed := true, recurses := true, named := ["math/bits.divideError", "math/bits.overflowError"], apart := false }
def ScriptCompositionSaid : Prop := scriptCompositionRow.holds Tryz.pinned (OpenSpec.ofChange scriptCompositionSpec)

/-- ITS FALSE NEIGHBOUR: 'it returns false'. Refute it at one input. -/
def scriptCompositionWrong : ChangeSpec := { name := "scriptComposition", fn := fun _ => fun
  | [d1, d2, d3] => { results := [.lit (.bool false)], args := [d1, d2, d3] }
  | _ => none }
def ScriptCompositionWrongFalsely : Prop := scriptCompositionRow.holds Tryz.pinned (OpenSpec.ofChange scriptCompositionWrong)

/-- 'pontagelaw29.ScriptRun': WHATEVER THE INPUT: true; the input reads as it did. -/
def scriptRunSpec : ChangeSpec := { name := "scriptRun", fn := fun _ => fun
  | [d1, d2, d3] => { results := [.lit (.bool true)], args := [d1, d2, d3] }
  | _ => none }
def scriptRunRow : OpenClaim := { program := "ytlcgmghodojmaaagreat", sum := "7ab04e7118fa88f4a5cd1da726d8f4e516f92e881e40d79e009b729faf059ec0", func := "pontage/pontagelaw29.ScriptRun", spec := "scriptRun", inPlace := ["math/bits.Add64", "math/bits.Sub64", "slices.overlaps[pontage/api.Account]", "slices.overlaps[pontage/api.Poster]", "slices.overlaps[pontage/api.Payment]"], unfollowed := true, recurses := true, named := ["math/bits.divideError", "math/bits.overflowError"], apart := false }
def ScriptRunSaid : Prop := scriptRunRow.holds Tryz.pinned (OpenSpec.ofChange scriptRunSpec)

/-- ITS FALSE NEIGHBOUR: 'it returns false'. Refute it at one input. -/
def scriptRunWrong : ChangeSpec := { name := "scriptRun", fn := fun _ => fun
  | [d1, d2, d3] => { results := [.lit (.bool false)], args := [d1, d2, d3] }
  | _ => none }
def ScriptRunWrongFalsely : Prop := scriptRunRow.holds Tryz.pinned (OpenSpec.ofChange scriptRunWrong)

/-- 'pontagelaw29.ScriptEncode': WHATEVER THE INPUT: true; the input reads as it did. -/
def scriptEncodeSpec : ChangeSpec := { name := "scriptEncode", fn := fun _ => fun
  | [d] => { results := [.lit (.bool true)], args := [d] }
  | _ => none }
def scriptEncodeRow : OpenClaim := { program := "ytlcgmghodojmaaagreat", sum := "7ab04e7118fa88f4a5cd1da726d8f4e516f92e881e40d79e009b729faf059ec0", func := "pontage/pontagelaw29.ScriptEncode", spec := "scriptEncode", inPlace := ["math/bits.Add64", "math/bits.Sub64", "slices.overlaps[pontage/api.Account]", "slices.overlaps[pontage/api.Poster]", "slices.overlaps[pontage/api.Payment]"], unfollowed := true, recurses := true, named := ["math/bits.divideError", "math/bits.overflowError"], apart := false }
def ScriptEncodeSaid : Prop := scriptEncodeRow.holds Tryz.pinned (OpenSpec.ofChange scriptEncodeSpec)

/-- ITS FALSE NEIGHBOUR: 'it returns false'. Refute it at one input. -/
def scriptEncodeWrong : ChangeSpec := { name := "scriptEncode", fn := fun _ => fun
  | [d] => { results := [.lit (.bool false)], args := [d] }
  | _ => none }
def ScriptEncodeWrongFalsely : Prop := scriptEncodeRow.holds Tryz.pinned (OpenSpec.ofChange scriptEncodeWrong)

/-- 'pontagelaw29.ScriptEncodeSteps': WHATEVER THE INPUT: true; the input reads as it did. -/
def scriptEncodeStepsSpec : ChangeSpec := { name := "scriptEncodeSteps", fn := fun _ => fun
  | [d1, d2, d3] => { results := [.lit (.bool true)], args := [d1, d2, d3] }
  | _ => none }
def scriptEncodeStepsRow : OpenClaim := { program := "ytlcgmghodojmaaagreat", sum := "7ab04e7118fa88f4a5cd1da726d8f4e516f92e881e40d79e009b729faf059ec0", func := "pontage/pontagelaw29.ScriptEncodeSteps", spec := "scriptEncodeSteps", inPlace := ["math/bits.Add64", "math/bits.Sub64", "slices.overlaps[pontage/api.Account]", "slices.overlaps[pontage/api.Poster]", "slices.overlaps[pontage/api.Payment]"], unfollowed := true, recurses := true, named := ["math/bits.divideError", "math/bits.overflowError"], apart := false }
def ScriptEncodeStepsSaid : Prop := scriptEncodeStepsRow.holds Tryz.pinned (OpenSpec.ofChange scriptEncodeStepsSpec)

/-- ITS FALSE NEIGHBOUR: 'it returns false'. Refute it at one input. -/
def scriptEncodeStepsWrong : ChangeSpec := { name := "scriptEncodeSteps", fn := fun _ => fun
  | [d1, d2, d3] => { results := [.lit (.bool false)], args := [d1, d2, d3] }
  | _ => none }
def ScriptEncodeStepsWrongFalsely : Prop := scriptEncodeStepsRow.holds Tryz.pinned (OpenSpec.ofChange scriptEncodeStepsWrong)

/- THE SECOND FORM. 'bulk': how many values and letters a reading holds, each counted each time it is reached (what is shared counts as often as it is met; a slice's spare places count too). A statement '..UptoSaid' is the law's where the arguments, and the package variables that the reading takes, are together of bulk at most 1048576: NARROWER than '..Said'. Prove '..Said' where nothing that the law and all that it calls make is longer than what came in: it says more and counts as full. Else prove '..UptoSaid'. A law counts once. -/
mutual
def uptoBulk {H : Type} : DataW H → Nat
  | .lit (.string bytes) => bytes.length + 1
  | .lit _ => 1
  | .nil => 1
  | .ptr d => uptoBulk d + 1
  | .slice elems spare => uptoBulkAll elems + uptoBulkAll spare + 1
  | .agg parts => uptoBulkAll parts + 1
  | .iface _ d => uptoBulk d + 1
  | .map entries => uptoBulkEntries entries + 1
  | .held _ => 1
def uptoBulkAll {H : Type} : List (DataW H) → Nat
  | [] => 0
  | d :: r => uptoBulk d + uptoBulkAll r
def uptoBulkEntries {H : Type} : List (Lit × DataW H) → Nat
  | [] => 0
  | x :: r => uptoBulkEntry x + uptoBulkEntries r
def uptoBulkEntry {H : Type} : Lit × DataW H → Nat
  | (.string bytes, d) => bytes.length + uptoBulk d + 1
  | (_, d) => uptoBulk d + 1
 end
def uptoSmall : (H : Type) → List (DataW H) → Bool := fun _ ds => decide (uptoBulkAll ds ≤ 1048576)
def OpenSpec.upto (s : _root_.Go.ChangeSpec) : _root_.Go.OpenSpec := { _root_.Go.OpenSpec.ofChange s with cond := some uptoSmall }

/-- 'pontagelaw29.ScriptDecode', WHERE WHAT IT READS IS OF BULK AT MOST 1048576: true; the input reads as it did. -/
def scriptDecodeUptoRow : OpenClaim := { program := "ytlcgmghodojmaaagreat", sum := "7ab04e7118fa88f4a5cd1da726d8f4e516f92e881e40d79e009b729faf059ec0", func := "pontage/pontagelaw29.ScriptDecode", spec := "scriptDecode", inPlace := ["math/bits.Add64", "math/bits.Sub64", "slices.overlaps[pontage/api.Account]", "slices.overlaps[pontage/api.Poster]", "slices.overlaps[pontage/api.Payment]"], unfollowed := true, recurses := true, named := ["math/bits.divideError", "math/bits.overflowError"], apart := false, narrowed := true }
def ScriptDecodeUptoSaid : Prop := scriptDecodeUptoRow.holds Tryz.pinned (OpenSpec.upto scriptDecodeSpec)

/-- 'pontagelaw29.ScriptPrefix', WHERE WHAT IT READS IS OF BULK AT MOST 1048576: true; the input reads as it did. -/
def scriptPrefixUptoRow : OpenClaim := { program := "ytlcgmghodojmaaagreat", sum := "7ab04e7118fa88f4a5cd1da726d8f4e516f92e881e40d79e009b729faf059ec0", func := "pontage/pontagelaw29.ScriptPrefix", spec := "scriptPrefix", inPlace := ["math/bits.Add64", "math/bits.Sub64", "slices.overlaps[pontage/api.Account]", "slices.overlaps[pontage/api.Poster]", "slices.overlaps[pontage/api.Payment]"], unfollowed := true, recurses := true, named := ["math/bits.divideError", "math/bits.overflowError"], apart := false, narrowed := true }
def ScriptPrefixUptoSaid : Prop := scriptPrefixUptoRow.holds Tryz.pinned (OpenSpec.upto scriptPrefixSpec)

/-- 'pontagelaw29.ScriptComposition', WHERE WHAT IT READS IS OF BULK AT MOST 1048576: true; the input reads as it did. -/
def scriptCompositionUptoRow : OpenClaim := { program := "ytlcgmghodojmaaagreat", sum := "7ab04e7118fa88f4a5cd1da726d8f4e516f92e881e40d79e009b729faf059ec0", func := "pontage/pontagelaw29.ScriptComposition", spec := "scriptComposition", inPlace := ["math/bits.Add64", "math/bits.Sub64", "slices.overlaps[pontage/api.Account]", "slices.overlaps[pontage/api.Poster]", "slices.overlaps[pontage/api.Payment]"], unfollowed := true, recurses := true, named := ["math/bits.divideError", "math/bits.overflowError"], apart := false, narrowed := true }
def ScriptCompositionUptoSaid : Prop := scriptCompositionUptoRow.holds Tryz.pinned (OpenSpec.upto scriptCompositionSpec)

/-- 'pontagelaw29.ScriptRun', WHERE WHAT IT READS IS OF BULK AT MOST 1048576: true; the input reads as it did. -/
def scriptRunUptoRow : OpenClaim := { program := "ytlcgmghodojmaaagreat", sum := "7ab04e7118fa88f4a5cd1da726d8f4e516f92e881e40d79e009b729faf059ec0", func := "pontage/pontagelaw29.ScriptRun", spec := "scriptRun", inPlace := ["math/bits.Add64", "math/bits.Sub64", "slices.overlaps[pontage/api.Account]", "slices.overlaps[pontage/api.Poster]", "slices.overlaps[pontage/api.Payment]"], unfollowed := true, recurses := true, named := ["math/bits.divideError", "math/bits.overflowError"], apart := false, narrowed := true }
def ScriptRunUptoSaid : Prop := scriptRunUptoRow.holds Tryz.pinned (OpenSpec.upto scriptRunSpec)

/-- 'pontagelaw29.ScriptEncode', WHERE WHAT IT READS IS OF BULK AT MOST 1048576: true; the input reads as it did. -/
def scriptEncodeUptoRow : OpenClaim := { program := "ytlcgmghodojmaaagreat", sum := "7ab04e7118fa88f4a5cd1da726d8f4e516f92e881e40d79e009b729faf059ec0", func := "pontage/pontagelaw29.ScriptEncode", spec := "scriptEncode", inPlace := ["math/bits.Add64", "math/bits.Sub64", "slices.overlaps[pontage/api.Account]", "slices.overlaps[pontage/api.Poster]", "slices.overlaps[pontage/api.Payment]"], unfollowed := true, recurses := true, named := ["math/bits.divideError", "math/bits.overflowError"], apart := false, narrowed := true }
def ScriptEncodeUptoSaid : Prop := scriptEncodeUptoRow.holds Tryz.pinned (OpenSpec.upto scriptEncodeSpec)

/-- 'pontagelaw29.ScriptEncodeSteps', WHERE WHAT IT READS IS OF BULK AT MOST 1048576: true; the input reads as it did. -/
def scriptEncodeStepsUptoRow : OpenClaim := { program := "ytlcgmghodojmaaagreat", sum := "7ab04e7118fa88f4a5cd1da726d8f4e516f92e881e40d79e009b729faf059ec0", func := "pontage/pontagelaw29.ScriptEncodeSteps", spec := "scriptEncodeSteps", inPlace := ["math/bits.Add64", "math/bits.Sub64", "slices.overlaps[pontage/api.Account]", "slices.overlaps[pontage/api.Poster]", "slices.overlaps[pontage/api.Payment]"], unfollowed := true, recurses := true, named := ["math/bits.divideError", "math/bits.overflowError"], apart := false, narrowed := true }
def ScriptEncodeStepsUptoSaid : Prop := scriptEncodeStepsUptoRow.holds Tryz.pinned (OpenSpec.upto scriptEncodeStepsSpec)

end Rows
end Go.Proofs.YtlcgmghodojmaaaGreat
