/- The law ScriptDecode returns true at every input of bulk at most 1048576, as its second form says. The conditions: none beyond those of the statement itself. -/
import Derived.Test.YtlcgmghodojmaaaGreatRows
import Derived.WalkKit
import Derived.ProofKit
import Derived.JoinedCond
import Derived.Deep.CondSized
import Derived.Test.YtlcgmghodojmaaaGreatPart4
namespace Go.Proofs.YtlcgmghodojmaaaGreat.scriptDecode
open Go.ChangeShapes Go.WideShapes Go.ChangeAt Go.RowKit Sym
theorem own:ownKnob Tryz.prog.godebug = none:=by kernel_rfl
theorem laidOut:laidOutB Tryz.prog = true:=by kernel_rfl
theorem oneLe {H:Type} (d:DataW H):1 ≤ Rows.uptoBulk d:=by
  cases d with
  | lit l=>cases l <;> simp [Rows.uptoBulk]
  | nil=>simp [Rows.uptoBulk]
  | ptr d=>simp [Rows.uptoBulk]
  | slice elems spare=>simp [Rows.uptoBulk]
  | agg parts=>simp [Rows.uptoBulk]
  | iface t d=>simp [Rows.uptoBulk]
  | map entries=>simp [Rows.uptoBulk]
  | held h=>simp [Rows.uptoBulk]
theorem allSum {H:Type} (l:List (DataW H)):Rows.uptoBulkAll l = (l.map Rows.uptoBulk).sum:=by
  induction l with
  | nil=>rfl
  | cons d r ih=>simp only [Rows.uptoBulkAll,List.map_cons,List.sum_cons,ih]
theorem slLe {H:Type} (es sp:List (DataW H)):(es.map Rows.uptoBulk).sum + 1 ≤ Rows.uptoBulk (.slice es sp):=by
  simp only [Rows.uptoBulk,allSum]
  omega
theorem small {H:Type} {ds gs:List (DataW H)} (hk:Rows.uptoSmall H (ds ++ gs) = true):(ds.map Rows.uptoBulk).sum ≤ 1048576:=by
  have h:Rows.uptoBulkAll (ds ++ gs) ≤ 1048576:=of_decide_eq_true hk
  rw [allSum,List.map_append,List.sum_append] at h
  omega
set_option maxRecDepth 100000 in
theorem lifted (os : Os) (started : os.Started) (H : Type) (enc : TypeId × Value → H) (F : Stop.Interp) :
    ReturnsInHanded {} Tryz.checked os 3 .any ((Rows.OpenSpec.upto Rows.scriptDecodeSpec).pre6 enc Tryz.prog Tryz.f3 Rows.scriptDecodeUptoRow.domain false) (((Rows.OpenSpec.upto Rows.scriptDecodeSpec).at F).post enc Tryz.prog Tryz.f3 false true false false):=by
  refine returnsInHanded_of_cond_sized (C:=Tryz.checked) (s:=Rows.OpenSpec.upto Rows.scriptDecodeSpec) (k:=Rows.uptoSmall) rfl own started (by kernel_rfl) Tryz.func3
    (OpenSpec.witness (enc:=enc) (C:=Tryz.checked) (s:=Rows.OpenSpec.upto Rows.scriptDecodeSpec) (k:=Rows.uptoSmall) rfl false ⟨#[],#[.slice none 0 0,.slice none 0 0,.int .i64 0,.int .u8 0],[]⟩ 8 (by kernel_rfl) (by kernel_rfl) (by kernel_rfl)
      (x:=([.nil,.nil,.lit (.int .i64 0),.lit (.int .u8 0)],[],[])) (by kernel_rfl) rfl (by kernel_rfl)) ?_
  intro W base args ds gs before hval hW _ hk hsz _
  have hargs:argsB Tryz.checked.prog [(.sl (.int .u8)),(.sl (.sl (.int .u8))),(.int .i64),(.int .u8)] Tryz.f3.params.toList = true:=by kernel_rfl
  exact row_of_con2 (C:=Tryz.checked) (fn:=Tryz.f3) (s:=Rows.scriptDecodeSpec) (ts:=[(.sl (.int .u8)),(.sl (.sl (.int .u8))),(.int .i64),(.int .u8)]) (F:=pontagelaw29_ScriptDecode K0) laidOut Tryz.func3 (by kernel_rfl) (by kernel_rfl) hargs rfl Tryz.underlying4 rfl
    (fun ds h=>match ds,h with | [_,_,_,_],_=>rfl) (ok3) base args ds gs before hval hW (fun x p hA hbd hx=>by
      have hb:=Nat.le_trans (args_bulk (B:=Rows.uptoBulk) slLe oneLe [(.sl (.int .u8)),(.sl (.sl (.int .u8))),(.int .i64),(.int .u8)] Tryz.f3.params.toList args.toList ds p x hargs hA hx) (small hk)
      exact scriptDec_law x.1 x.2.1 x.2.2.1 x.2.2.2.1 hbd.1.1 (Nat.le_trans (show bulkL x.2.1 ≤ 0 + (bulkL x.2.1 + (0 + (0 + 0))) by omega) hb)) hsz
theorem c0:(Rows.scriptDecodeUptoRow.inPlace == Tryz.pinned.checked.prog.inPlace 3) = true:=by kernel_rfl
theorem c1:(Rows.scriptDecodeUptoRow.unfollowed == Tryz.pinned.checked.prog.unfollowed 3) = true:=by kernel_rfl
theorem c2:(Rows.scriptDecodeUptoRow.recurses == Tryz.pinned.checked.prog.recurses 3) = true:=by kernel_rfl
theorem c3:(Rows.scriptDecodeUptoRow.named == Tryz.pinned.checked.prog.varsNamed 3) = true:=by kernel_rfl
theorem c4:(mapsRowed Tryz.pinned.checked.prog) = true:=by kernel_rfl
theorem closed:joinedFacts Tryz.pinned.checked.prog 3 Tryz.f3 (Rows.OpenSpec.upto Rows.scriptDecodeSpec).bare Rows.scriptDecodeUptoRow = true:=by
  unfold joinedFacts
  rw [c0,c1,c2,c3,c4]
  kernel_rfl
theorem over:Rows.scriptDecodeUptoRow.holds Tryz.pinned (Rows.OpenSpec.upto Rows.scriptDecodeSpec) :=
  OpenClaim.holds_of_cond 3 Tryz.f3 rfl rfl rfl rfl rfl rfl rfl ⟨rfl,rfl,rfl,rfl,rfl⟩ rfl rfl rfl rfl rfl (by kernel_rfl) Tryz.func3 closed
    (of_decide_eq_true (by kernel_rfl)) (by unfold Func.isWrapper; first | (rw [if_pos (by decide +kernel)]; kernel_rfl) | (rw [if_neg (by decide +kernel)]; exact ⟨rfl,rfl⟩))
    (fun os started H enc _ F=>lifted os started H enc F)
theorem proved:Rows.ScriptDecodeUptoSaid:=over
end Go.Proofs.YtlcgmghodojmaaaGreat.scriptDecode
namespace Go.Proofs.YtlcgmghodojmaaaGreat
theorem scriptDecodeUpto_holds:Rows.ScriptDecodeUptoSaid:=scriptDecode.proved
#print axioms scriptDecodeUpto_holds
end Go.Proofs.YtlcgmghodojmaaaGreat
