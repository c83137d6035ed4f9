/- The laws of single operations, ninth part: arrays sliced, rows made, lengths, the smaller and the greater. -/
import Derived.Laws.CopyRow
import Derived.Laws.Sem
import Derived.Test.YtmjjppoaianfmaaPart1
namespace Sym
open Go
section
variable {P : Program} {base : World} {G0 own0 : Nat → Prop} {o : Oper} {a : Act} {c : Cx}

theorem law_slice_nils (hM : Mem base G0 own0 c) {id : TypeId} {x : Operand} {lo hi : Option Operand} (ho : o.op = .slice id x lo hi none) {t : Ty} (ht : TOk P (.sl t) id) {bs : List PV} (ha : All2 (VOk c) bs (lo.toList.map a.eval ++ hi.toList.map a.eval))
    {n : Nat} {b1 b2 : Bool × Nat} (hb : slcBounds (lenPV c.H .nils) lo.isSome hi.isSome bs = some (n, b1, b2)) (h1 : b1.1 = true) (h2 : b2.1 = true) (hx : VOk c .nils (a.eval x)) : OpRes P base G0 own0 o a c .nils [] := by
  obtain ⟨cs, hc, hv⟩ := hx
  simp only [CellsPV] at hc
  subst hc
  obtain ⟨hr1, hle, hle', hn⟩ := run_bounds (P := P) lo hi bs ha hb h1 h2 true n (Nat.le_refl _) c.w
  simp only [lenPV, Option.some.injEq] at hn
  subst hn
  have e2 : b2.2 = 0 := by omega
  have e1 : b1.2 = 0 := by omega
  refine opres_pure hM (v := .slice none 0 0) ?_ ⟨_, rfl, rfl⟩
  have hv : a.eval x = .slice none 0 0 := hv
  rw [exec_slice ho, hv]
  have := run_sliceAt_sl ht none 0 0 b1.2 b2.2 _ _ c.w hr1
  simp only [Sem.run_bind, this, Result.andThen_ok, Sem.run_pure, e1, e2]
  rfl

theorem law_slice_arr (hM : Mem base G0 own0 c) {id : TypeId} {x : Operand} {lo hi : Option Operand} (ho : o.op = .slice id x lo hi none) {m : Nat} {t : Ty} (ht : TOk P (.arr m t) id) {bs : List PV} (ha : All2 (VOk c) bs (lo.toList.map a.eval ++ hi.toList.map a.eval))
    {b : Nat} {p : List Step} {s : Ty} {v0 : PV} (hbl : blkAt c.H b = .box s v0) (hp : ptrIs c.H b p (.arr m t) = true) (hm : m ≤ 1048576) {n : Nat} {b1 b2 : Bool × Nat} (hb : slcBounds (some m) lo.isSome hi.isSome bs = some (n, b1, b2)) (h1 : b1.1 = true) (h2 : b2.1 = true)
    (hx : VOk c (.ptr b p) (a.eval x)) : OpRes P base G0 own0 o a c (.aview b p b1.2 (b2.2 - b1.2)) [] := by
  have hptr := v_ptr hx
  unfold PtrOk at hptr
  unfold ptrIs at hp
  simp only [hbl] at hptr hp
  obtain ⟨r, off, u, e1, e2, hv⟩ := hptr
  have := tyIs_off hp e2
  subst this
  obtain ⟨_, _, _, hn⟩ := run_bounds (P := P) lo hi bs ha hb h1 h2 false n (Nat.le_refl _) c.w
  simp only [Option.some.injEq] at hn
  subst hn
  obtain ⟨hr1, hle, hle', _⟩ := run_bounds (P := P) lo hi bs ha hb h1 h2 false m (Nat.le_refl _) c.w
  obtain ⟨_, e, hu, he⟩ := ht
  refine opres_pure hM (v := .slice (some (if m = b1.2 then ⟨r, off, none⟩ else (⟨r, off, none⟩ : Addr).add (b1.2 * t.sz))) (b2.2 - b1.2) (m - b1.2)) ?_ ⟨[_], ⟨_, rfl, rfl, ?_⟩, rfl⟩
  · rw [exec_slice ho, hv]
    unfold Instr.sliceAt
    simp only [Sem.run_bind, run_underlying hu, Result.andThen_ok, Instr.sureAddr, Sem.run_pure, hr1, he.run_size]
  · unfold AviewOk
    simp only [hbl]
    refine ⟨r, off, m, t, e1, e2, by omega, by simp only [LIM]; omega, ?_⟩
    by_cases h0 : b2.2 - b1.2 = 0
    · left; exact ⟨h0, _, _, by rw [h0]⟩
    · right
      exact ⟨m - b1.2, by rw [if_neg (by omega), add_lit], by omega, by omega⟩

theorem exec_builtin {k : Call} (ho : o.op = .call k) {b : Builtin} (hk : k.callee = .builtin b) : ∃ cs, execOp a.eval o = builtin b k.argTypes o.type cs (k.args.map a.eval) := by
  refine ⟨k.args.map fun | .const _ => true | _ => false, ?_⟩
  simp only [execOp, ho, resolve, hk]
  rfl

theorem law_len (hM : Mem base G0 own0 c) {x : Operand} {k : Call} (ho : o.op = .call k) (hk : k.callee = .builtin .len) (hargs : k.args = #[x]) {id : TypeId} (hat : k.argTypes[0]? = some id) {px : PV} {t : Ty} (ht : TOk P t id) {n : Nat}
    (hsl : (∃ u, t = .sl u) ∨ t = .str) (hstr : t = .str ↔ ∃ l, px = .val .str l) (hl : lenPV c.H px = some n) (hx : VOk c px (a.eval x)) : OpRes P base G0 own0 o a c (.val (.int .i64) (I.ofNat .i64 n)) [] := by
  obtain ⟨hlim, hv⟩ := lenPV_ok hM hl hx
  have hof := ofNat_val hlim
  refine opres_pure hM (v := .int .i64 n) ?_ (by rw [← hof]; exact ok_int _)
  obtain ⟨cs0, hres⟩ := exec_builtin (a := a) ho hk
  rcases hv with ⟨ad, cap, hv, _, hns⟩ | ⟨l, hpx, hv, hll⟩
  · have hnot : t ≠ .str := fun h => by obtain ⟨l, e⟩ := hstr.1 h; exact hns _ e
    obtain ⟨u, rfl⟩ := hsl.resolve_right hnot
    obtain ⟨_, e, hu, _⟩ := ht
    rw [hres, hargs]
    simp only [builtin, Builtin.len_, hat, Sem.run_bind]
    simp [run_underlying hu, hv, goInt]
  · have := hstr.2 ⟨l, hpx⟩
    subst this
    obtain ⟨_, hu⟩ := ht
    rw [hres, hargs]
    have hll : l.length = n := hll
    have hsz : (bytesOf l).size = n := by show ((l.map _).toArray).size = n; rw [List.size_toArray]; exact (List.length_map _).trans hll
    simp only [builtin, Builtin.len_, hat, Sem.run_bind]
    simp [run_underlying hu, hv, goInt, hsz]

theorem law_len_arr (hM : Mem base G0 own0 c) {x : Operand} {k : Call} (ho : o.op = .call k) (hk : k.callee = .builtin .len) (hargs : k.args = #[x]) {id : TypeId} (hat : k.argTypes[0]? = some id) {m : Nat} {t : Ty} (ht : TOk P (.arr m t) id) (hm : m ≤ 1048576) :
    OpRes P base G0 own0 o a c (.val (.int .i64) (I.ofNat .i64 m)) [] := by
  have hof := ofNat_val (n := m) (by simp only [LIM]; omega)
  refine opres_pure hM (v := .int .i64 m) ?_ (by rw [← hof]; exact ok_int _)
  obtain ⟨_, e, hu, _⟩ := ht
  obtain ⟨cs0, hres⟩ := exec_builtin (a := a) ho hk
  rw [hres, hargs]
  simp only [builtin, Builtin.len_, hat, Sem.run_bind]
  simp [run_underlying hu, goInt]

theorem law_mn (hM : Mem base G0 own0 c) {x y : Operand} {k : Call} (ho : o.op = .call k) (hk : k.callee = .builtin .min) (hargs : k.args = #[x, y]) {kd : IntKind} {i j : I kd} (hx : VOk c (.val (.int kd) i) (a.eval x)) (hy : VOk c (.val (.int kd) j) (a.eval y)) :
    OpRes P base G0 own0 o a c (.val (.int kd) (I.mn i j)) [] := by
  refine opres_pure hM (v := .int kd (I.mn i j).val) ?_ (ok_int _)
  obtain ⟨cs0, hres⟩ := exec_builtin (a := a) ho hk
  rw [hres, hargs]
  simp only [builtin, Builtin.min_, Sem.run_bind, List.map_toArray, List.map_cons, List.map_nil, v_int hx, v_int hy]
  unfold I.mn
  split <;> simp [Builtin.min2, *]

theorem law_mx (hM : Mem base G0 own0 c) {x y : Operand} {k : Call} (ho : o.op = .call k) (hk : k.callee = .builtin .max) (hargs : k.args = #[x, y]) {kd : IntKind} {i j : I kd} (hx : VOk c (.val (.int kd) i) (a.eval x)) (hy : VOk c (.val (.int kd) j) (a.eval y)) :
    OpRes P base G0 own0 o a c (.val (.int kd) (I.mx i j)) [] := by
  refine opres_pure hM (v := .int kd (I.mx i j).val) ?_ (ok_int _)
  obtain ⟨cs0, hres⟩ := exec_builtin (a := a) ho hk
  rw [hres, hargs]
  simp only [builtin, Builtin.max_, Sem.run_bind, List.map_toArray, List.map_cons, List.map_nil, v_int hx, v_int hy]
  unfold I.mx
  split <;> simp [Builtin.max2, *]

theorem law_convert (hM : Mem base G0 own0 c) {s d : TypeId} {x : Operand} (ho : o.op = .convert s d x) {k0 k l : IntKind} (hs : TOk P (.int k0) s) (hd : TOk P (.int l) d) {i : I k} (hx : VOk c (.val (.int k) i) (a.eval x)) :
    OpRes P base G0 own0 o a c (.val (.int l) (i.conv l)) [] := by
  refine opres_pure hM (v := .int l (i.conv l).val) ?_ (ok_int _)
  obtain ⟨_, hs⟩ := hs
  obtain ⟨_, hd⟩ := hd
  simp only [execOp, ho, Sem.run_bind, v_int hx]
  unfold convert
  simp only [Sem.run_bind, run_underlying hs, run_underlying hd, Result.andThen_ok]
  rfl

/-! Rows of zeros, and rows with parts laid in. -/
theorem repL_len {X : Type} : ∀ (n : Nat) (x : X), (repL n x).length = n
  | 0, _ => rfl
  | n + 1, x => by simp [repL, repL_len n x]

theorem flat_get (z : List Value) (hz : 0 < z.length) : ∀ (n i : Nat), i < n * z.length → (repL n z).flatten[i]? = z[i % z.length]?
  | 0, i, h => by simp at h
  | n + 1, i, h => by
    simp only [repL, List.flatten_cons]
    by_cases hi : i < z.length
    · rw [List.getElem?_append_left hi, Nat.mod_eq_of_lt hi]
    · rw [List.getElem?_append_right (by omega), flat_get z hz n (i - z.length) (by rw [Nat.succ_mul] at h; omega)]
      exact congrArg (z[·]?) (Nat.mod_eq_sub_mod (by omega)).symm

theorem flat_len (z : List Value) : ∀ n, ((repL n z).flatten).length = n * z.length
  | 0 => by simp [repL]
  | n + 1 => by simp [repL, flat_len z n, Nat.succ_mul]; omega

theorem zero_cells (z : List Value) (n : Nat) : (Array.range (n * z.length)).map (z.toArray[· % z.toArray.size]!) = ((repL n z).flatten).toArray := by
  apply Array.ext'
  apply List.ext_getElem?
  intro i
  by_cases hi : i < n * z.length
  · have hz : 0 < z.length := by
      rcases Nat.eq_zero_or_pos z.length with h | h
      · rw [h] at hi; simp at hi
      · exact h
    rw [flat_get z hz n i hi]
    have hm : i % z.length < z.length := Nat.mod_lt _ hz
    simp [hi, hm]
  · rw [List.getElem?_eq_none (by simp; omega), List.getElem?_eq_none (by rw [flat_len]; omega)]

theorem EncL_zero {w : World} {G : Nat → Prop} {t : Ty} (ht : t.noOpq = true) : ∀ n, EncL (Enc w G t) (repL n t.zero) ((repL n (zCells t)).flatten)
  | 0 => rfl
  | n + 1 => ⟨_, _, rfl, enc_zero t ht, EncL_zero ht n⟩

theorem law_makeSlice (hM : Mem base G0 own0 c) {id : TypeId} {x y : Operand} (ho : o.op = .makeSlice id x y) {t : Ty} (ht : TI P id (.sl t)) (hq : t.noOpq = true) {k l : IntKind} {n : I k} {m : I l} (h1 : inB' n m.nat = true) (h2 : inB' m 1073741824 = true)
    (hx : VOk c (.val (.int k) n) (a.eval x)) (hy : VOk c (.val (.int l) m) (a.eval y)) {nb : Nat} (hn : blkAt c.H nb = .unborn) : OpRes P base G0 own0 o a c (.whole nb) [(nb, .row t (repL n.nat t.zero))] := by
  obtain ⟨e, hu, he, i, hi, hby, hz⟩ := ht.elem t rfl
  have hz := hz.resolve_right (by rintro rfl; cases hq)
  obtain ⟨a1, a2, a3, a4⟩ := inB'_iff h1
  obtain ⟨b1, b2, b3, b4⟩ := inB'_iff h2
  have hw : ∀ q : Int, 0 ≤ q → q ≤ 1073741824 → IntKind.i64.wrap q = q := fun q h h' => wrap_eq_of_range ⟨by simp [IntKind.min, IntKind.bits, IntKind.signed]; omega, by simp [IntKind.max, IntKind.bits, IntKind.signed]; omega⟩
  have hw1 := hw n.val a1 (by omega)
  have hw2 := hw m.val b1 b2
  have hbytes : (i.bytes : Int) * m.val ≤ 281474976710656 := by
    have := Int.mul_le_mul (show (i.bytes : Int) ≤ 131072 by omega) (show m.val ≤ 1073741824 by omega) b1 (by omega)
    omega
  have hbytes' : (i.bytes : Int) * n.val ≤ 281474976710656 := by
    have := Int.mul_le_mul (show (i.bytes : Int) ≤ 131072 by omega) (show n.val ≤ 1073741824 by omega) a1 (by omega)
    omega
  have hzc : (mkZ t).cells = (zCells t).toArray := cells_mkV (zCells_len t) (zCells_one t)
  have hle : n.nat ≤ m.nat := a3
  obtain ⟨c', g1, g2, g3, g4, g5⟩ := mem_row hM hn (t := t) (l := repL n.nat t.zero) (e := e) none (grown_alloc c.w _ _)
    (by rw [repL_len]; exact alloc_owns c.w ((repL m.nat (zCells t)).flatten) e t.sz n.nat m.nat (by rw [flat_len, zCells_len]) hle (by simp only [maxLen]; omega))
    (by
      have : (repL m.nat (zCells t)).flatten.take (n.nat * t.sz) = (repL n.nat (zCells t)).flatten := by
        apply List.ext_getElem?
        intro j
        rw [List.getElem?_take]
        split
        · rename_i hj
          have hzl := zCells_len t
          have hpos : 0 < (zCells t).length := by
            rcases Nat.eq_zero_or_pos (zCells t).length with h | h
            · rw [hzl] at h; rw [h] at hj; simp at hj
            · exact h
          rw [← hzl] at hj
          have : n.nat * (zCells t).length ≤ m.nat * (zCells t).length := Nat.mul_le_mul_right _ hle
          rw [flat_get _ hpos _ _ (by omega), flat_get _ hpos _ _ hj]
        · rw [List.getElem?_eq_none]; rw [flat_len, zCells_len]; omega
      rw [this]
      exact EncL_zero hq n.nat)
    (by rw [repL_len]; simp only [LIM]; omega) none (fun i h => by cases h) (fun r h => by cases h) (fun r h => by simp only [blkOf, Option.some.injEq] at h; left; omega)
  refine opres_value (c' := c') ?_ g3 g4 (by simpa [oldDead] using g2) g5
  rw [g1]
  have hzr : (zeroValue e).run P c.w = .ok (mkZ t) c.w := by simp [zeroValue, typeInfo, hi, hz]
  have hmk : (Instr.makeSlice id (.int k n.val) (.int l m.val)).run P c.w = .ok (.slice (some ⟨c.w.heap.size, 0, none⟩) n.nat m.nat) (c.w.alloc (.cells ((repL m.nat (zCells t)).flatten).toArray e)) := by
    unfold Instr.makeSlice
    simp only [Sem.run_bind, run_underlying hu, Result.andThen_ok, asInt, asIntOf, Sem.run_pure, typeInfo, run_program, hi, hw1, hw2]
    have c1 : (decide (m.val < 0) || decide ((i.bytes : Int) * m.val > 2 ^ 48)) = false := by
      rw [decide_eq_false (show ¬ m.val < 0 by omega), decide_eq_false (show ¬ ((i.bytes : Int) * m.val > 2 ^ 48) by omega)]; rfl
    have c2 : ¬ ((decide (m.val < 0) || decide ((i.bytes : Int) * m.val > 2 ^ 48)) || decide (n.val < 0) || decide (n.val > m.val)) = true := by
      rw [c1, decide_eq_false (show ¬ n.val < 0 by omega), decide_eq_false (show ¬ n.val > m.val by omega)]; decide
    rw [if_neg c2]
    simp only [Result.andThen_ok, run_askRoom, he.run_size, Sem.run_bind]
    have hmm : m.val.toNat = m.nat := rfl
    by_cases h0 : m.nat * t.sz = 0
    · have h1 : (repL m.nat (zCells t)).flatten = [] := List.eq_nil_of_length_eq_zero (by rw [flat_len, zCells_len]; exact h0)
      have h2 : Array.range 0 = #[] := rfl
      rw [hmm, if_pos h0, h1, h0, h2]
      simp [newRow, I.nat]
    · rw [hmm, if_neg h0]
      simp only [Sem.run_bind, hzr, Result.andThen_ok, Sem.run_pure, hzc]
      rw [← zCells_len t, zero_cells]
      simp [newRow, I.nat]
  simp only [execOp, ho, Sem.run_bind, v_int hx, v_int hy, hmk, Result.andThen_ok, Sem.run_pure]
end
end Sym

/- The laws of single operations, tenth part: slice literals and append. -/
namespace Sym
open Go
section
variable {P : Program} {base : World} {G0 own0 : Nat → Prop} {o : Oper} {a : Act} {c : Cx}

/-- What toVal tells, at the value itself. -/
theorem toVal_v (hM : Mem base G0 own0 c) {t : Ty} {u : PV} {x : t.D} {lent : List Nat} {v : Value} (hv : VOk c u v) (h : toVal c.H t u = some (x, lent)) :
    ∃ us, CellsPV c u us ∧ v = mkV t.isAgg us ∧ Enc c.w (Glent c lent) t x us := by
  have key : ∀ us, CellsPV c u us → isAggPV u = t.isAgg := by
    intro us hc
    have he := toVal_ok hM.blk t u us x lent hc h
    cases u with
    | val s y =>
      have : (match Ty.cast s t y with | some y => some (y, ([] : List Nat)) | none => none) = some (x, lent) := by cases t <;> exact h
      split at this
      · rename_i y' hy
        obtain ⟨e, _⟩ := cast_eq hy
        subst e; rfl
      · cases this
    | pair p q => cases t <;> first | rfl | (simp [toVal] at h)
    | _ => cases t <;> first | rfl | (simp [toVal] at h)
  cases u with
  | tup p => cases t <;> simp [toVal] at h
  | undef => cases t <;> simp [toVal] at h
  | _ =>
    obtain ⟨us, h1, h2⟩ := hv
    exact ⟨us, h1, by rw [h2, key us h1], toVal_ok hM.blk t _ us x lent h1 h⟩

theorem fillRow_ok (hM : Mem base G0 own0 c) {t : Ty} (L : List Nat) : ∀ (ps : List (Nat × Operand)) (args : List PV) (l l' : List t.D) (xs : List Value) (lent : List Nat),
    All2 (VOk c) args (ps.map fun x => a.eval x.2) → EncL (Enc c.w (Glent c L) t) l xs → fillRow c.H t l (zipNat (ps.map (·.1)) args) = some (l', lent) → (∀ b ∈ lent, b ∈ L) →
    ∃ xs', Instr.fill (fun i => some (i * t.sz, t.sz)) xs.toArray (ps.map fun x => (x.1, a.eval x.2)) = some xs'.toArray ∧ EncL (Enc c.w (Glent c L) t) l' xs' ∧ l'.length = l.length := by
  intro ps
  induction ps with
  | nil =>
    intro args l l' xs lent ha he hv hL
    simp only [List.map_nil, zipNat, fillRow, Option.some.injEq, Prod.mk.injEq] at hv
    obtain ⟨rfl, rfl⟩ := hv
    exact ⟨xs, rfl, he, rfl⟩
  | cons p ps ih =>
    intro args l l' xs lent ha he hv hL
    cases args with
    | nil => exact ha.elim
    | cons u args =>
      obtain ⟨hu, ha⟩ := ha
      simp only [List.map_cons, zipNat, fillRow] at hv
      split at hv
      · rename_i hb
        have hi : p.1 < l.length := by have := Nat.le_of_ble_eq_true hb; omega
        split at hv
        · rename_i x b hx
          split at hv
          · rename_i l2 b2 hr
            have hv := Option.some.inj hv
            obtain ⟨rfl, rfl⟩ := Prod.mk.inj hv
            obtain ⟨us, hcu, hvu, heu⟩ := toVal_v hM hu hx
            have heu := Enc_G (Glent_mono (fun y hy => hL y (by simp [hy]))) heu
            have hlu := Enc_len _ _ _ heu
            have hset := EncL_set (fun x cs => Enc_len t x cs) x us heu l xs p.1 hi he
            obtain ⟨xs', g1, g2, g3⟩ := ih args (setAt l p.1 x) l2 _ b2 ha hset hr (fun y hy => hL y (by simp [hy]))
            refine ⟨xs', ?_, g2, by rw [g3, setAt_len]⟩
            have hxl := EncL_len (fun x cs => Enc_len t x cs) l xs he
            have : (p.1 + 1) * t.sz ≤ l.length * t.sz := Nat.mul_le_mul_right _ hi
            rw [Nat.succ_mul] at this
            have hvu' : a.eval p.2 = _ := hvu
            rw [List.map_cons, fill_step rfl (by rw [hvu']; exact cells_mkV hlu (Enc_one _ _ _ heu)) hlu (by omega)]
            exact g1
          · cases hv
        · cases hv
      · cases hv

theorem exec_buildSlice {id : TypeId} {n : Nat} {ps : Array (Nat × Operand)} (ho : o.op = .buildSlice id n ps) : execOp a.eval o = (do pure (.value (← Instr.buildSlice id n (ps.map fun x => (x.1, a.eval x.2))))) := by
  simp only [execOp, ho]

theorem fillRow_live (H : List Blk) (t : Ty) : ∀ (ps : List (Nat × PV)) (l l' : List t.D) (lent : List Nat), fillRow H t l ps = some (l', lent) → ∀ b ∈ lent, live (blkAt H b) = true
  | [], l, l', lent, h => by simp only [fillRow, Option.some.injEq, Prod.mk.injEq] at h; obtain ⟨_, rfl⟩ := h; intro b hb; simp at hb
  | (i, u) :: ps, l, l', lent, h => by
    simp only [fillRow] at h
    split at h
    · split at h
      · rename_i x b hx
        split at h
        · rename_i l2 b2 hr
          have h := Option.some.inj h
          obtain ⟨_, rfl⟩ := Prod.mk.inj h
          intro y hy
          simp only [List.mem_append] at hy
          exact hy.elim (toVal_live H t u x b hx y) (fillRow_live H t ps _ l2 b2 hr y)
        · cases h
      · cases h
    · cases h

theorem law_buildSlice (hM : Mem base G0 own0 c) {id : TypeId} {n : Nat} {ps : Array (Nat × Operand)} (ho : o.op = .buildSlice id n ps) {t : Ty} (ht : TI P id (.sl t)) (hq : t.noOpq = true) (hsm : n * t.sz ≤ 16777216) {args : List PV} (ha : All2 (VOk c) args (ps.toList.map fun x => a.eval x.2))
    {l : List t.D} {lent : List Nat} (hf : fillRow c.H t (repL n t.zero) (zipNat (ps.toList.map (·.1)) args) = some (l, lent)) (hfl : fitsLen n = true) {nb : Nat} (hn : blkAt c.H nb = .unborn) :
    OpRes P base G0 own0 o a c (.whole nb) (kill lent ++ [(nb, .row t l)]) := by
  obtain ⟨e, hu, he, i, hi, hby, hz⟩ := ht.elem t rfl
  have hz := hz.resolve_right (by rintro rfl; cases hq)
  have hzc : (mkZ t).cells = (zCells t).toArray := cells_mkV (zCells_len t) (zCells_one t)
  have hlive := fillRow_live c.H t _ _ _ _ hf
  obtain ⟨xs, g1, g2, g3⟩ := fillRow_ok hM lent ps.toList args _ l _ lent ha (EncL_zero hq n) hf (fun b hb => hb)
  rw [repL_len] at g3
  obtain ⟨c1, h1, h2, h3, h4, h5, h6, h7⟩ := lend hM lent hlive
  have hxl := EncL_len (fun x cs => Enc_len t x cs) l xs g2
  have hnl : nb ∉ lent := fun h => by have := hlive nb h; rw [hn] at this; cases this
  have hn1 : blkAt c1.H nb = .unborn := (h6 nb hnl).trans hn
  have hlim : n ≤ 1073741824 := by simpa [fitsLen] using hfl
  obtain ⟨c2, k1, k2, k3, k4, k5⟩ := mem_row h5 hn1 (t := t) (l := l) (e := e) none (grown_alloc c1.w _ _)
    (by rw [g3]; exact alloc_owns c1.w xs e t.sz n n (by rw [hxl, g3]) (Nat.le_refl _) (by simp only [maxLen]; omega))
    (by rw [List.take_of_length_le (by rw [hxl, g3]; exact Nat.le_refl _)]; exact EncL_mono (fun x cs => h7 t x cs) l xs g2)
    (by rw [g3]; simp only [LIM]; omega) none (fun i h => by cases h) (fun r h => by cases h) (fun r h => by simp only [blkOf, Option.some.injEq] at h; left; omega)
  refine opres_value (c' := c2) ?_ (h4.trans k3) k4 (by rw [k2, h2, ← putBlks_app]; rfl) k5
  rw [k1, h1, exec_buildSlice ho]
  have hsz : i.size = t.sz := by have := he.size; simp [Program.cellsOf, hi] at this; exact this
  have hzr : (zeroValue e).run P c.w = .ok (mkZ t) c.w := by simp [zeroValue, typeInfo, hi, hz]
  have hfill : Instr.fill (fun i => some (i * t.sz, t.sz)) ((repL n (zCells t)).flatten).toArray (ps.map fun x => (x.1, a.eval x.2)).toList = some xs.toArray := by simpa using g1
  have hrun : (Instr.buildSlice id n (ps.map fun x => (x.1, a.eval x.2))).run P c.w = .ok (.slice (some ⟨c.w.heap.size, 0, none⟩) n n) (c.w.alloc (.cells xs.toArray e)) := by
    unfold Instr.buildSlice
    simp only [Sem.run_bind, run_underlying hu, Result.andThen_ok, he.run_size]
    rw [if_neg (by simp; omega)]
    by_cases h0 : n * t.sz = 0
    · have hfl0 : (repL n (zCells t)).flatten = [] := List.eq_nil_of_length_eq_zero (by rw [flat_len, zCells_len]; exact h0)
      have hr0 : Array.range 0 = #[] := rfl
      rw [hfl0] at hfill
      rw [if_pos h0, h0, hr0]
      simp only [Sem.run_pure, Sem.run_bind, Result.andThen_ok, Array.map_empty, hfill]
      simp [newRow]
    · rw [if_neg h0]
      rw [← zero_cells, zCells_len] at hfill
      simp only [Sem.run_bind, hzr, Result.andThen_ok, Sem.run_pure, hzc, hfill]
      simp [newRow]
  simp only [Sem.run_bind, hrun, Result.andThen_ok, Sem.run_pure]

theorem run_append_room' (w : World) (t ty e e' : TypeId) (i : TypeInfo) (ht : P.underlying t = some (.slice e)) (hi : P.info? e = some i)
    (g sLen sCap : Nat) (cur : Array Value) (hg : w.heap[g]? = some (.cells cur e' (0, 0))) (x : Value) (m : Nat) (hm : Builtin.lenOf x = pure m) (news : List Value) (hnews : (Builtin.firstCells i.size m x).run P w = .ok news.toArray w) (h1 : ∀ u ∈ news, u.oneCell' = true)
    (hl : news.length = m * i.size) (hroom : sLen + m ≤ sCap) (hfit : sLen * i.size + news.length ≤ cur.size) :
    (Builtin.append_ #[t, t] ty #[.slice (some ⟨g, 0, none⟩) sLen sCap, x]).run P w =
      .ok (.slice (some ⟨g, 0, none⟩) (sLen + m) sCap) (w.setRow g (cur.toList.take (sLen * i.size) ++ news ++ cur.toList.drop (sLen * i.size + news.length)).toArray) := by
  have hst := run_storeCells_at P g (sLen * i.size) e' news 0 cur w hg (by simpa using hfit) h1
  simp only [Nat.add_zero] at hst
  simp [Builtin.append_, run_underlying ht, Go.sizeOf, typeInfo, hi, hm, hroom, hnews, add_lit, hst]

theorem run_append_grow' (w : World) (t ty e : TypeId) (i : TypeInfo) (z : Value) (ht : P.underlying t = some (.slice e)) (hi : P.info? e = some i) (hz : i.zero = some z)
    (b : Option Addr) (sLen sCap : Nat) (olds : List Value) (holds : (Builtin.firstCells i.size sLen (.slice b sLen sCap)).run P w.drew = .ok olds.toArray w.drew)
    (x : Value) (n : Nat) (hm : Builtin.lenOf x = pure n) (news : List Value) (hnews : (Builtin.firstCells i.size n x).run P w.drew = .ok news.toArray w.drew)
    (hg : sCap < sLen + n) (h63 : ((sLen + n : Nat) : Int) ≤ 9223372036854775807) (hfit : Builtin.nextslicecap (sLen + n) sCap * i.bytes ≤ 281474976710656) :
    (Builtin.append_ #[t, t] ty #[.slice b sLen sCap, x]).run P w =
      .ok (.slice (some ⟨w.heap.size, 0, none⟩) (sLen + n) (grownCap w (sLen + n) sCap e))
        (w.drew.alloc (.cells (olds ++ news ++ (Builtin.zeroCells z.cells (grownCap w (sLen + n) sCap e - (sLen + n))).toList).toArray e)) := by
  have hn : ¬ (sLen + n ≤ sCap) := by omega
  have h63' : ¬ (9223372036854775807 < ((sLen : Int) + (n : Int))) := by omega
  have h48' : ¬ (281474976710656 < Builtin.nextslicecap (sLen + n) sCap * i.bytes) := by omega
  simp [Builtin.append_, run_underlying ht, Go.sizeOf, typeInfo, zeroValue, hi, hz, hm, hn, h63', h48', Question.forced, hnews, holds, newRow, grownCap]
  congr 2
  apply Array.ext'
  simp [List.append_assoc]

theorem lenOf_slice (a : Option Addr) (n cap : Nat) : Builtin.lenOf (.slice a n cap) = pure n := rfl

theorem mx_fits {n m : Nat} (h : fitsLen n = true) (h' : m ≤ n) : m ≤ 1073741824 := by simp only [fitsLen, decide_eq_true_eq] at h; omega

/-- append, out of what is known of both operands. -/
theorem run_append_any (w : World) {id e e' : TypeId} (ty : TypeId) {t : Ty} (hu : P.underlying id = some (.slice e)) (he : TOk P t e) {i : TypeInfo} (hi : P.info? e = some i) (hby : i.bytes ≤ 131072) (hz : i.zero = some (mkZ t)) (hsz : 1 ≤ t.sz)
    (hd : Value) (n : Nat) (xs : List Value) (ho : w.ownsRow 0 e' t.sz hd n xs) (x : Value) (m : Nat) (hm : Builtin.lenOf x = pure m) (news : List Value) (hl : news.length = m * t.sz)
    (hnews : ∀ w', (w' = w ∨ w' = w.drew) → (Builtin.firstCells t.sz m x).run P w' = .ok news.toArray w') (h1 : ∀ u ∈ news, u.oneCell' = true) (hlim : n + m ≤ 1073741824) :
    ∃ hd' w' e'', (Builtin.append_ #[id, id] ty #[hd, x]).run P w = .ok hd' w' ∧ w'.ownsRow 0 e'' t.sz hd' (n + m) (xs ++ news) ∧ w.grownBy w' (blkOf hd) ∧ (∀ r, blkOf hd' = some r → w.heap.size ≤ r ∨ blkOf hd = some r) := by
  have hs : i.size = t.sz := by have := he.size; simp [Program.cellsOf, hi] at this; exact this
  have hzc : (mkZ t).cells = (zCells t).toArray := cells_mkV (zCells_len t) (zCells_one t)
  have hlen : (xs ++ news).length = (n + m) * t.sz := by rw [List.length_append, ho.1, hl, Nat.add_mul]
  have hbytes : (n + m) * i.bytes ≤ 140737488355328 := Nat.le_trans (Nat.mul_le_mul hlim hby) (by decide)
  have grown : ∀ (b : Option Addr) (cap : Nat), cap < n + m → (Builtin.firstCells i.size n (.slice b n cap)).run P w.drew = .ok xs.toArray w.drew → ∃ hd' w' e'', (Builtin.append_ #[id, id] ty #[.slice b n cap, x]).run P w = .ok hd' w' ∧ w'.ownsRow 0 e'' t.sz hd' (n + m) (xs ++ news) ∧ w.grownBy w' (blkOf (.slice b n cap)) ∧ (∀ r, blkOf hd' = some r → w.heap.size ≤ r ∨ blkOf (.slice b n cap) = some r) := by
    intro b cap hc holds
    have hrun := run_append_grow' (P := P) w id ty e i (mkZ t) hu hi hz b n cap xs holds x m hm news (by rw [hs]; exact hnews w.drew (.inr rfl)) hc (by omega) (growslice_fits hc hbytes)
    have hge := grownCap_ge w (n + m) cap e
    have hcm : grownCap w (n + m) cap e ≤ maxLen := grownCap_le_maxLen w (n + m) cap e (by simp only [maxLen]; omega)
    refine ⟨_, _, e, hrun, ⟨hlen, .inr ⟨w.heap.size, _, _, rfl, Nat.zero_le _, heap_new w.drew _, hge, hcm, ?_, ?_⟩⟩, ⟨rfl, rfl, rfl, by simp, fun k hk _ => heap_old w.drew _ hk⟩, fun r hr => ?_⟩
    · simp only [List.size_toArray, List.length_append, Array.length_toList, size_zeroCells, hzc, zCells_len]
      rw [ho.1, hl, ← Nat.add_mul, ← Nat.add_mul]
      congr 1
      omega
    · simp only [List.append_assoc]
      rw [← List.append_assoc, ← hlen]
      exact List.take_left
    · simp only [blkOf, Option.some.injEq] at hr; left; omega
  rcases own_cells ho with ⟨e1, e2, e3⟩ | ⟨g, cap, cur, e1, e2, e3, e4, e5, e6, e7⟩
  · subst e1 e2 e3
    by_cases h0 : m = 0
    · subst h0
      have hn : news = [] := List.eq_nil_of_length_eq_zero (by rw [hl]; simp)
      subst hn
      refine ⟨.slice none 0 0, w, e, ?_, ⟨by simp, .inl ⟨rfl, rfl⟩⟩, ⟨rfl, rfl, rfl, Nat.le_refl _, fun _ _ _ => rfl⟩, fun r hr => by cases hr⟩
      have := hnews w (.inl rfl)
      simp [Builtin.append_, run_underlying hu, Go.sizeOf, typeInfo, hi, hs, hm, this]
    · exact grown none 0 (by omega) (by simp [Builtin.firstCells])
  · subst e1
    by_cases hroom : n + m ≤ cap
    · have hfit : n * t.sz + news.length ≤ cur.size := by rw [hl, e5, ← Nat.add_mul]; exact Nat.mul_le_mul_right _ hroom
      have hrun := run_append_room' (P := P) w id ty e e' i hu hi g n cap cur e2 x m hm news (by rw [hs]; exact hnews w (.inl rfl)) h1 (by rw [hs]; exact hl) hroom (by rw [hs]; exact hfit)
      rw [hs] at hrun
      refine ⟨_, _, e', hrun, ⟨hlen, .inr ⟨g, cap, _, rfl, Nat.zero_le _, setRow_heap w g cur _ e' _ e2, hroom, e4, ?_, ?_⟩⟩, ⟨rfl, rfl, rfl, by simp, fun k _ hk => setRow_other w g k _ (fun e => hk (by simp [blkOf, e]))⟩, fun r hr => .inr hr⟩
      · simp only [List.size_toArray, List.length_append, List.length_take, List.length_drop, Array.length_toList]
        omega
      · rw [e6, ← hlen]
        exact List.take_left
    · refine grown (some ⟨g, 0, none⟩) cap (by omega) ?_
      rw [hs]
      refine run_firstCells_some (P := P) w.drew t.sz n ⟨g, 0, none⟩ n cap xs ho.1 fun j v hj => ?_
      rw [add_lit]
      have := e7 j v hj
      rw [World.cell?_drew]
      simp only [World.cell?, e2, Option.isSome_none, Bool.false_eq_true, if_false]
      exact this

/-- A list that is read as a slice: its cells as append and copy read them. -/
theorem firstCells_enc {w : World} {G : Nat → Prop} {t : Ty} {ys : List t.D} {us : List Value} (h : Enc w G (.sl t) ys us) : ∃ ad cap news, us = [.slice ad ys.length cap] ∧ news.length = ys.length * t.sz ∧ EncL (Enc w G t) ys news ∧
    ∀ w', (∀ a, w'.cell? a = w.cell? a) → (Builtin.firstCells t.sz ys.length (.slice ad ys.length cap)).run P w' = .ok news.toArray w' := by
  obtain ⟨ad, cap, hus, hcap, hlim, hr⟩ := h
  have build : ∀ (l : List t.D) (r off : Nat), rowAt w (Enc w G t) t.sz r off l → ∃ news : List Value, news.length = l.length * t.sz ∧ EncL (Enc w G t) l news ∧ cellsAt w r off news := by
    intro l
    induction l with
    | nil => intro r off _; exact ⟨[], by simp, rfl, fun j d h => by simp at h⟩
    | cons y l ih =>
      intro r off hrow
      obtain ⟨ds, h1, h2⟩ := hrow 0 y rfl
      obtain ⟨news, k1, k2, k3⟩ := ih r (off + t.sz) (fun i x hi => by
        obtain ⟨ds, g1, g2⟩ := hrow (i + 1) x (by simpa using hi)
        exact ⟨ds, g1, by rw [Nat.succ_mul] at g2; rw [show off + t.sz + i * t.sz = off + (i * t.sz + t.sz) by omega]; exact g2⟩)
      have hl := Enc_len _ _ _ h1
      refine ⟨ds ++ news, by simp [hl, k1, Nat.succ_mul]; omega, ⟨ds, news, rfl, h1, k2⟩, fun j d hj => ?_⟩
      by_cases hjl : j < ds.length
      · rw [List.getElem?_append_left hjl] at hj
        have := h2 j d hj
        simpa using this
      · rw [List.getElem?_append_right (by omega)] at hj
        have := k3 _ d hj
        rw [show off + t.sz + (j - ds.length) = off + j by omega] at this
        exact this
  rcases hr with hr | ⟨⟨r, q, spot⟩, rfl, hsp, hG, hrow⟩
  · have hr : ys = [] := hr
    subst hr
    refine ⟨ad, cap, [], hus, by simp, rfl, fun w' _ => ?_⟩
    cases ad with
    | none => simp [Builtin.firstCells]
    | some q => simp [Builtin.firstCells, loadCells, loadCellsFrom]
  · simp only at hsp hG hrow
    subst hsp
    obtain ⟨news, k1, k2, k3⟩ := build ys r q hrow
    refine ⟨_, cap, news, hus, k1, k2, fun w' hw' => ?_⟩
    refine run_firstCells_some (P := P) w' t.sz ys.length ⟨r, q, none⟩ ys.length cap news k1 fun j v hj => ?_
    rw [add_lit, hw']
    exact k3 j v hj

theorem EncL_one {w : World} {G : Nat → Prop} {t : Ty} : ∀ (l : List t.D) (xs : List Value), EncL (Enc w G t) l xs → ∀ v ∈ xs, v.oneCell' = true
  | [], _, h, v, hv => by simp only [EncL] at h; subst h; simp at hv
  | x :: l, _, h, v, hv => by
    obtain ⟨c1, c2, rfl, h1, h2⟩ := h
    simp only [List.mem_append] at hv
    exact hv.elim (Enc_one _ _ _ h1 v) (EncL_one l c2 h2 v)

theorem exec_append {k : Call} {x y : Operand} (ho : o.op = .call k) (hk : k.callee = .builtin .append) (hargs : k.args = #[x, y]) : execOp a.eval o = (do pure (.value (← Builtin.append_ k.argTypes o.type #[a.eval x, a.eval y]))) := by
  obtain ⟨cs, h⟩ := exec_builtin (a := a) ho hk
  rw [h, hargs]
  simp only [builtin, List.map_toArray, List.map_cons, List.map_nil]

/-- append to nothing. -/
theorem law_append_nils (hM : Mem base G0 own0 c) {k : Call} {x y : Operand} (ho : o.op = .call k) (hk : k.callee = .builtin .append) (hargs : k.args = #[x, y]) {id : TypeId} (hat : k.argTypes = #[id, id]) {t : Ty} (ht : TI P id (.sl t)) (hq : t.noOpq = true) (hsz : 1 ≤ t.sz)
    {py : PV} {ys : List t.D} {lent : List Nat} (hx : VOk c .nils (a.eval x)) (hy : VOk c py (a.eval y)) (hv : toVal c.H (.sl t) py = some (ys, lent)) (hfl : fitsLen ys.length = true) {nb : Nat} (hn : blkAt c.H nb = .unborn) :
    OpRes P base G0 own0 o a c (.whole nb) (kill lent ++ [(nb, .row t ys)]) := by
  obtain ⟨e, hu, he, i, hi, hby, hz⟩ := ht.elem t rfl
  have hz := hz.resolve_right (by rintro rfl; cases hq)
  obtain ⟨us, _, hvu, hen⟩ := toVal_v hM hy hv
  obtain ⟨cs, hc, hxv⟩ := hx
  simp only [CellsPV] at hc
  subst hc
  have hxv : a.eval x = .slice none 0 0 := hxv
  obtain ⟨ad, cap, news, rfl, hnl, hne, hfc⟩ := firstCells_enc (P := P) hen
  have hyv : a.eval y = .slice ad ys.length cap := hvu
  have hlim : ys.length ≤ 1073741824 := mx_fits hfl (Nat.le_refl _)
  obtain ⟨hd', w', e'', hrun, hown, hg, hnew⟩ := run_append_any (P := P) c.w o.type hu he hi hby hz hsz (.slice none 0 0) 0 [] (e' := e) ⟨by simp, .inl ⟨rfl, rfl⟩⟩ (.slice ad ys.length cap) ys.length rfl news hnl
    (fun w' hw' => hfc w' (by rcases hw' with rfl | rfl <;> intro a <;> rfl)) (EncL_one ys news hne) (by omega)
  obtain ⟨c1, h1, h2, h3, h4, h5, h6, h7⟩ := lend hM lent (toVal_live _ _ _ _ _ hv)
  have hnl' : nb ∉ lent := fun h => by have := toVal_live _ _ _ _ _ hv nb h; rw [hn] at this; cases this
  rw [← h1] at hg hnew
  rw [Nat.zero_add, List.nil_append] at hown
  obtain ⟨c2, k1, k2, k3, k4, k5⟩ := mem_row h5 ((h6 nb hnl').trans hn) (t := t) (l := ys) none (by simpa [blkOf] using hg) hown (EncL_mono (fun x cs => h7 t x cs) ys news hne) (by simp only [LIM]; omega) none (fun i h => by cases h) (fun r h => by cases h)
    (fun r h => by rcases hnew r h with h' | h'; exact .inl h'; cases h')
  refine opres_value (c' := c2) ?_ (h4.trans k3) k4 (by rw [k2, h2, ← putBlks_app]; rfl) k5
  rw [k1, exec_append ho hk hargs, hat, hxv, hyv]
  simp only [Sem.run_bind, hrun, Result.andThen_ok, Sem.run_pure]

/-- append to a row of the call's own. -/
theorem law_append_own (hM : Mem base G0 own0 c) {k : Call} {x y : Operand} (ho : o.op = .call k) (hk : k.callee = .builtin .append) (hargs : k.args = #[x, y]) {id : TypeId} (hat : k.argTypes = #[id, id]) {t : Ty} (ht : TI P id (.sl t)) (hq : t.noOpq = true) (hsz : 1 ≤ t.sz)
    {py : PV} {ys : List t.D} {lent : List Nat} {b : Nat} {l : List t.D} (hb : blkAt c.H b = .row t l) (hnb : b ∉ lent) (hx : VOk c (.whole b) (a.eval x)) (hy : VOk c py (a.eval y)) (hv : toVal c.H (.sl t) py = some (ys, lent)) (hfl : fitsLen (l ++ ys).length = true) {nb : Nat} (hn : blkAt c.H nb = .unborn) :
    OpRes P base G0 own0 o a c (.whole nb) (kill lent ++ [(b, .dead), (nb, .row t (l ++ ys))]) := by
  obtain ⟨e, hu, he, i, hi, hby, hz⟩ := ht.elem t rfl
  have hz := hz.resolve_right (by rintro rfl; cases hq)
  obtain ⟨us, _, hvu, hen⟩ := toVal_v hM hy hv
  obtain ⟨ad, cap, news, rfl, hnl, hne, hfc⟩ := firstCells_enc (P := P) hen
  have hyv : a.eval y = .slice ad ys.length cap := hvu
  obtain ⟨c1, h1, h2, h3, h4, h5, h6, h7⟩ := lend hM lent (toVal_live _ _ _ _ _ hv)
  have hx1 := v_ext h4 hx
  have hb1 := (h6 b hnb).trans hb
  obtain ⟨cs, ⟨v, rfl, _, hw⟩, hxv⟩ := hx1
  have hB := h5.blk b
  unfold WholeOk at hw
  unfold BlkOk at hB
  simp only [hb1] at hw hB
  obtain ⟨hlim0, e0, xs, hown0, hx0⟩ := hB
  have hxv : a.eval x = c1.ρ b := by rw [← hw]; exact hxv
  have hlim : l.length + ys.length ≤ 1073741824 := by rw [← List.length_append]; exact mx_fits hfl (Nat.le_refl _)
  have hne1 := EncL_mono (fun x cs => h7 t x cs) ys news hne
  obtain ⟨hd', w', e'', hrun, hown, hg, hnew⟩ := run_append_any (P := P) c1.w o.type hu he hi hby hz hsz (c1.ρ b) l.length xs hown0 (.slice ad ys.length cap) ys.length rfl news hnl
    (fun w' hw' => hfc w' (by rcases hw' with rfl | rfl <;> intro a <;> first | (rw [h1]; done) | (rw [h1]; rfl))) (EncL_one ys news hne) hlim
  have hbn : b ≠ nb := by rintro rfl; rw [hb] at hn; cases hn
  have hnl' : nb ∉ lent := fun h => by have := toVal_live _ _ _ _ _ hv nb h; rw [hn] at this; cases this
  obtain ⟨c2, k1, k2, k3, k4, k5⟩ := mem_row h5 ((h6 nb hnl').trans hn) (t := t) (l := l ++ ys) (blkOf (c1.ρ b)) hg (by rw [List.length_append]; exact hown) (EncL_app l ys xs news hx0 hne1) (by rw [List.length_append]; simp only [LIM]; omega) (some b)
    (fun i h => by cases h; exact ⟨by rw [hb1]; rfl, hbn⟩) (fun r h _ => ⟨b, rfl, h⟩) (fun r h => (hnew r h).imp _root_.id fun h => ⟨b, rfl, h⟩)
  refine opres_value (c' := c2) ?_ (h4.trans k3) k4 (by rw [k2, h2, ← putBlks_app]; rfl) k5
  rw [k1, exec_append ho hk hargs, hat, hxv, hyv, ← h1]
  simp only [Sem.run_bind, hrun, Result.andThen_ok, Sem.run_pure]
end
end Sym

/- The laws of single operations, eleventh part: copy of a part of an array of whole numbers over a whole one. -/
namespace Sym
open Go

variable {P : Program} {base : World} {G0 own0 : Nat → Prop} {c : Cx} {a : Act} {o : Oper}

theorem EncL_drop1 {X : Type} {E : X → List Value → Prop} (h1 : ∀ x cs, E x cs → cs.length = 1) : ∀ (n : Nat) (l : List X) (cs : List Value), EncL E l cs → EncL E (l.drop n) (cs.drop n)
  | 0, _, _, h => h
  | n + 1, [], cs, h => by simp only [EncL] at h; subst h; rfl
  | n + 1, x :: l, cs, h => by
    obtain ⟨c1, c2, rfl, e1, e2⟩ := h
    have := h1 _ _ e1
    match c1, this with
    | [v], _ => exact EncL_drop1 h1 n l c2 e2

theorem EncL_take1 {X : Type} {E : X → List Value → Prop} (h1 : ∀ x cs, E x cs → cs.length = 1) : ∀ (n : Nat) (l : List X) (cs : List Value), EncL E l cs → EncL E (l.take n) (cs.take n)
  | 0, _, _, h => rfl
  | n + 1, [], cs, h => by simp only [EncL] at h; subst h; rfl
  | n + 1, x :: l, cs, h => by
    obtain ⟨c1, c2, rfl, e1, e2⟩ := h
    have := h1 _ _ e1
    match c1, this, e1 with
    | [v], _, e1 => exact ⟨[v], c2.take n, rfl, e1, EncL_take1 h1 n l c2 e2⟩

theorem EncArr_ofList {X : Type} {E : X → List Value → Prop} (d : X) : ∀ (n : Nat) (l : List X) (cs : List Value), l.length = n → EncL E l cs → EncArr E n (Arr.ofList d n l) cs
  | 0, l, cs, hl, h => by
    match l, hl with
    | [], _ => exact h
  | n + 1, x :: l, cs, hl, h => by
    obtain ⟨c1, c2, e, e1, e2⟩ := h
    exact ⟨c1, c2, e, e1, EncArr_ofList d n l c2 (by simpa using hl) e2⟩
  | n + 1, [], cs, hl, h => by simp at hl

theorem Enc_int1 {w : World} {G : Nat → Prop} {k : IntKind} (x : (Ty.int k).D) (cs : List Value) (h : Enc w G (.int k) x cs) : cs.length = 1 := by
  simp only [Enc] at h; subst h; rfl

theorem Enc_int_one {w : World} {G : Nat → Prop} {k : IntKind} : ∀ (l : List (I k)) (cs : List Value), EncL (Enc w G (.int k)) l cs → ∀ v ∈ cs, v.oneCell' = true
  | [], cs, h => by simp only [EncL] at h; subst h; simp
  | x :: l, cs, h => by
    obtain ⟨c1, c2, rfl, e1, e2⟩ := h
    simp only [Enc] at e1
    subst e1
    intro v hv
    simp only [List.cons_append, List.nil_append, List.mem_cons] at hv
    rcases hv with rfl | hv
    · rfl
    · exact Enc_int_one l c2 e2 v hv

theorem exec_copy {k : Call} {x y : Operand} (ho : o.op = .call k) (hk : k.callee = .builtin .copy) (hargs : k.args = #[x, y]) : execOp a.eval o = (do pure (.value (← Builtin.copy_ k.argTypes o.type #[a.eval x, a.eval y]))) := by
  obtain ⟨cs, h⟩ := exec_builtin (a := a) ho hk
  rw [h, hargs]
  simp only [builtin, List.map_toArray, List.map_cons, List.map_nil]

theorem add_plain (b o j : Nat) : (⟨b, o, none⟩ : Addr).add j = ⟨b, o + j, none⟩ := by unfold Addr.add; split <;> simp_all

theorem law_copy (hM : Mem base G0 own0 c) {k : Call} {x y : Operand} (ho : o.op = .call k) (hk : k.callee = .builtin .copy) (hargs : k.args = #[x, y]) {id id2 : TypeId} (hat : k.argTypes = #[id, id2]) {kd : IntKind} (ht : TI P id (.sl (.int kd)))
    {b b2 m m2 lo : Nat} {v : PV} {s : Ty} {z : (Ty.arr m2 (.int kd)).D} (hx : VOk c (.aview b [] 0 m) (a.eval x)) (hy : VOk c (.aview b2 [] lo m) (a.eval y)) (hb : blkAt c.H b = .box (.arr m (.int kd)) v) (hb2 : blkAt c.H b2 = .box s (.val (.arr m2 (.int kd)) z)) (hm : 1 ≤ m) (hm2 : m ≤ 1048576) :
    OpRes P base G0 own0 o a c (.val (.int .i64) (I.ofNat .i64 m)) [(b, .box (.arr m (.int kd)) (.val (.arr m (.int kd)) (Arr.ofList (I.of kd 0) m (subL (Arr.list m2 z) lo m))))] := by
  obtain ⟨e, hu, he, i, hi, hby, hz⟩ := ht.elem (.int kd) rfl
  have hs : (P.info? e).map (·.size) = some 1 := by
    have := he.size
    simp [Program.cellsOf, hi] at this
    rw [hi]
    exact congrArg some this
  obtain ⟨_, ⟨xv, rfl, _, hxa⟩, hxe⟩ := hx
  obtain ⟨_, ⟨yv, rfl, _, hya⟩, hye⟩ := hy
  have hxe : a.eval x = xv := hxe
  have hye : a.eval y = yv := hye
  have hB := hM.blk b
  have hB2 := hM.blk b2
  unfold AviewOk at hxa hya
  unfold BlkOk at hB hB2
  simp only [hb] at hxa hB
  simp only [hb2] at hya hB2
  obtain ⟨r, o1, m1, u1, hρ, hoff, hle, _, hsl⟩ := hxa
  obtain ⟨r', cs, ty, hρ', hh, hc, hf⟩ := hB
  obtain ⟨r2, o2, m3, u3, hρ2, hoff2, hle2, _, hsl2⟩ := hya
  obtain ⟨r2', cs2, ty2, hρ2', hh2, hc2, hf2⟩ := hB2
  have hρ0 := hρ'
  rw [hρ'] at hρ
  simp only [Value.pointer.injEq, Option.some.injEq, Addr.mk.injEq] at hρ
  obtain ⟨rfl, _, _⟩ := hρ
  rw [hρ2'] at hρ2
  simp only [Value.pointer.injEq, Option.some.injEq, Addr.mk.injEq] at hρ2
  obtain ⟨rfl, _, _⟩ := hρ2
  have hse := Ty.beq_eq hf2
  subst hse
  simp only [offTy, Option.some.injEq, Prod.mk.injEq, Ty.arr.injEq] at hoff hoff2
  obtain ⟨rfl, rfl, rfl⟩ := hoff
  obtain ⟨rfl, rfl, rfl⟩ := hoff2
  have hcl : cs.length = m := by
    have := cells_len _ _ _ hc hf
    simpa [Ty.sz] using this
  have hEL := EncArr_list m2 z cs2 hc2
  have hcl2 : cs2.length = m2 := by
    have := cells_len _ _ _ hc2 hf2
    simpa [Ty.sz] using this
  rcases hsl with ⟨h0, _⟩ | ⟨cap, rfl, hcap, _⟩
  · omega
  rcases hsl2 with ⟨h0, _⟩ | ⟨cap2, rfl, hcap2, _⟩
  · omega
  have hsub : EncL (Enc c.w c.G (.int kd)) (subL (Arr.list m2 z) lo m) ((cs2.drop lo).take m) := by
    have := EncL_take1 (Enc_int1 (w := c.w) (G := c.G) (k := kd)) m _ _ (EncL_drop1 (Enc_int1 (w := c.w) (G := c.G) (k := kd)) lo _ _ hEL)
    exact this
  have hsl : (subL (Arr.list m2 z) lo m).length = m := by
    have hll : (Arr.list m2 z).length = m2 := Arr.list_len m2 z
    show (((Arr.list m2 z).drop lo).take m).length = m
    rw [List.length_take, List.length_drop, hll]
    omega
  have hnew : CellsPV c (.val (.arr m (.int kd)) (Arr.ofList (I.of kd 0) m (subL (Arr.list m2 z) lo m))) ((cs2.drop lo).take m) := EncArr_ofList _ _ _ _ hsl hsub
  have hlen : ((cs2.drop lo).take m).length = m := by
    simp only [List.length_take, List.length_drop]
    omega
  obtain ⟨c', h1, h2, h3, h4⟩ := mem_store hM hb hρ0 hh hnew (Ty.beq_refl _)
  refine opres_value (c' := c') (v := goInt m) ?_ h3 h4 h2 ?_
  · have hrun := run_copy_row (P := P) c.w id id2 o.type e r' 0 m cap ⟨r2', 0 + lo * (Ty.int kd).sz, none⟩ m cap2 cs.toArray ty ((cs2.drop lo).take m) hu hs hh (by rw [hlen]; simp) (fun j d hj => ?_) (by rw [hlen]; simp; omega) (Enc_int_one _ _ hsub)
    · have hset : (cs.toArray.toList.take 0 ++ (cs2.drop lo).take m ++ cs.toArray.toList.drop (0 + ((cs2.drop lo).take m).length)).toArray = ((cs2.drop lo).take m).toArray := by
        rw [hlen]
        simp [hcl]
      rw [hset, hlen] at hrun
      rw [h1, exec_copy ho hk hargs, hat, hxe, hye]
      have e0 : (0 : Nat) + 0 * (Ty.int kd).sz = 0 := by simp
      rw [e0]
      simp only [Sem.run_bind, hrun, Result.andThen_ok, Sem.run_pure]
    · rw [List.getElem?_take] at hj
      split at hj
      · rw [List.getElem?_drop] at hj
        have hz1 : (Ty.int kd).sz = 1 := rfl
        have hlt : lo + j < cs2.length := (List.getElem?_eq_some_iff.1 hj).1
        have ha : (⟨r2', 0 + lo * (Ty.int kd).sz, none⟩ : Addr).add j = ⟨r2', lo + j, none⟩ := by
          rw [add_plain, hz1]
          simp
        rw [ha]
        simp [World.cell?, hh2, hj]
      · cases hj
  · have hv : (I.ofNat .i64 m).val = m := by
      show IntKind.i64.wrap (m : Int) = m
      refine wrap_eq_of_range ⟨?_, ?_⟩
      · have : IntKind.i64.min = -9223372036854775808 := by decide
        omega
      · have : IntKind.i64.max = 9223372036854775807 := by decide
        omega
    have := ok_int (c := c') (I.ofNat .i64 m)
    rw [hv] at this
    exact this
end Sym

/- Shapes: what is taken out of a state stands for the same values. -/
namespace Sym
open Go

def BlkSim : Blk → Blk → Prop
  | .box t _, .box u _ => t = u
  | .row t l, .row u r => ∃ e : t = u, (e ▸ l) = r
  | _, _ => False

/-- cc is a part of c, its blocks numbered by σ. -/
structure Part (cc c : Cx) (σ : Sub) (lent : List Nat) : Prop where
  w : cc.w = c.w
  blk : ∀ i j, σ.get i = some j → cc.ρ i = c.ρ j ∧ BlkSim (blkAt cc.H i) (blkAt c.H j)
  G : ∀ r, Glent c lent r → cc.G r

theorem part_ptr {cc c : Cx} {σ : Sub} {lent : List Nat} (h : Part cc c σ lent) {i j : Nat} (hij : σ.get i = some j) {p : List Step} {v : Value} (hv : PtrOk c j p v) : PtrOk cc i p v := by
  obtain ⟨hρ, hb⟩ := h.blk i j hij
  unfold PtrOk at *
  unfold BlkSim at hb
  rw [hρ]
  cases h1 : blkAt cc.H i <;> cases h2 : blkAt c.H j <;> simp only [h1, h2] at hb hv ⊢
  · subst hb; exact hv
  · obtain ⟨e, hb⟩ := hb; subst e; subst hb; exact hv

theorem part_whole {cc c : Cx} {σ : Sub} {lent : List Nat} (h : Part cc c σ lent) {i j : Nat} (hij : σ.get i = some j) {v : Value} (hv : WholeOk c j v) : WholeOk cc i v := by
  obtain ⟨hρ, hb⟩ := h.blk i j hij
  unfold WholeOk at *
  unfold BlkSim at hb
  rw [hρ]
  cases h1 : blkAt cc.H i <;> cases h2 : blkAt c.H j <;> simp only [h1, h2] at hb hv ⊢
  exact hv

theorem get_bind {σ σ' : Sub} {i j : Nat} (h : σ.bind i j = some σ') : σ'.get i = some j ∧ (∀ k l, σ.get k = some l → σ'.get k = some l) := by
  unfold Sub.bind at h
  split at h
  · rename_i j' hj
    split at h
    · rename_i hb
      have hb := Nat.eq_of_beq_eq_true hb
      simp only [Option.some.injEq] at h
      subst h; subst hb
      exact ⟨hj, fun k l hk => hk⟩
    · cases h
  · rename_i hn
    split at h
    · cases h
    · simp only [Option.some.injEq] at h
      subst h
      refine ⟨by simp [Sub.get, Nat.beq_refl], fun k l hk => ?_⟩
      simp only [Sub.get]
      split
      · rename_i hb
        have hb := Nat.eq_of_beq_eq_true hb
        subst hb
        rw [hn] at hk; cases hk
      · exact hk

/-- What is bound and lent stays so. -/
def Mle (m m' : Mt) : Prop := (∀ k l, m.σ.get k = some l → m'.σ.get k = some l) ∧ ∀ b, b ∈ m.lent → b ∈ m'.lent

theorem Mle.refl (m : Mt) : Mle m m := ⟨fun _ _ h => h, fun _ h => h⟩
theorem Mle.trans {a b c : Mt} (h : Mle a b) (h' : Mle b c) : Mle a c := ⟨fun k l hk => h'.1 k l (h.1 k l hk), fun x hx => h'.2 x (h.2 x hx)⟩

theorem Part.le {cc c : Cx} {m m' : Mt} (h : Part cc c m'.σ m'.lent) (hle : Mle m m') : Part cc c m.σ m.lent :=
  ⟨h.w, fun i j hij => h.blk i j (hle.1 i j hij), fun r hr => h.G r (Glent_mono hle.2 r hr)⟩

theorem beq_path : ∀ {p q : List Step}, pathEq p q = true → p = q
  | [], [], _ => rfl
  | a :: p, b :: q, h => by
    simp only [pathEq, Bool.and_eq_true] at h
    have : a = b := by
      cases a <;> cases b <;> simp only [stepEq] at h <;> first | (have := Nat.eq_of_beq_eq_true h.1; rw [this]) | (cases h.1)
    rw [this, beq_path h.2]
  | [], _ :: _, h => by simp [pathEq] at h
  | _ :: _, [], h => by simp [pathEq] at h

theorem Sh_ext {c : Cx} (hB : ∀ b, BlkOk c b) : ∀ (s : Sh) (v : PV) (m m' : Mt) (x : s.D), s.ext c.H v m = some (x, m') → Mle m m' ∧
    ∀ (cc : Cx) (cs : List Value), Part cc c m'.σ m'.lent → CellsPV c v cs → CellsPV cc (s.mk x) cs ∧ isAggPV (s.mk x) = isAggPV v := by
  intro s
  induction s with
  | pl t =>
    intro v m m' x h
    have h : (match toVal c.H t v with | some (x, l) => some (x, (⟨m.σ, l ++ m.lent⟩ : Mt)) | none => none) = some (x, m') := h
    split at h
    · rename_i y l hy
      have h := Option.some.inj h
      obtain ⟨rfl, rfl⟩ := Prod.mk.inj h
      refine ⟨⟨fun k l h => h, fun b hb => by simp [hb]⟩, fun cc cs hp hc => ⟨?_, ?_⟩⟩
      · have := toVal_ok hB t v cs y l hc hy
        show Enc cc.w cc.G t y cs
        rw [hp.w]
        exact Enc_G (fun r hr => hp.G r (Glent_mono (fun b hb => by simp [hb]) r hr)) this
      · show t.isAgg = _
        cases v with
        | val u z =>
          have : (match Ty.cast u t z with | some y => some (y, ([] : List Nat)) | none => none) = some (y, l) := by cases t <;> exact hy
          split at this
          · rename_i hz
            obtain ⟨e, _⟩ := cast_eq hz
            subst e; rfl
          · cases this
        | pair p q => cases t <;> first | rfl | (simp [toVal] at hy)
        | tup p => exact hc.elim
        | undef => exact hc.elim
        | _ => cases t <;> first | rfl | (simp [toVal] at hy)
    · cases h
  | bp t =>
    intro v m m' x h
    cases v with
    | bptr u y =>
      have h : (match Ty.cast u t y with | some y => some (y, m) | none => none) = some (x, m') := h
      split at h
      · rename_i z hz
        obtain ⟨e, rfl⟩ := cast_eq hz
        subst e
        have h := Option.some.inj h
        obtain ⟨rfl, rfl⟩ := Prod.mk.inj h
        refine ⟨Mle.refl _, fun cc cs hp hc => ⟨?_, rfl⟩⟩
        obtain ⟨ad, ds, h1, h2, h3, h4, h5⟩ := hc
        refine ⟨ad, ds, h1, h2, hp.G _ (.inl h3), ?_, ?_⟩
        · rw [hp.w]; exact Enc_G (fun r hr => hp.G r (.inl hr)) h4
        · rw [hp.w]; exact h5
      · cases h
    | _ => simp [Sh.ext] at h
  | ptr b p =>
    intro v m m' x h
    cases v with
    | ptr b' q =>
      simp only [Sh.ext] at h
      split at h
      · rename_i hpq
        have := beq_path hpq
        subst this
        split at h
        · rename_i σ' hσ
          have h := Option.some.inj h
          obtain ⟨rfl, rfl⟩ := Prod.mk.inj h
          obtain ⟨g1, g2⟩ := get_bind hσ
          refine ⟨⟨g2, fun b hb => hb⟩, fun cc cs hp hc => ⟨?_, rfl⟩⟩
          obtain ⟨v, e, h1, h2⟩ := hc
          exact ⟨v, e, h1, part_ptr hp g1 h2⟩
        · cases h
      · cases h
    | _ => simp [Sh.ext] at h
  | npt =>
    intro v m m' x h
    cases v with
    | npt =>
      simp only [Sh.ext] at h
      have h := Option.some.inj h
      obtain ⟨rfl, rfl⟩ := Prod.mk.inj h
      exact ⟨Mle.refl _, fun cc cs hp hc => ⟨hc, rfl⟩⟩
    | _ => simp [Sh.ext] at h
  | whole b =>
    intro v m m' x h
    cases v with
    | whole b' =>
      simp only [Sh.ext] at h
      split at h
      · rename_i σ' hσ
        have h := Option.some.inj h
        obtain ⟨rfl, rfl⟩ := Prod.mk.inj h
        obtain ⟨g1, g2⟩ := get_bind hσ
        refine ⟨⟨g2, fun b hb => hb⟩, fun cc cs hp hc => ⟨?_, rfl⟩⟩
        obtain ⟨v, e, h1, h2⟩ := hc
        exact ⟨v, e, h1, part_whole hp g1 h2⟩
      · cases h
    | _ => simp [Sh.ext] at h
  | pair p q ihp ihq =>
    intro v m m' x h
    cases v with
    | pair u w =>
      simp only [Sh.ext] at h
      split at h
      · rename_i y m1 hy
        split at h
        · rename_i z m2 hz
          have h := Option.some.inj h
          obtain ⟨rfl, rfl⟩ := Prod.mk.inj h
          obtain ⟨l1, r1⟩ := ihp u m m1 y hy
          obtain ⟨l2, r2⟩ := ihq w m1 m2 z hz
          refine ⟨l1.trans l2, fun cc cs hp hc => ⟨?_, rfl⟩⟩
          obtain ⟨c1, c2, e, h1, h2⟩ := hc
          exact ⟨c1, c2, e, (r1 cc c1 (hp.le l2) h1).1, (r2 cc c2 hp h2).1⟩
        · cases h
      · cases h
    | _ => simp [Sh.ext] at h
  | fn f =>
    intro v m m' x h
    cases v with
    | fn g =>
      simp only [Sh.ext] at h
      split at h
      · rename_i hb
        have := Nat.eq_of_beq_eq_true hb
        subst this
        have h := Option.some.inj h
        obtain ⟨rfl, rfl⟩ := Prod.mk.inj h
        exact ⟨Mle.refl _, fun cc cs hp hc => ⟨hc, rfl⟩⟩
      · cases h
    | _ => simp [Sh.ext] at h
  | dead => intro v m m' x h; cases v <;> simp [Sh.ext] at h

theorem Sh_ext_v {c : Cx} (hB : ∀ b, BlkOk c b) {s : Sh} {v : PV} {m m' : Mt} {x : s.D} (h : s.ext c.H v m = some (x, m')) : Mle m m' ∧
    ∀ (cc : Cx) (u : Value), Part cc c m'.σ m'.lent → VOk c v u → VOk cc (s.mk x) u := by
  obtain ⟨h1, h2⟩ := Sh_ext hB s v m m' x h
  refine ⟨h1, fun cc u hp hv => ?_⟩
  cases v with
  | tup p => cases s <;> first | (simp [Sh.ext] at h; done) | (rename_i t; cases t <;> simp [Sh.ext, toVal] at h)
  | undef => cases s <;> first | (simp [Sh.ext] at h; done) | (rename_i t; cases t <;> simp [Sh.ext, toVal] at h)
  | _ =>
    obtain ⟨cs, hc, hu⟩ := hv
    obtain ⟨k1, k2⟩ := h2 cc cs hp hc
    rw [← k2] at hu
    generalize s.mk x = pv at k1 hu
    cases pv <;> first | exact k1.elim | exact ⟨cs, k1, hu⟩

theorem extSlots_ok {c : Cx} (hB : ∀ b, BlkOk c b) : ∀ (l : List Sh) (vs : List PV) (m m' : Mt) (x : ShD l), extSlots c.H l vs m = some (x, m') → Mle m m' ∧
    ∀ (cc : Cx) (us : List Value), Part cc c m'.σ m'.lent → All2 (VOk c) vs us → ∃ us', us = us' ++ us.drop l.length ∧ us'.length = l.length ∧ All2 (VOk cc) (mkSlots l x) us' := by
  intro l
  induction l with
  | nil =>
    intro vs m m' x h
    simp only [extSlots, Option.some.injEq, Prod.mk.injEq] at h
    obtain ⟨_, rfl⟩ := h
    exact ⟨Mle.refl _, fun cc us _ _ => ⟨[], by simp, rfl, trivial⟩⟩
  | cons s l ih =>
    intro vs m m' x h
    cases vs with
    | nil => simp [extSlots] at h
    | cons v vs =>
      simp only [extSlots] at h
      split at h
      · rename_i y m1 hy
        split at h
        · rename_i z m2 hz
          have h := Option.some.inj h
          obtain ⟨rfl, rfl⟩ := Prod.mk.inj h
          obtain ⟨l2, r2⟩ := ih vs m1 m2 z hz
          have hmk : mkSlots (s :: l) (ShD.cons s l y z) = s.mk y :: mkSlots l z := by cases s <;> rfl
          have hstep : Mle m m1 ∧ ∀ (cc : Cx) (u : Value), Part cc c m1.σ m1.lent → VOk c v u → VOk cc (s.mk y) u := by
            cases s with
            | dead =>
              simp only [Sh.ext', Option.some.injEq, Prod.mk.injEq] at hy
              obtain ⟨_, rfl⟩ := hy
              exact ⟨Mle.refl _, fun _ _ _ _ => trivial⟩
            | _ => exact Sh_ext_v hB hy
          obtain ⟨l1, r1⟩ := hstep
          refine ⟨l1.trans l2, fun cc us hp ha => ?_⟩
          cases us with
          | nil => exact ha.elim
          | cons u us =>
            obtain ⟨hu, ha⟩ := ha
            obtain ⟨us', e, hl, ha'⟩ := r2 cc us hp ha
            refine ⟨u :: us', by simp only [List.length_cons, List.drop_succ_cons, List.cons_append]; rw [← e], by simp [hl], ?_⟩
            rw [hmk]
            exact ⟨r1 cc u (hp.le l2) hu, ha'⟩
        · cases h
      · cases h
end Sym

/- Shapes: a whole state's part. -/
namespace Sym
open Go

theorem mle_bext {c : Cx} (hB : ∀ b, BlkOk c b) {b : BSh} {B : Blk} {m m' : Mt} {x : b.D} (h : b.ext c.H B m = some (x, m')) : Mle m m' ∧ BlkSim (b.mk x) B := by
  cases b with
  | box t s =>
    cases B with
    | box u v =>
      simp only [BSh.ext] at h
      split at h
      · rename_i htu
        split at h
        · rename_i y m1 hy
          split at h
          · have h := Option.some.inj h
            obtain ⟨rfl, rfl⟩ := Prod.mk.inj h
            exact ⟨(Sh_ext hB s v m m1 y hy).1, Ty.beq_eq htu⟩
          · cases h
        · cases h
      · cases h
    | _ => simp [BSh.ext] at h
  | row t =>
    cases B with
    | row u l =>
      simp only [BSh.ext] at h
      split at h
      · rename_i y hy
        obtain ⟨e, rfl⟩ := cast_eq hy
        injection e with e
        subst e
        have h := Option.some.inj h
        obtain ⟨rfl, rfl⟩ := Prod.mk.inj h
        exact ⟨Mle.refl _, rfl, rfl⟩
      · cases h
    | _ => simp [BSh.ext] at h

theorem bext_ok {c : Cx} (hB : ∀ b, BlkOk c b) {b : BSh} {j : Nat} {m m' : Mt} {x : b.D} (h : b.ext c.H (blkAt c.H j) m = some (x, m')) {cc : Cx} (hp : Part cc c m'.σ m'.lent) {i : Nat} (hij : m'.σ.get i = some j) (hi : blkAt cc.H i = b.mk x) : BlkOk cc i := by
  have hb := hB j
  obtain ⟨hρ, _⟩ := hp.blk i j hij
  unfold BlkOk at hb ⊢
  rw [hi]
  cases b with
  | box t s =>
    cases hB2 : blkAt c.H j with
    | box u v =>
      rw [hB2] at h
      simp only [hB2] at hb
      simp only [BSh.ext] at h
      split at h
      · split at h
        · rename_i y m1 hy
          split at h
          · rename_i hfit
            have h := Option.some.inj h
            obtain ⟨rfl, rfl⟩ := Prod.mk.inj h
            obtain ⟨r, cs, ty, e1, e2, e3, e4⟩ := hb
            exact ⟨r, cs, ty, hρ.trans e1, by rw [hp.w]; exact e2, ((Sh_ext hB s v m m1 y hy).2 cc cs hp e3).1, hfit⟩
          · cases h
        · cases h
      · cases h
    | _ => rw [hB2] at h; simp [BSh.ext] at h
  | row t =>
    cases hB2 : blkAt c.H j with
    | row u l =>
      rw [hB2] at h
      simp only [hB2] at hb
      simp only [BSh.ext] at h
      split at h
      · rename_i y hy
        obtain ⟨e, rfl⟩ := cast_eq hy
        injection e with e
        subst e
        have h := Option.some.inj h
        obtain ⟨rfl, rfl⟩ := Prod.mk.inj h
        obtain ⟨hl, e, xs, ho, hx⟩ := hb
        refine ⟨hl, e, xs, ?_, EncL_mono (fun x cs he => ?_) _ xs hx⟩
        · show cc.w.ownsRow 0 e _ (cc.ρ i) _ xs
          rw [hρ, hp.w]; exact ho
        · rw [hp.w]; exact Enc_G (fun r hr => hp.G r (.inl hr)) he
      · cases h
    | _ => rw [hB2] at h; simp [BSh.ext] at h

theorem extHeap_ok {c : Cx} (hB : ∀ b, BlkOk c b) : ∀ (l : List BSh) (i0 : Nat) (m m' : Mt) (y : BShD l), extHeap c.H l i0 m = some (y, m') → Mle m m' ∧
    (∀ k, k < l.length → ∃ j, m'.σ.get (i0 + k) = some j ∧ BlkSim (blkAt (mkHeap l y) k) (blkAt c.H j)) ∧
    ∀ cc, Part cc c m'.σ m'.lent → (∀ k, k < l.length → blkAt cc.H (i0 + k) = blkAt (mkHeap l y) k) → ∀ k, k < l.length → BlkOk cc (i0 + k) := by
  intro l
  induction l with
  | nil =>
    intro i0 m m' y h
    simp only [extHeap, Option.some.injEq, Prod.mk.injEq] at h
    obtain ⟨_, rfl⟩ := h
    exact ⟨Mle.refl _, fun k hk => by simp at hk, fun cc _ _ k hk => by simp at hk⟩
  | cons b l ih =>
    intro i0 m m' y h
    simp only [extHeap] at h
    split at h
    · rename_i j hj
      split at h
      · rename_i x m1 hx
        split at h
        · rename_i z m2 hz
          have h := Option.some.inj h
          obtain ⟨rfl, rfl⟩ := Prod.mk.inj h
          obtain ⟨l1, s1⟩ := mle_bext hB hx
          obtain ⟨l2, s2, r2⟩ := ih (i0 + 1) m1 m2 z hz
          refine ⟨l1.trans l2, fun k hk => ?_, fun cc hp hH k hk => ?_⟩
          · cases k with
            | zero => exact ⟨j, l2.1 _ _ (l1.1 _ _ hj), s1⟩
            | succ k =>
              obtain ⟨j', g1, g2⟩ := s2 k (by simpa using hk)
              exact ⟨j', by rw [show i0 + (k + 1) = i0 + 1 + k by omega]; exact g1, g2⟩
          · cases k with
            | zero => exact bext_ok hB hx (hp.le l2) (l1.1 _ _ hj) (hH 0 (by simp))
            | succ k =>
              have := r2 cc hp (fun k hk => by have := hH (k + 1) (by simpa using hk); rw [show i0 + 1 + k = i0 + (k + 1) by omega]; exact this) k (by simpa using hk)
              rw [show i0 + (k + 1) = i0 + 1 + k by omega]
              exact this
        · cases h
      · cases h
    · cases h

theorem blkAt_ge : ∀ (H : List Blk) (i : Nat), H.length ≤ i → blkAt H i = .unborn
  | [], _, _ => rfl
  | _ :: H, 0, h => by simp at h
  | _ :: H, i + 1, h => blkAt_ge H i (by simpa using h)

theorem mkHeap_len : ∀ (l : List BSh) (y : BShD l), (mkHeap l y).length = l.length
  | [], _ => rfl
  | _ :: l, y => by simp [mkHeap, mkHeap_len l y.2]

theorem keys_ok : ∀ (σ : Sub) (n : Nat), σ.keys n = true → ∀ i j, σ.get i = some j → i < n
  | [], _, _, i, j, h => by cases h
  | (k, l) :: σ, n, hk, i, j, h => by
    simp only [Sub.keys, Bool.and_eq_true] at hk
    simp only [Sub.get] at h
    split at h
    · rename_i hb
      have := Nat.eq_of_beq_eq_true hb
      have := Nat.le_of_ble_eq_true hk.1
      omega
    · exact keys_ok σ n hk.2 i j h

theorem inv_of_get : ∀ (σ : Sub) (i j : Nat), σ.get i = some j → σ.inv j = true
  | [], _, _, h => by cases h
  | (k, l) :: σ, i, j, h => by
    simp only [Sub.get] at h
    simp only [Sub.inv, Bool.or_eq_true]
    split at h
    · left; simp only [Option.some.injEq] at h; rw [h]; exact Nat.beq_refl j
    · right; exact inv_of_get σ i j h

theorem inj_ok : ∀ (σ : Sub), σ.inj = true → ∀ i i' j, σ.get i = some j → σ.get i' = some j → i = i'
  | [], _, i, i', j, h, _ => by cases h
  | (k, l) :: σ, hk, i, i', j, h, h' => by
    simp only [Sub.inj, Bool.and_eq_true, Bool.not_eq_true'] at hk
    simp only [Sub.get] at h h'
    split at h
    · rename_i hb
      have e1 := Nat.eq_of_beq_eq_true hb
      simp only [Option.some.injEq] at h
      split at h'
      · rename_i hb'
        have e2 := Nat.eq_of_beq_eq_true hb'
        omega
      · have := inv_of_get σ i' j h'
        rw [← h] at this
        rw [hk.1] at this; cases this
    · split at h'
      · simp only [Option.some.injEq] at h'
        have := inv_of_get σ i j h
        rw [← h'] at this
        rw [hk.1] at this; cases this
      · exact inj_ok σ hk.2 i i' j h h'

/-- The part of a state that a shape takes out. -/
def partCx (c : Cx) (τ : Tm) (x : τ.D) (m : Mt) (G : Nat → Prop) : Cx :=
  ⟨c.w, G, fun i => match m.σ.get i with | some j => c.ρ j | none => .bool false, mkHeap τ.heap x.2⟩

theorem Tm_ext {c : Cx} (hB : ∀ b, BlkOk c b) {τ : Tm} {vs : List PV} {x : τ.D} {m : Mt} (h : τ.ext vs c.H = some (x, m)) :
    (∀ b, b ∈ m.lent → m.σ.inv b = false ∧ live (blkAt c.H b) = true) ∧ (∀ i j, m.σ.get i = some j → i < τ.heap.length) ∧ (∀ i, i < τ.heap.length → ∃ j, m.σ.get i = some j) ∧ (∀ i i' j, m.σ.get i = some j → m.σ.get i' = some j → i = i') ∧
    (∀ i j, m.σ.get i = some j → BlkSim (blkAt (mkHeap τ.heap x.2) i) (blkAt c.H j)) ∧
    ∀ (G : Nat → Prop), (∀ r, Glent c m.lent r → G r) → (∀ i, BlkOk (partCx c τ x m G) i) ∧
      ∀ us, All2 (VOk c) vs us → ∃ us', us = us' ++ us.drop τ.slots.length ∧ us'.length = τ.slots.length ∧ All2 (VOk (partCx c τ x m G)) (mkSlots τ.slots x.1) us' := by
  unfold Tm.ext at h
  split at h
  · rename_i y m1 hy
    split at h
    · rename_i z m2 hz
      split at h
      · rename_i hok
        have h := Option.some.inj h
        obtain ⟨rfl, rfl⟩ := Prod.mk.inj h
        simp only [Mt.okb, Bool.and_eq_true, List.all_eq_true, Bool.not_eq_true'] at hok
        obtain ⟨k1, k2, k3⟩ := hok
        obtain ⟨l1, r1⟩ := extSlots_ok hB τ.slots vs ⟨[], []⟩ m1 y hy
        obtain ⟨l2, s2, r2⟩ := extHeap_ok hB τ.heap 0 m1 m2 z hz
        simp only [Nat.zero_add] at s2 r2
        have hsim : ∀ i j, m2.σ.get i = some j → BlkSim (blkAt (mkHeap τ.heap z) i) (blkAt c.H j) := by
          intro i j hij
          obtain ⟨j', g1, g2⟩ := s2 i (keys_ok _ _ k2 i j hij)
          rw [hij] at g1
          simp only [Option.some.injEq] at g1
          subst g1
          exact g2
        refine ⟨k1, keys_ok _ _ k2, fun i hi => (s2 i hi).imp fun j hj => hj.1, inj_ok _ k3, hsim, fun G hG => ?_⟩
        have hp : Part (partCx c τ (y, z) m2 G) c m2.σ m2.lent := ⟨rfl, fun i j hij => ⟨by simp [partCx, hij], hsim i j hij⟩, hG⟩
        refine ⟨fun i => ?_, fun us ha => r1 _ us (hp.le l2) ha⟩
        by_cases hi : i < τ.heap.length
        · exact r2 _ hp (fun k _ => rfl) i hi
        · unfold BlkOk
          rw [show blkAt (partCx c τ (y, z) m2 G).H i = .unborn from blkAt_ge _ _ (by rw [show (partCx c τ (y, z) m2 G).H = mkHeap τ.heap z from rfl, mkHeap_len]; omega)]
          trivial
      · cases h
    · cases h
  · cases h
end Sym

/- Calls by contract. -/
namespace Sym
open Go

structure Start (c : Cx) : Prop where
  blk : ∀ b, BlkOk c b
  inj : ∀ b b' r, live (blkAt c.H b) = true → live (blkAt c.H b') = true → blkOf (c.ρ b) = some r → blkOf (c.ρ b') = some r → b = b'
  G : ∀ r, c.G r → r < c.w.heap.size ∧ ∀ b, live (blkAt c.H b) = true → blkOf (c.ρ b) ≠ some r

def ownOf (c : Cx) : Nat → Prop := fun r => ∃ b, live (blkAt c.H b) = true ∧ blkOf (c.ρ b) = some r
def G0of (c : Cx) : Nat → Prop := fun r => c.G r ∨ ownOf c r

theorem Start.mem {c : Cx} (h : Start c) : Mem c.w (G0of c) (ownOf c) c := by
  refine ⟨rfl, rfl, rfl, Nat.le_refl _, fun _ _ _ => rfl, h.blk, h.inj, fun b r hl he => .inl ⟨b, hl, he⟩, ?_, fun r hr => .inr hr⟩
  funext r
  refine propext ⟨fun hr => ⟨.inl (.inl hr), h.G r hr⟩, fun hr => ?_⟩
  obtain ⟨h1, h2, h3⟩ := hr
  rcases h1 with (h1 | ⟨b, hl, he⟩) | h1
  · exact h1
  · exact absurd he (h3 b hl)
  · omega

/-- A call of a function, with a body or without: it answers. -/
def CallsX (P : Program) (f : FuncId) (args : Array Value) (w : World) (R : Value → World → Prop) : Prop :=
  (∃ v w', (callFunc f args).run P w = .ok (.value v) w' ∧ R v w') ∨
  ((callFunc f args).run P w = .ok (.enter f args) w ∧ Calls P f args w fun e w' => ∃ v, e = .returned v ∧ R v w')

/-- The function answers as its contract says. -/
def ConOk (P : Program) (f : FuncId) (C : Con) : Prop :=
  ∀ x y, C.F x = some y → ∀ (c : Cx) (vals : List Value), Start c → c.H = mkHeap C.In.heap x.2 → All2 (VOk c) (mkSlots C.In.slots x.1) vals →
    CallsX P f vals.toArray c.w fun v w' => ∃ c', c'.w = w' ∧ c'.H = mkHeap C.Out.heap y.2 ∧ VOk c' (tuple (mkSlots C.Out.slots y.1)) v ∧ Mem c.w (G0of c) (ownOf c) c'

theorem Enc_nosl {w w' : World} {G G' : Nat → Prop} : ∀ (t : Ty), t.hasSl = false → ∀ (x : t.D) (cs : List Value), Enc w G t x cs → Enc w' G' t x cs := by
  intro t
  induction t with
  | cons a b iha ihb =>
    intro h x cs he
    simp only [Ty.hasSl, Bool.or_eq_false_iff] at h
    obtain ⟨c1, c2, e, h1, h2⟩ := he
    exact ⟨c1, c2, e, iha h.1 _ _ h1, ihb h.2 _ _ h2⟩
  | arr n t ih => intro h x cs he; exact EncArr_mono (fun x cs he => ih h x cs he) n x cs he
  | sl t _ => intro h; cases h
  | opq => intro _ x cs he; exact he.elim
  | _ => intro _ x cs he; exact he

def pvNoSl : PV → Bool
  | .val t _ => !t.hasSl
  | .pair a b => pvNoSl a && pvNoSl b
  | .tup a => pvNoSl a
  | .bptr _ _ => false
  | _ => true

theorem mk_nosl : ∀ (s : Sh) (x : s.D), s.hasSl = false → pvNoSl (s.mk x) = true := by
  intro s
  induction s with
  | pl t => intro x h; simp only [Sh.hasSl] at h; simp [Sh.mk, pvNoSl, h]
  | pair a b iha ihb => intro x h; simp only [Sh.hasSl, Bool.or_eq_false_iff] at h; simp [Sh.mk, pvNoSl, iha _ h.1, ihb _ h.2]
  | bp t => intro x h; simp [Sh.hasSl] at h
  | _ => intro x _; rfl

/-- c2 holds what c1 holds, its blocks numbered by f. -/
structure Ren (c1 c2 : Cx) (f : Nat → Nat) : Prop where
  w : c2.w = c1.w
  blk : ∀ i, blkAt c1.H i ≠ .unborn → blkAt c2.H (f i) = renBlk f (blkAt c1.H i) ∧ c2.ρ (f i) = c1.ρ i

theorem ptr_ren {c1 c2 : Cx} {f : Nat → Nat} (h : Ren c1 c2 f) {b : Nat} {p : List Step} {v : Value} (hv : PtrOk c1 b p v) : PtrOk c2 (f b) p v := by
  unfold PtrOk at *
  cases hb : blkAt c1.H b with
  | unborn => simp [hb] at hv
  | dead => have := (h.blk b (by simp [hb])).1; simp only [hb, renBlk] at hv this; simp only [this]; exact hv
  | box t u => obtain ⟨e1, e2⟩ := h.blk b (by simp [hb]); simp only [hb, renBlk] at hv e1; simp only [e1, e2]; exact hv
  | row t l => obtain ⟨e1, e2⟩ := h.blk b (by simp [hb]); simp only [hb, renBlk] at hv e1; simp only [e1, e2]; exact hv

theorem cells_ren {c1 c2 : Cx} {f : Nat → Nat} (h : Ren c1 c2 f) : ∀ (v : PV) (cs : List Value), ((∀ r, c1.G r → c2.G r) ∨ pvNoSl v = true) → CellsPV c1 v cs → CellsPV c2 (renPV f v) cs := by
  intro v
  induction v with
  | val t x =>
    intro cs hG he
    show Enc c2.w c2.G t x cs
    rcases hG with hG | hG
    · rw [h.w]; exact Enc_G hG he
    · exact Enc_nosl t (by simpa [pvNoSl] using hG) x cs he
  | pair a b iha ihb =>
    intro cs hG he
    obtain ⟨d1, d2, e, h1, h2⟩ := he
    refine ⟨d1, d2, e, iha _ (hG.imp _root_.id fun h => ?_) h1, ihb _ (hG.imp _root_.id fun h => ?_) h2⟩ <;> simp only [pvNoSl, Bool.and_eq_true] at h
    · exact h.1
    · exact h.2
  | ptr b p => intro cs hG he; obtain ⟨v, e, h1, h2⟩ := he; exact ⟨v, e, h1, ptr_ren h h2⟩
  | bptr t x =>
    intro cs hG he
    obtain ⟨ad, ds, h1, h2, h3, h4, h5⟩ := he
    rcases hG with hG | hG
    · exact ⟨ad, ds, h1, h2, hG _ h3, by rw [h.w]; exact Enc_G hG h4, by rw [h.w]; exact h5⟩
    · simp [pvNoSl] at hG
  | whole b =>
    intro cs hG he
    obtain ⟨v, e, h1, h2⟩ := he
    refine ⟨v, e, h1, ?_⟩
    unfold WholeOk at *
    cases hb : blkAt c1.H b with
    | unborn => simp [hb] at h2
    | dead => have := (h.blk b (by simp [hb])).1; simp only [hb, renBlk] at this; simp only [this]
    | box t u => simp [hb] at h2
    | row t l => obtain ⟨e1, e2⟩ := h.blk b (by simp [hb]); simp only [hb, renBlk] at h2 e1; simp only [e1, e2]; exact h2
  | row b lo n =>
    intro cs hG he
    obtain ⟨v, e, h1, h2⟩ := he
    refine ⟨v, e, h1, ?_⟩
    unfold RowOk at *
    cases hb : blkAt c1.H b with
    | unborn => simp [hb] at h2
    | dead => have := (h.blk b (by simp [hb])).1; simp only [hb, renBlk] at this; simp only [this]
    | box t u => simp [hb] at h2
    | row t l => obtain ⟨e1, e2⟩ := h.blk b (by simp [hb]); simp only [hb, renBlk] at h2 e1; simp only [e1, e2]; exact h2
  | aview b p lo n =>
    intro cs hG he
    obtain ⟨v, e, h1, h2⟩ := he
    refine ⟨v, e, h1, ?_⟩
    unfold AviewOk at *
    cases hb : blkAt c1.H b with
    | unborn => simp [hb] at h2
    | dead => have := (h.blk b (by simp [hb])).1; simp only [hb, renBlk] at this; simp only [this]
    | row t u => simp [hb] at h2
    | box t l => obtain ⟨e1, e2⟩ := h.blk b (by simp [hb]); simp only [hb, renBlk] at h2 e1; simp only [e1, e2]; exact h2
  | nils => intro cs _ he; exact he
  | npt => intro cs _ he; exact he
  | fn f => intro cs _ he; exact he
  | tup a => intro cs _ he; exact he
  | undef => intro cs _ he; exact he

theorem isAgg_ren (f : Nat → Nat) (v : PV) : isAggPV (renPV f v) = isAggPV v := by cases v <;> rfl

theorem tup_ren {c1 c2 : Cx} {f : Nat → Nat} (h : Ren c1 c2 f) : ∀ (v : PV) (vs : List Value), ((∀ r, c1.G r → c2.G r) ∨ pvNoSl v = true) → TupOk c1 v vs → TupOk c2 (renPV f v) vs := by
  intro v
  induction v with
  | pair a b iha ihb =>
    intro vs hG he
    obtain ⟨cs, vs', e, h1, h2⟩ := he
    refine ⟨cs, vs', by rw [isAgg_ren]; exact e, cells_ren h _ _ (hG.imp _root_.id fun h => ?_) h1, ihb _ (hG.imp _root_.id fun h => ?_) h2⟩ <;> simp only [pvNoSl, Bool.and_eq_true] at h
    · exact h.1
    · exact h.2
  | val t x => intro vs hG he; cases t <;> first | exact he | exact he.elim
  | _ => intro vs hG he; exact he.elim

theorem v_ren {c1 c2 : Cx} {f : Nat → Nat} (h : Ren c1 c2 f) {v : PV} {u : Value} (hG : (∀ r, c1.G r → c2.G r) ∨ pvNoSl v = true) (hv : VOk c1 v u) : VOk c2 (renPV f v) u := by
  cases v with
  | tup a => obtain ⟨vs, e, ht⟩ := hv; exact ⟨vs, e, tup_ren h a vs hG ht⟩
  | undef => trivial
  | _ => obtain ⟨cs, h1, e⟩ := hv; have := cells_ren h _ cs hG h1; exact ⟨cs, this, e⟩

theorem nosl_tuple : ∀ (l : List Sh) (x : ShD l), l.any Sh.hasSl = false → pvNoSl (tuple (mkSlots l x)) = true := by
  have hall : ∀ (l : List Sh) (x : ShD l), l.any Sh.hasSl = false → ∀ v ∈ mkSlots l x, pvNoSl v = true := by
    intro l
    induction l with
    | nil => intro x _ v hv; simp [mkSlots] at hv
    | cons s l ih =>
      intro x h v hv
      simp only [List.any_cons, Bool.or_eq_false_iff] at h
      cases s with
      | pl t => simp only [mkSlots, List.mem_cons] at hv; rcases hv with rfl | hv; exact mk_nosl (.pl t) x.1 h.1; exact ih _ h.2 v hv
      | bp t => simp only [mkSlots, List.mem_cons] at hv; rcases hv with rfl | hv; exact mk_nosl (.bp t) x.1 h.1; exact ih _ h.2 v hv
      | pair p q => simp only [mkSlots, List.mem_cons] at hv; rcases hv with rfl | hv; exact mk_nosl (.pair p q) x.1 h.1; exact ih _ h.2 v hv
      | _ => simp only [mkSlots, List.mem_cons] at hv; rcases hv with rfl | hv; rfl; exact ih _ h.2 v hv
  have hfold : ∀ (vs : List PV), (∀ v ∈ vs, pvNoSl v = true) → pvNoSl (vs.foldr .pair (.val .nil ())) = true := by
    intro vs
    induction vs with
    | nil => intro _; rfl
    | cons v vs ih => intro h; simp only [List.foldr_cons, pvNoSl, Bool.and_eq_true]; exact ⟨h v (by simp), ih fun u hu => h u (by simp [hu])⟩
  intro l x h
  have := hall l x h
  generalize mkSlots l x = vs at this
  match vs, this with
  | [], _ => rfl
  | [v], h => exact h v (by simp)
  | v :: u :: r, h => exact hfold (v :: u :: r) h

theorem newBlks_at (nb : Nat) : ∀ (B : List Blk) (i : Nat) (H : List Blk) (j : Nat), blkAt (putBlks H (newBlks nb i B)) j = if nb + i ≤ j ∧ j < nb + i + B.length then renBlk (fun k => nb + k) (blkAt B (j - (nb + i))) else blkAt H j
  | [], i, H, j => by simp only [newBlks, putBlks, List.length_nil]; rw [if_neg (by omega)]
  | b :: B, i, H, j => by
    simp only [newBlks, putBlks]
    rw [newBlks_at nb B (i + 1), blkAt_put]
    simp only [List.length_cons]
    by_cases h1 : j = nb + i
    · subst h1
      rw [if_neg (by omega), if_pos rfl, if_pos (by omega), Nat.sub_self]
      rfl
    · by_cases h2 : nb + (i + 1) ≤ j ∧ j < nb + (i + 1) + B.length
      · rw [if_pos h2, if_pos (by omega), show j - (nb + i) = (j - (nb + (i + 1))) + 1 by omega]
        rfl
      · rw [if_neg h2, if_neg h1, if_neg (by omega)]

theorem live_ren (f : Nat → Nat) (b : Blk) : live (renBlk f b) = live b := by cases b <;> rfl

theorem mkHeap_kind : ∀ (l : List BSh) (y : BShD l) (i : Nat), i < l.length → ∃ b, l[i]? = some b ∧ ∃ x : b.D, blkAt (mkHeap l y) i = b.mk x
  | [], _, _, h => by simp at h
  | b :: l, y, 0, _ => ⟨b, rfl, y.1, rfl⟩
  | b :: l, y, i + 1, h => by
    obtain ⟨b', h1, x, h2⟩ := mkHeap_kind l y.2 i (by simpa using h)
    exact ⟨b', by simpa using h1, x, h2⟩

section
variable {P : Program} {base : World} {G0 own0 : Nat → Prop} {o : Oper} {a : Act} {c : Cx}

theorem exec_call {k : Call} (ho : o.op = .call k) {fo : Operand} (hk : k.callee = .value fo) {f : FuncId} (hf : a.eval fo = .func (.func f) #[] #[]) (w : World) : (execOp a.eval o).run P w = (callFunc f (k.args.map a.eval)).run P w := by
  simp only [execOp, ho, resolve, hk, hf, Deferred.ofValue, Sem.run_bind, Sem.run_pure, Result.andThen_ok, invoke]
  simp

theorem fits_ren (f : Nat → Nat) : ∀ (v : PV) (t : Ty), fits (renPV f v) t = fits v t := by
  intro v
  induction v with
  | pair a b iha ihb => intro t; cases t <;> simp [renPV, fits, iha, ihb]
  | _ => intro t; cases t <;> rfl

theorem law_call (hM : Mem base G0 own0 c) {k : Call} (ho : o.op = .call k) {fo : Operand} (hk : k.callee = .value fo) {f : FuncId} (hfo : VOk c (.fn f) (a.eval fo)) {C : Con} (hC : ConOk P f C) (hin : C.In.heap = []) {vs : List PV} (ha : All2 (VOk c) vs (k.args.toList.map a.eval)) (hlen : vs.length = C.In.slots.length)
    {x : C.In.D} {m : Mt} (hx : C.In.ext vs c.H = some (x, m)) {y : C.Out.D} (hy : C.F x = some y) {nb : Nat} (hn : ∀ i, i < C.Out.heap.length → blkAt c.H (nb + i) = .unborn) :
    OpRes P base G0 own0 o a c (renPV (fun k => nb + k) (tuple (mkSlots C.Out.slots y.1))) ((match C.Out.hasSl with | true => kill m.lent | false => []) ++ newBlks nb 0 (mkHeap C.Out.heap y.2)) := by
  obtain ⟨t1, t2, t3, t4, t5, t6⟩ := Tm_ext hM.blk hx
  obtain ⟨hblk, hargs⟩ := t6 (Glent c m.lent) (fun r h => h)
  obtain ⟨us', e1, e2, hargs⟩ := hargs _ ha
  have hll : (k.args.toList.map a.eval).length = C.In.slots.length := by
    rw [← hlen]
    have : ∀ (vs : List PV) (us : List Value), All2 (VOk c) vs us → us.length = vs.length := by
      intro vs
      induction vs with
      | nil => intro us h; cases us with | nil => rfl | cons _ _ => exact h.elim
      | cons v vs ih => intro us h; cases us with | nil => exact h.elim | cons u us => simp [ih us h.2]
    exact this vs _ ha
  have e1 : k.args.toList.map a.eval = us' := by
    rw [List.drop_of_length_le (by omega)] at e1
    simpa using e1
  subst e1
  -- the callee's start
  have hσ : ∀ i j, m.σ.get i = some j → False := fun i j h => by have := t2 i j h; rw [hin] at this; simp at this
  have hdead : ∀ b, blkAt (partCx c C.In x m (Glent c m.lent)).H b = .unborn := fun b => blkAt_ge _ _ (by show (mkHeap C.In.heap x.2).length ≤ b; rw [mkHeap_len, hin]; simp)
  have hGl : ∀ r, Glent c m.lent r → r < c.w.heap.size := by
    rintro r (h | ⟨b, hb, hl, he⟩)
    · rw [hM.G] at h; exact h.2.1
    · exact (hM.blk b).lt hl he
  have hS : Start (partCx c C.In x m (Glent c m.lent)) := by
    refine ⟨hblk, fun b b' r h => (by rw [hdead b] at h; cases h), fun r hr => ⟨hGl r hr, fun b h => (by rw [hdead b] at h; cases h)⟩⟩
  have hcall := hC x y hy _ _ hS rfl hargs
  have hfv : a.eval fo = .func (.func f) #[] #[] := by
    obtain ⟨cs, h1, h2⟩ := hfo
    simp only [CellsPV] at h1
    subst h1; exact h2
  -- behind the call
  have after : ∀ v w', (∃ c' : Cx, c'.w = w' ∧ c'.H = mkHeap C.Out.heap y.2 ∧ VOk c' (tuple (mkSlots C.Out.slots y.1)) v ∧ Mem c.w (G0of (partCx c C.In x m (Glent c m.lent))) (ownOf (partCx c C.In x m (Glent c m.lent))) c') →
      ∃ c2 : Cx, c2.w = w' ∧ Ext c c2 ∧ Mem base G0 own0 c2 ∧ c2.H = putBlks c.H ((match C.Out.hasSl with | true => kill m.lent | false => []) ++ newBlks nb 0 (mkHeap C.Out.heap y.2)) ∧ VOk c2 (renPV (fun k => nb + k) (tuple (mkSlots C.Out.slots y.1))) v := by
    rintro v w' ⟨c', rfl, hH', hv', hM'⟩
    have hlc := mkHeap_len C.Out.heap y.2
    -- lent rows go first
    obtain ⟨c1, hw1, hH1, hρ1, hE1, hM1, hsame1, hG1⟩ : ∃ c1 : Cx, c1.w = c.w ∧ c1.H = putBlks c.H (match C.Out.hasSl with | true => kill m.lent | false => []) ∧ c1.ρ = c.ρ ∧ Ext c c1 ∧ Mem base G0 own0 c1 ∧ (∀ i, i < C.Out.heap.length → blkAt c1.H (nb + i) = .unborn) ∧
        (C.Out.hasSl = true → ∀ r, Glent c m.lent r → c1.G r) := by
      cases hsl : C.Out.hasSl with
      | false => exact ⟨c, rfl, rfl, rfl, Ext.refl c, hM, hn, fun h => by cases h⟩
      | true =>
        have hlive : ∀ b ∈ m.lent, live (blkAt c.H b) = true := fun b hb => (t1 b hb).2
        obtain ⟨c1, h1, h2, h3, h4, h5, h6, h7⟩ := mem_kill hM m.lent hlive
        refine ⟨c1, h1, h2, h3, h4, h5, fun i hi => ?_, fun _ => h6⟩
        rw [h7 _ fun hmem => by have := hlive _ hmem; rw [hn i hi] at this; cases this]
        exact hn i hi
    let H2 := putBlks c1.H (newBlks nb 0 (mkHeap C.Out.heap y.2))
    let ρ2 : Nat → Value := fun j => if nb ≤ j ∧ j < nb + C.Out.heap.length then c'.ρ (j - nb) else c1.ρ j
    have hH2 : ∀ j, blkAt H2 j = if nb ≤ j ∧ j < nb + C.Out.heap.length then renBlk (fun k => nb + k) (blkAt (mkHeap C.Out.heap y.2) (j - nb)) else blkAt c1.H j := by
      intro j
      have := newBlks_at nb (mkHeap C.Out.heap y.2) 0 c1.H j
      simp only [Nat.add_zero, hlc] at this
      exact this
    have hnew : ∀ i r, live (blkAt c'.H i) = true → blkOf (c'.ρ i) = some r → c.w.heap.size ≤ r := by
      intro i r hl he
      rcases hM'.own i r hl he with ⟨b, hb, _⟩ | h
      · rw [hdead b] at hb; cases hb
      · exact h
    have hT : Turn base G0 own0 c1 (Cx.next base G0 c'.w ρ2 H2) (fun j => nb ≤ j ∧ j < nb + C.Out.heap.length) := by
      refine ⟨hM'.os.trans (by rw [hw1]), hM'.tape.trans (by rw [hw1]), hM'.output.trans (by rw [hw1]), by show c1.w.heap.size ≤ c'.w.heap.size; rw [hw1]; exact hM'.size, fun j hj => by simp [Cx.next, ρ2, hj], fun j hj => by simp only [Cx.next]; rw [hH2, if_neg hj], fun r hr _ => ?_, fun j hj => ?_, fun j r hj hl he => ?_, fun j j' r hj hj' hl hl' he he' => ?_, rfl⟩
      · show c'.w.heap[r]? = c1.w.heap[r]?
        rw [hw1] at hr ⊢
        refine hM'.frame r hr fun ⟨b, hb, _⟩ => ?_
        rw [hdead b] at hb; cases hb
      · unfold BlkLe
        have := hsame1 (j - nb) (by omega)
        rw [show nb + (j - nb) = j by omega] at this
        simp [this]
      · left
        have hl : live (blkAt H2 j) = true := hl
        have he : blkOf (ρ2 j) = some r := he
        rw [hH2, if_pos hj, live_ren] at hl
        simp only [ρ2, if_pos hj] at he
        rw [hw1]
        exact hnew (j - nb) r (by rw [hH']; exact hl) he
      · have hl : live (blkAt H2 j) = true := hl
        have he : blkOf (ρ2 j) = some r := he
        have hl' : live (blkAt H2 j') = true := hl'
        have he' : blkOf (ρ2 j') = some r := he'
        rw [hH2, if_pos hj, live_ren] at hl
        rw [hH2, if_pos hj', live_ren] at hl'
        simp only [ρ2, if_pos hj] at he
        simp only [ρ2, if_pos hj'] at he'
        have := hM'.inj (j - nb) (j' - nb) r (by rw [hH']; exact hl) (by rw [hH']; exact hl') he he'
        omega
    have hE := hT.ext hM1
    have hren : Ren c' (Cx.next base G0 c'.w ρ2 H2) (fun k => nb + k) := by
      refine ⟨rfl, fun i hi => ?_⟩
      have hlt : i < C.Out.heap.length := by
        rcases Nat.lt_or_ge i C.Out.heap.length with h | h
        · exact h
        · exact absurd (blkAt_ge c'.H i (by rw [hH', hlc]; exact h)) hi
      simp only [Cx.next]
      rw [hH2, if_pos ⟨by omega, by omega⟩, show nb + i - nb = i by omega, hH']
      exact ⟨rfl, by simp only [ρ2]; rw [if_pos ⟨by omega, by omega⟩, show nb + i - nb = i by omega]⟩
    have hGG : C.Out.hasSl = true → ∀ r, c'.G r → (Cx.next base G0 c'.w ρ2 H2).G r := by
      intro hsl r hr
      rw [hM'.G] at hr
      obtain ⟨h1, h2, h3⟩ := hr
      have fresh : c.w.heap.size ≤ r → (Cx.next base G0 c'.w ρ2 H2).G r := by
        intro hge
        refine ⟨.inr (by have := hM.size; omega), h2, fun j hl he => ?_⟩
        have hl : live (blkAt H2 j) = true := hl
        have he : blkOf (ρ2 j) = some r := he
        rw [hH2] at hl
        split at hl
        · rename_i hj
          rw [live_ren] at hl
          simp only [ρ2, if_pos hj] at he
          exact h3 (j - nb) (by rw [hH']; exact hl) he
        · rename_i hj
          simp only [ρ2, if_neg hj] at he
          have := (hM1.blk j).lt hl he
          rw [hw1] at this
          omega
      rcases h1 with (h1 | ⟨b, hb, _⟩) | h1
      · exact (hE.G r (hG1 hsl r h1)).1
      · rw [hdead b] at hb; cases hb
      · exact fresh h1
    have hMem := hT.mem hM1 fun j hj => by
      have hb := hM'.blk (j - nb)
      obtain ⟨b, hbl, xb, hbk⟩ := mkHeap_kind C.Out.heap y.2 (j - nb) (by omega)
      have hbh : C.Out.hasSl = false → b.hasSl = false := by
        intro hsl
        simp only [Tm.hasSl, Bool.or_eq_false_iff] at hsl
        have := hsl.2
        rw [List.any_eq_false] at this
        have := this b (List.mem_of_getElem? hbl)
        simpa using this
      unfold BlkOk at hb ⊢
      simp only [Cx.next]
      rw [hH2, if_pos hj, hbk]
      rw [hH', hbk] at hb
      cases b with
      | box t s =>
        simp only [BSh.mk, renBlk] at hb ⊢
        obtain ⟨r, cs, ty, k1, k2, k3, k4⟩ := hb
        refine ⟨r, cs, ty, by simp only [ρ2, if_pos hj]; exact k1, k2, cells_ren hren _ cs ?_ k3, by rw [fits_ren]; exact k4⟩
        cases hsl : C.Out.hasSl with
        | true => exact .inl (hGG hsl)
        | false => exact .inr (mk_nosl s xb (by have := hbh hsl; simpa [BSh.hasSl] using this))
      | row t =>
        simp only [BSh.mk, renBlk] at hb ⊢
        obtain ⟨hl, e, xs, ho', hx'⟩ := hb
        refine ⟨hl, e, xs, by simp only [ρ2, if_pos hj]; exact ho', EncL_mono (fun z cs hz => ?_) _ xs hx'⟩
        cases hsl : C.Out.hasSl with
        | true => exact Enc_G (hGG hsl) hz
        | false => exact Enc_nosl t (by have := hbh hsl; simpa [BSh.hasSl] using this) z cs hz
    refine ⟨Cx.next base G0 c'.w ρ2 H2, rfl, hE1.trans hE, hMem, by show H2 = _; rw [putBlks_app, ← hH1], v_ren hren ?_ hv'⟩
    cases hsl : C.Out.hasSl with
    | true => exact .inl (hGG hsl)
    | false => exact .inr (nosl_tuple _ _ (by simp only [Tm.hasSl, Bool.or_eq_false_iff] at hsl; exact hsl.1))
  intro K Q hK
  unfold Oper.wp
  rw [exec_call ho hk hfv]
  have hargs' : k.args.map a.eval = (k.args.toList.map a.eval).toArray := by apply Array.ext'; simp
  rw [hargs']
  rcases hcall with ⟨v, w', hr, hR⟩ | ⟨hr, hR⟩
  · have hr : (callFunc f (k.args.toList.map a.eval).toArray).run P c.w = .ok (.value v) w' := hr
    rw [hr]
    obtain ⟨c2, rfl, g1, g2, g3, g4⟩ := after v w' hR
    exact hK v c2 g1 g2 g3 g4
  · have hr : (callFunc f (k.args.toList.map a.eval).toArray).run P c.w = .ok (.enter f (k.args.toList.map a.eval).toArray) c.w := hr
    rw [hr]
    refine Calls.mono hR ?_
    rintro e w' ⟨v, rfl, hR⟩
    obtain ⟨c2, rfl, g1, g2, g3, g4⟩ := after v w' hR
    exact hK v c2 g1 g2 g3 g4
end

/-- A slice that lies in no block of the world before. -/
def FreshS (n : Nat) (v : Value) : Prop := ∀ ad l cap, v = .slice (some ad) l cap → l = 0 ∨ n ≤ ad.block
def FreshV (n : Nat) (v : Value) : Prop := FreshS n v ∧ ∀ vs, v = .tuple vs → ∀ u ∈ vs.toList, FreshS n u

/-- The function answers as its contract says, and its slices are new. -/
def ConFresh (P : Program) (f : FuncId) (C : Con) : Prop :=
  ∀ x y, C.F x = some y → ∀ (c : Cx) (vals : List Value), Start c → c.H = mkHeap C.In.heap x.2 → All2 (VOk c) (mkSlots C.In.slots x.1) vals →
    CallsX P f vals.toArray c.w fun v w' => (∃ c', c'.w = w' ∧ c'.H = mkHeap C.Out.heap y.2 ∧ VOk c' (tuple (mkSlots C.Out.slots y.1)) v ∧ Mem c.w (G0of c) (ownOf c) c') ∧ FreshV c.w.heap.size v

theorem enc_fresh {w : World} {G G' : Nat → Prop} {n : Nat} {t : Ty} (ht : freshTy t = true) {x : t.D} {cs : List Value} (he : Enc w G t x cs) (hf : ∀ u ∈ cs, FreshS n u) (hG : ∀ r, G r → n ≤ r → G' r) : Enc w G' t x cs := by
  cases t with
  | sl t =>
    simp only [freshTy, Bool.not_eq_true'] at ht
    obtain ⟨a, c, e, hc, hl, hx⟩ := he
    refine ⟨a, c, e, hc, hl, ?_⟩
    rcases hx with hx | ⟨ad, ha, hs, hg, hr⟩
    · exact .inl hx
    · by_cases h0 : (show List t.D from x) = []
      · exact .inl h0
      · right
        refine ⟨ad, ha, hs, hG _ hg ?_, fun i y hy => ?_⟩
        · subst e ha
          rcases hf _ (List.mem_singleton_self _) ad _ _ rfl with h | h
          · exact absurd (List.eq_nil_of_length_eq_zero h) h0
          · exact h
        · obtain ⟨ds, h1, h2⟩ := hr i y hy
          exact ⟨ds, Enc_nosl t ht y ds h1, h2⟩
  | _ => exact Enc_nosl _ (by simpa [freshTy] using ht) x cs he

theorem FreshArr_nosl {w : World} {G : Nat → Prop} {n : Nat} {X : Type} {E : X → List Value → Prop} (h : ∀ x cs, E x cs → ∀ u ∈ cs, FreshS n u) : ∀ (k : Nat) (x : Arr X k) (cs : List Value), EncArr E k x cs → ∀ u ∈ cs, FreshS n u
  | 0, _, cs, he, u, hu => by simp only [EncArr] at he; subst he; simp at hu
  | k + 1, x, cs, he, u, hu => by
    obtain ⟨c1, c2, rfl, h1, h2⟩ := he
    rcases List.mem_append.1 hu with hu | hu
    · exact h _ _ h1 u hu
    · exact FreshArr_nosl (w := w) (G := G) h k x.2 c2 h2 u hu

theorem FreshS_nosl {w : World} {G : Nat → Prop} {n : Nat} : ∀ (t : Ty), t.hasSl = false → ∀ {x : t.D} {cs : List Value}, Enc w G t x cs → ∀ u ∈ cs, FreshS n u := by
  intro t
  induction t with
  | int k => intro _ x cs h u hu; simp only [Enc] at h; subst h; simp only [List.mem_singleton] at hu; subst hu; intro ad l cap h; cases h
  | bool => intro _ x cs h u hu; simp only [Enc] at h; subst h; simp only [List.mem_singleton] at hu; subst hu; intro ad l cap h; cases h
  | str => intro _ x cs h u hu; obtain ⟨h, _⟩ := h; subst h; simp only [List.mem_singleton] at hu; subst hu; intro ad l cap h; cases h
  | nil => intro _ x cs h u hu; simp only [Enc] at h; subst h; simp at hu
  | opq => intro _ x cs h; exact h.elim
  | sl t _ => intro h; cases h
  | cons a b iha ihb =>
    intro hs x cs h u hu
    simp only [Ty.hasSl, Bool.or_eq_false_iff] at hs
    obtain ⟨c1, c2, rfl, h1, h2⟩ := h
    rcases List.mem_append.1 hu with hu | hu
    · exact iha hs.1 h1 u hu
    · exact ihb hs.2 h2 u hu
  | arr k t ih =>
    intro hs x cs h u hu
    exact FreshArr_nosl (w := w) (G := G) (fun x cs h => ih hs h) k x cs h u hu

theorem tup_fresh {c1 c2 : Cx} {n : Nat} (hw : c2.w = c1.w) (hG : ∀ r, c1.G r → n ≤ r → c2.G r) : ∀ (l : List Sh) (x : ShD l) (vs : List Value), l.all freshSh = true → TupOk c1 ((mkSlots l x).foldr .pair (.val .nil ())) vs → (∀ u ∈ vs, FreshS n u) → TupOk c2 ((mkSlots l x).foldr .pair (.val .nil ())) vs
  | [], _, vs, _, h, _ => h
  | .pl t :: l, x, vs, hl, h, hf => by
    simp only [List.all_cons, Bool.and_eq_true] at hl
    obtain ⟨cs, vs', e, h1, h2⟩ := h
    subst e
    refine ⟨cs, vs', rfl, ?_, tup_fresh hw hG l x.2 vs' hl.2 h2 fun u hu => hf u (List.mem_cons_of_mem _ hu)⟩
    have hu := hf _ (List.mem_cons_self)
    show Enc c2.w c2.G t x.1 cs
    rw [hw]
    refine enc_fresh hl.1 h1 (fun u hu' => ?_) hG
    cases t with
    | sl t =>
      obtain ⟨a, cp, e, _⟩ := h1
      subst e
      simp only [List.mem_singleton] at hu'
      subst hu'
      exact hu
    | int k => simp only [CellsPV, Enc] at h1; subst h1; simp only [List.mem_singleton] at hu'; subst hu'; intro ad l cap h; cases h
    | bool => simp only [CellsPV, Enc] at h1; subst h1; simp only [List.mem_singleton] at hu'; subst hu'; intro ad l cap h; cases h
    | str => obtain ⟨h1, _⟩ := h1; subst h1; simp only [List.mem_singleton] at hu'; subst hu'; intro ad l cap h; cases h
    | opq => exact h1.elim
    | nil => simp only [CellsPV, Enc] at h1; subst h1; simp at hu'
    | cons a b => exact FreshS_nosl (.cons a b) (by simpa [freshSh, freshTy] using hl.1) h1 u hu'
    | arr k t => exact FreshS_nosl (.arr k t) (by simpa [freshSh, freshTy] using hl.1) h1 u hu'
  | .bp _ :: _, _, _, hl, _, _ => by simp [freshSh] at hl
  | .pair _ _ :: _, _, _, hl, _, _ => by simp [freshSh] at hl
  | .ptr _ _ :: _, _, _, hl, _, _ => by simp [freshSh] at hl
  | .npt :: _, _, _, hl, _, _ => by simp [freshSh] at hl
  | .whole _ :: _, _, _, hl, _, _ => by simp [freshSh] at hl
  | .fn _ :: _, _, _, hl, _, _ => by simp [freshSh] at hl
  | .dead :: _, _, _, hl, _, _ => by simp [freshSh] at hl

theorem v_fresh {c1 c2 : Cx} {n : Nat} (hw : c2.w = c1.w) (hG : ∀ r, c1.G r → n ≤ r → c2.G r) (l : List Sh) (x : ShD l) (hl : l.all freshSh = true) {v : Value} (hv : VOk c1 (tuple (mkSlots l x)) v) (hf : FreshV n v) : VOk c2 (tuple (mkSlots l x)) v := by
  match l, x, hl, hv with
  | [], _, _, hv => exact hv
  | [.pl t], x, hl, hv =>
    obtain ⟨cs, h1, e⟩ := hv
    refine ⟨cs, ?_, e⟩
    simp only [List.all_cons, Bool.and_eq_true] at hl
    show Enc c2.w c2.G t x.1 cs
    rw [hw]
    refine enc_fresh hl.1 h1 (fun u hu => ?_) hG
    cases t with
    | sl t =>
      obtain ⟨a, cp, e', _⟩ := h1
      subst e'
      simp only [List.mem_singleton] at hu
      subst hu
      have e : v = .slice a _ cp := e
      subst e
      exact hf.1
    | int k => exact FreshS_nosl (.int k) rfl h1 u hu
    | bool => exact FreshS_nosl .bool rfl h1 u hu
    | str => exact FreshS_nosl .str rfl h1 u hu
    | opq => exact h1.elim
    | nil => exact FreshS_nosl .nil rfl h1 u hu
    | cons a b => exact FreshS_nosl (.cons a b) (by simpa [freshSh, freshTy] using hl.1) h1 u hu
    | arr k t => exact FreshS_nosl (.arr k t) (by simpa [freshSh, freshTy] using hl.1) h1 u hu
  | .pl t :: .pl u :: r, x, hl, hv =>
    obtain ⟨vs, e, h⟩ := hv
    exact ⟨vs, e, tup_fresh hw hG (.pl t :: .pl u :: r) x vs hl h fun u hu => hf.2 _ e u (by simpa using hu)⟩
  | .bp _ :: _, _, hl, _ => simp [freshSh] at hl
  | .pair _ _ :: _, _, hl, _ => simp [freshSh] at hl
  | .ptr _ _ :: _, _, hl, _ => simp [freshSh] at hl
  | .npt :: _, _, hl, _ => simp [freshSh] at hl
  | .whole _ :: _, _, hl, _ => simp [freshSh] at hl
  | .fn _ :: _, _, hl, _ => simp [freshSh] at hl
  | .dead :: _, _, hl, _ => simp [freshSh] at hl
  | .pl _ :: .bp _ :: _, _, hl, _ => simp [freshSh] at hl
  | .pl _ :: .pair _ _ :: _, _, hl, _ => simp [freshSh] at hl
  | .pl _ :: .ptr _ _ :: _, _, hl, _ => simp [freshSh] at hl
  | .pl _ :: .npt :: _, _, hl, _ => simp [freshSh] at hl
  | .pl _ :: .whole _ :: _, _, hl, _ => simp [freshSh] at hl
  | .pl _ :: .fn _ :: _, _, hl, _ => simp [freshSh] at hl
  | .pl _ :: .dead :: _, _, hl, _ => simp [freshSh] at hl

section
variable {P : Program} {base : World} {G0 own0 : Nat → Prop} {o : Oper} {a : Act} {c : Cx}

theorem law_callFresh (hM : Mem base G0 own0 c) {k : Call} (ho : o.op = .call k) {fo : Operand} (hk : k.callee = .value fo) {f : FuncId} (hfo : VOk c (.fn f) (a.eval fo)) {C : Con} (hC : ConFresh P f C) (hin : C.In.heap = []) (hout : C.Out.heap = []) (hsh : C.Out.slots.all freshSh = true)
    {vs : List PV} (ha : All2 (VOk c) vs (k.args.toList.map a.eval)) (hlen : vs.length = C.In.slots.length)
    {x : C.In.D} {m : Mt} (hx : C.In.ext vs c.H = some (x, m)) {y : C.Out.D} (hy : C.F x = some y) :
    OpRes P base G0 own0 o a c (tuple (mkSlots C.Out.slots y.1)) [] := by
  obtain ⟨t1, t2, t3, t4, t5, t6⟩ := Tm_ext hM.blk hx
  obtain ⟨hblk, hargs⟩ := t6 (Glent c m.lent) (fun r h => h)
  obtain ⟨us', e1, e2, hargs⟩ := hargs _ ha
  have hll : (k.args.toList.map a.eval).length = C.In.slots.length := by
    rw [← hlen]
    have : ∀ (vs : List PV) (us : List Value), All2 (VOk c) vs us → us.length = vs.length := by
      intro vs
      induction vs with
      | nil => intro us h; cases us with | nil => rfl | cons _ _ => exact h.elim
      | cons v vs ih => intro us h; cases us with | nil => exact h.elim | cons u us => simp [ih us h.2]
    exact this vs _ ha
  have e1 : k.args.toList.map a.eval = us' := by
    rw [List.drop_of_length_le (by omega)] at e1
    simpa using e1
  subst e1
  have hdead : ∀ b, blkAt (partCx c C.In x m (Glent c m.lent)).H b = .unborn := fun b => blkAt_ge _ _ (by show (mkHeap C.In.heap x.2).length ≤ b; rw [mkHeap_len, hin]; simp)
  have hGl : ∀ r, Glent c m.lent r → r < c.w.heap.size := by
    rintro r (h | ⟨b, hb, hl, he⟩)
    · rw [hM.G] at h; exact h.2.1
    · exact (hM.blk b).lt hl he
  have hS : Start (partCx c C.In x m (Glent c m.lent)) := by
    refine ⟨hblk, fun b b' r h => (by rw [hdead b] at h; cases h), fun r hr => ⟨hGl r hr, fun b h => (by rw [hdead b] at h; cases h)⟩⟩
  have hcall := hC x y hy _ _ hS rfl hargs
  have hfv : a.eval fo = .func (.func f) #[] #[] := by
    obtain ⟨cs, h1, h2⟩ := hfo
    simp only [CellsPV] at h1
    subst h1; exact h2
  have after : ∀ v w', ((∃ c' : Cx, c'.w = w' ∧ c'.H = mkHeap C.Out.heap y.2 ∧ VOk c' (tuple (mkSlots C.Out.slots y.1)) v ∧ Mem c.w (G0of (partCx c C.In x m (Glent c m.lent))) (ownOf (partCx c C.In x m (Glent c m.lent))) c') ∧ FreshV c.w.heap.size v) →
      ∃ c2 : Cx, c2.w = w' ∧ Ext c c2 ∧ Mem base G0 own0 c2 ∧ c2.H = putBlks c.H [] ∧ VOk c2 (tuple (mkSlots C.Out.slots y.1)) v := by
    rintro v w' ⟨⟨c', rfl, hH', hv', hM'⟩, hfr⟩
    have hT : Turn base G0 own0 c (Cx.next base G0 c'.w c.ρ c.H) (fun _ => False) := by
      refine ⟨hM'.os, hM'.tape, hM'.output, hM'.size, fun _ _ => rfl, fun _ _ => rfl, fun r hr _ => ?_, fun _ h => h.elim, fun _ _ h => h.elim, fun _ _ _ h => h.elim, rfl⟩
      refine hM'.frame r hr fun ⟨b, hb, _⟩ => ?_
      rw [hdead b] at hb; cases hb
    refine ⟨Cx.next base G0 c'.w c.ρ c.H, rfl, hT.ext hM, hT.mem hM fun _ h => h.elim, rfl, v_fresh (c1 := c') (c2 := Cx.next base G0 c'.w c.ρ c.H) rfl (fun r hr hge => ?_) _ _ hsh hv' hfr⟩
    rw [hM'.G] at hr
    refine ⟨.inr (by have := hM.size; omega), hr.2.1, fun j hl he => ?_⟩
    have hl : live (blkAt c.H j) = true := hl
    have he : blkOf (c.ρ j) = some r := he
    have := (hM.blk j).lt hl he
    omega
  intro K Q hK
  unfold Oper.wp
  rw [exec_call ho hk hfv]
  have hargs' : k.args.map a.eval = (k.args.toList.map a.eval).toArray := by apply Array.ext'; simp
  rw [hargs']
  rcases hcall with ⟨v, w', hr, hR⟩ | ⟨hr, hR⟩
  · have hr : (callFunc f (k.args.toList.map a.eval).toArray).run P c.w = .ok (.value v) w' := hr
    rw [hr]
    obtain ⟨c2, rfl, g1, g2, g3, g4⟩ := after v w' hR
    exact hK v c2 g1 g2 g3 g4
  · have hr : (callFunc f (k.args.toList.map a.eval).toArray).run P c.w = .ok (.enter f (k.args.toList.map a.eval).toArray) c.w := hr
    rw [hr]
    refine Calls.mono hR ?_
    rintro e w' ⟨v, rfl, hR⟩
    obtain ⟨c2, rfl, g1, g2, g3, g4⟩ := after v w' hR
    exact hK v c2 g1 g2 g3 g4
end
end Sym

/- What an operation reads of the heap: the blocks that its operands name. -/
namespace Sym
open Go

/-- Two heaps agree at the blocks listed. -/
def Ag (H H' : List Blk) (l : List Nat) : Prop := ∀ b, b ∈ l → blkAt H' b = blkAt H b

theorem Ag.left {H H' : List Blk} {l r : List Nat} (h : Ag H H' (l ++ r)) : Ag H H' l := fun b hb => h b (by simp [hb])
theorem Ag.right {H H' : List Blk} {l r : List Nat} (h : Ag H H' (l ++ r)) : Ag H H' r := fun b hb => h b (by simp [hb])
theorem Ag.one {H H' : List Blk} {b : Nat} {r : List Nat} (h : Ag H H' (b :: r)) : blkAt H' b = blkAt H b := h b (by simp)
theorem Ag.tl {H H' : List Blk} {b : Nat} {r : List Nat} (h : Ag H H' (b :: r)) : Ag H H' r := fun c hc => h c (by simp [hc])

theorem toVal_ag {H H' : List Blk} : ∀ (t : Ty) (v : PV), Ag H H' (blks v) → toVal H' t v = toVal H t v := by
  intro t
  induction t with
  | cons a b iha ihb =>
    intro v h
    cases v with
    | pair p q => simp only [toVal]; rw [iha p (h.left), ihb q (h.right)]
    | _ => rfl
  | sl t _ =>
    intro v h
    cases v with
    | whole b => simp only [toVal]; rw [h.one]
    | row b lo n => simp only [toVal]; rw [h.one]
    | aview b p lo n => simp only [toVal]; rw [h.one]
    | _ => rfl
  | _ => intro v h; cases v <;> rfl

theorem toVal_lent_sub {H : List Blk} : ∀ (t : Ty) (v : PV) (x : t.D) (l : List Nat), toVal H t v = some (x, l) → ∀ b ∈ l, b ∈ blks v := by
  intro t
  have cv : ∀ (t u : Ty) (y : u.D) (x : t.D) (l : List Nat), (match Ty.cast u t y with | some z => some (z, ([] : List Nat)) | none => none) = some (x, l) → l = [] := by
    intro t u y x l h
    split at h
    · simp only [Option.some.injEq, Prod.mk.injEq] at h; exact h.2.symm
    · cases h
  induction t with
  | cons a b iha ihb =>
    intro v x l h
    cases v with
    | pair p q =>
      simp only [toVal] at h
      split at h
      · rename_i y z hy hz
        have h := Option.some.inj h
        obtain ⟨_, rfl⟩ := Prod.mk.inj h
        intro b hb
        simp only [List.mem_append, blks] at hb ⊢
        exact hb.imp (iha p y.1 y.2 hy b) (ihb q z.1 z.2 hz b)
      · cases h
    | val u y => simp only [toVal] at h; rw [cv _ _ _ _ _ h]; simp
    | _ => simp [toVal] at h
  | sl t _ =>
    intro v x l h
    cases v with
    | val u y => simp only [toVal] at h; rw [cv _ _ _ _ _ h]; simp
    | nils => simp only [toVal, Option.some.injEq, Prod.mk.injEq] at h; obtain ⟨_, rfl⟩ := h; simp
    | whole b =>
      simp only [toVal] at h
      split at h
      · split at h
        · have h := Option.some.inj h; obtain ⟨_, rfl⟩ := Prod.mk.inj h; simp [blks]
        · cases h
      · cases h
    | row b lo n =>
      simp only [toVal] at h
      split at h
      · split at h
        · have h := Option.some.inj h; obtain ⟨_, rfl⟩ := Prod.mk.inj h; simp [blks]
        · cases h
      · cases h
    | aview b p lo n =>
      simp only [toVal] at h
      split at h
      · split at h
        · split at h
          · have h := Option.some.inj h; obtain ⟨_, rfl⟩ := Prod.mk.inj h; simp [blks]
          · cases h
        · cases h
      · cases h
    | _ => simp [toVal] at h
  | _ =>
    intro v x l h
    cases v with
    | val u y => simp only [toVal] at h; rw [cv _ _ _ _ _ h]; simp
    | _ => simp [toVal] at h

theorem lenPV_ag {H H' : List Blk} (v : PV) (h : Ag H H' (blks v)) : lenPV H' v = lenPV H v := by
  cases v with
  | whole b => simp only [lenPV]; rw [h.one]
  | row b lo n => simp only [lenPV]; rw [h.one]
  | aview b p lo n => simp only [lenPV]; rw [h.one]
  | val t x => cases t <;> rfl
  | _ => rfl

theorem slcLen_ag {H H' : List Blk} (E : Env) (id : Nat) (v : PV) (h : Ag H H' (blks v)) : slcLen E H' id v = slcLen E H id v := by
  unfold slcLen
  split
  · rfl
  · exact lenPV_ag v h

theorem ptrIs_ag {H H' : List Blk} {b : Nat} (h : blkAt H' b = blkAt H b) (p : List Step) (t : Ty) : ptrIs H' b p t = ptrIs H b p t := by
  unfold ptrIs; rw [h]

theorem fillRow_ag {H H' : List Blk} (t : Ty) : ∀ (r : List (Nat × PV)) (l : List t.D), (∀ p ∈ r, Ag H H' (blks p.2)) → fillRow H' t l r = fillRow H t l r
  | [], _, _ => rfl
  | (i, u) :: r, l, h => by
    simp only [fillRow]
    rw [toVal_ag t u (h (i, u) (by simp))]
    split
    · split
      · rename_i x b _
        rw [fillRow_ag t r (setAt l i x) fun p hp => h p (by simp [hp])]
      · rfl
    · rfl

theorem zip_ag {H H' : List Blk} : ∀ (is : List Nat) (vs : List PV), Ag H H' (blksL vs) → ∀ p ∈ zipNat is vs, Ag H H' (blks p.2)
  | [], _, _, p, hp => by simp [zipNat] at hp
  | _ :: _, [], _, p, hp => by simp [zipNat] at hp
  | i :: is, v :: vs, h, p, hp => by
    simp only [zipNat, List.mem_cons] at hp
    rcases hp with rfl | hp
    · exact h.left
    · exact zip_ag is vs h.right p hp

theorem shext_ag {H H' : List Blk} : ∀ (s : Sh) (v : PV) (m : Mt), Ag H H' (blks v) → s.ext H' v m = s.ext H v m := by
  intro s
  induction s with
  | pl t => intro v m h; simp only [Sh.ext]; rw [toVal_ag t v h]
  | pair a b iha ihb =>
    intro v m h
    cases v with
    | pair p q =>
      simp only [Sh.ext]
      rw [iha p m h.left]
      split
      · rename_i x m1 _; rw [ihb q m1 h.right]
      · rfl
    | _ => rfl
  | _ => intro v m h; cases v <;> rfl

theorem extSlots_ag {H H' : List Blk} : ∀ (l : List Sh) (vs : List PV) (m : Mt), Ag H H' (blksL vs) → extSlots H' l vs m = extSlots H l vs m
  | [], _, _, _ => rfl
  | _ :: _, [], _, _ => rfl
  | s :: l, v :: vs, m, h => by
    simp only [extSlots]
    have : s.ext' H' v m = s.ext' H v m := by
      cases s <;> first | rfl | exact shext_ag _ v m h.left
    rw [this]
    split
    · rename_i x m1 _; rw [extSlots_ag l vs m1 h.right]
    · rfl

theorem lent_sub {H : List Blk} : ∀ (s : Sh) (v : PV) (m : Mt) (x : s.D) (m' : Mt), s.ext H v m = some (x, m') → ∀ b ∈ m'.lent, b ∈ m.lent ∨ b ∈ blks v := by
  intro s
  induction s with
  | pl t =>
    intro v m x m' h
    simp only [Sh.ext] at h
    split at h
    · rename_i y l hy
      have h := Option.some.inj h
      obtain ⟨_, rfl⟩ := Prod.mk.inj h
      intro b hb
      simp only [List.mem_append] at hb
      exact hb.symm.imp id (toVal_lent_sub t v y l hy b)
    · cases h
  | bp t =>
    intro v m x m' h
    cases v with
    | bptr u y =>
      simp only [Sh.ext] at h
      split at h
      · have h := Option.some.inj h; obtain ⟨_, rfl⟩ := Prod.mk.inj h; intro b hb; exact .inl hb
      · cases h
    | _ => simp [Sh.ext] at h
  | pair a c iha ihb =>
    intro v m x m' h
    cases v with
    | pair p q =>
      simp only [Sh.ext] at h
      split at h
      · rename_i y m1 hy
        split at h
        · rename_i z m2 hz
          have h := Option.some.inj h
          obtain ⟨_, rfl⟩ := Prod.mk.inj h
          intro b hb
          simp only [blks, List.mem_append]
          rcases ihb q m1 z m2 hz b hb with h | h
          · exact (iha p m y m1 hy b h).imp id .inl
          · exact .inr (.inr h)
        · cases h
      · cases h
    | _ => simp [Sh.ext] at h
  | ptr b0 p =>
    intro v m x m' h
    cases v with
    | ptr c q =>
      simp only [Sh.ext] at h
      split at h
      · split at h
        · have h := Option.some.inj h; obtain ⟨_, rfl⟩ := Prod.mk.inj h; intro b hb; exact .inl hb
        · cases h
      · cases h
    | _ => simp [Sh.ext] at h
  | npt =>
    intro v m x m' h
    cases v with
    | npt => simp only [Sh.ext] at h; have h := Option.some.inj h; obtain ⟨_, rfl⟩ := Prod.mk.inj h; intro b hb; exact .inl hb
    | _ => simp [Sh.ext] at h
  | whole b0 =>
    intro v m x m' h
    cases v with
    | whole c =>
      simp only [Sh.ext] at h
      split at h
      · have h := Option.some.inj h; obtain ⟨_, rfl⟩ := Prod.mk.inj h; intro b hb; exact .inl hb
      · cases h
    | _ => simp [Sh.ext] at h
  | fn f =>
    intro v m x m' h
    cases v with
    | fn g =>
      simp only [Sh.ext] at h
      split at h
      · have h := Option.some.inj h; obtain ⟨_, rfl⟩ := Prod.mk.inj h; intro b hb; exact .inl hb
      · cases h
    | _ => simp [Sh.ext] at h
  | dead => intro v m x m' h; cases v <;> simp [Sh.ext] at h

theorem slots_lent_sub {H : List Blk} : ∀ (l : List Sh) (vs : List PV) (m : Mt) (x : ShD l) (m' : Mt), extSlots H l vs m = some (x, m') → ∀ b ∈ m'.lent, b ∈ m.lent ∨ b ∈ blksL vs
  | [], vs, m, x, m', h, b, hb => by
    simp only [extSlots, Option.some.injEq, Prod.mk.injEq] at h
    obtain ⟨_, rfl⟩ := h
    exact .inl hb
  | _ :: _, [], _, _, _, h, _, _ => by simp [extSlots] at h
  | s :: l, v :: vs, m, x, m', h, b, hb => by
    simp only [extSlots] at h
    split at h
    · rename_i y m1 hy
      split at h
      · rename_i z m2 hz
        have h := Option.some.inj h
        obtain ⟨_, rfl⟩ := Prod.mk.inj h
        simp only [blksL, List.mem_append]
        rcases slots_lent_sub l vs m1 z m2 hz b hb with h1 | h1
        · have : b ∈ m.lent ∨ b ∈ blks v := by
            cases s with
            | dead => simp only [Sh.ext', Option.some.injEq, Prod.mk.injEq] at hy; obtain ⟨_, rfl⟩ := hy; exact .inl h1
            | _ => exact lent_sub _ v m y m1 hy b h1
          exact this.imp id .inl
        · exact .inr (.inr h1)
      · cases h
    · cases h

theorem tmext_ag {H H' : List Blk} {τ : Tm} (hin : τ.heap = []) (vs : List PV) (h : Ag H H' (blksL vs)) : τ.ext vs H' = τ.ext vs H := by
  obtain ⟨ss, hs⟩ := τ
  simp only at hin
  subst hin
  unfold Tm.ext
  simp only
  rw [extSlots_ag ss vs _ h]
  split
  · rename_i x m1 hx
    simp only [extHeap]
    have : m1.okb H' 0 = m1.okb H 0 := by
      unfold Mt.okb
      congr 1
      have : ∀ b ∈ m1.lent, blkAt H' b = blkAt H b := fun b hb => h b ((slots_lent_sub ss vs _ x m1 hx b hb).resolve_left (by simp))
      generalize m1.lent = l at this
      induction l with
      | nil => rfl
      | cons b l ih => simp only [List.all_cons]; rw [this b (by simp), ih fun c hc => this c (by simp [hc])]
    simp only [List.length_nil]
    rw [this]
  · rfl
end Sym

/- Every operation that the evaluator answers is answered by the machine. -/
namespace Sym
open Go

structure EnvOk (E : Env) : Prop where
  ty : ∀ id t, E.ty id = some t → TI E.P id t
  eqT : ∀ id t, E.eqT id = some t → EqI E.P id t
  con : ∀ f C, E.how f = some (.con C) → ConOk E.P f C
  fresh : ∀ f C, E.how f = some (.fresh C) → ConFresh E.P f C
  mixed : E.P.follows .mixedOrders = true

def OpOk (E : Env) (o : Oper) (args : List PV) (H : List Blk) (nb : Nat) (pv : PV) (δ : List (Nat × Blk)) : Prop :=
  ∀ (base : World) (G0 own0 : Nat → Prop) (a : Act) (c : Cx), Mem base G0 own0 c → Ag H c.H (blksL args) → All2 (VOk c) args (o.op.operands.toList.map a.eval) →
    (∀ p ∈ δ, nb ≤ p.1 → blkAt c.H p.1 = .unborn) → OpRes E.P base G0 own0 o a c pv δ

section
variable {E : Env} {R : Type} {T : R → Prop} {fail : R} {o : Oper} {args : List PV} {H : List Blk} {nb : Nat} {K : PV → List (Nat × Blk) → R}

abbrev Goal (E : Env) (T : R → Prop) (o : Oper) (args : List PV) (H : List Blk) (nb : Nat) (K : PV → List (Nat × Blk) → R) : Prop := ∃ pv δ, T (K pv δ) ∧ OpOk E o args H nb pv δ

theorem obl_ok (hf : ¬ T fail) {b : Bool} {r : R} (h : T (obl fail b r)) : b = true ∧ T r := by
  cases b
  · exact absurd h hf
  · exact ⟨rfl, h⟩

theorem m_move (hf : ¬ T fail) {x : Operand} (ho : o.op = .move x) (h : T (evOp E fail o args H nb K)) : Goal E T o args H nb K := by
  simp only [evOp, ho] at h
  split at h
  · refine ⟨_, _, h, fun base G0 own0 a c hM hag ha hn => law_assign hM (.inl ho) ?_⟩
    rw [ho] at ha; exact ha.1
  · exact absurd h hf

theorem m_assign (hf : ¬ T fail) {x : Operand} (ho : o.op = .assign x) (h : T (evOp E fail o args H nb K)) : Goal E T o args H nb K := by
  simp only [evOp, ho] at h
  split at h
  · rename_i t h1 h2
    have hx : x = .const (.slice none 0 0) := by
      unfold isNil at h1
      split at h1
      · rfl
      · cases h1
    subst hx
    exact ⟨_, _, h, fun base G0 own0 a c hM hag ha hn => law_assign_nil hM (hn (nb, .row t []) (by simp) (Nat.le_refl _)) t ho⟩
  · split at h
    · refine ⟨_, _, h, fun base G0 own0 a c hM hag ha hn => law_assign hM (.inr ho) ?_⟩
      rw [ho] at ha; exact ha.1
    · exact absurd h hf

theorem m_pick (hf : ¬ T fail) {x y z : Operand} (ho : o.op = .pick x y z) (h : T (evOp E fail o args H nb K)) : Goal E T o args H nb K := by
  simp only [evOp, ho] at h
  split at h
  · refine ⟨_, _, h, fun base G0 own0 a c hM hag ha hn => ?_⟩
    rw [ho] at ha
    exact law_pick_bool hM ho ha.1 ha.2.1 ha.2.2.1
  · rename_i p u v _
    cases hp : (show Bool from p) with
    | true =>
      simp only [hp, brn, cond_true] at h
      refine ⟨_, _, h, fun base G0 own0 a c hM hag ha hn => ?_⟩
      rw [ho] at ha
      exact law_pick hM ho ha.1 (fun _ => ha.2.1) (fun h => by cases h)
    | false =>
      simp only [hp, brn, cond_false] at h
      refine ⟨_, _, h, fun base G0 own0 a c hM hag ha hn => ?_⟩
      rw [ho] at ha
      exact law_pick hM ho ha.1 (fun h => by cases h) (fun _ => ha.2.2.1)
  · exact absurd h hf

theorem m_alloc (hE : EnvOk E) (hf : ¬ T fail) {id : TypeId} (ho : o.op = .alloc id) (h : T (evOp E fail o args H nb K)) : Goal E T o args H nb K := by
  simp only [evOp, ho] at h
  split at h
  · rename_i t ht
    split at h
    · rename_i hz
      simp only [Bool.and_eq_true, Bool.not_eq_true'] at hz
      refine ⟨_, _, h, fun base G0 own0 a c hM hag ha hn => law_alloc hM ho (hE.ty _ _ ht) hz.1 ?_ (hn _ (List.mem_singleton.2 rfl) (Nat.le_refl _))⟩
      rintro rfl; exact absurd hz.2 (by simp [Ty.isOpq])
    · exact absurd h hf
  · exact absurd h hf

theorem m_box (hf : ¬ T fail) {id : TypeId} {x : Operand} (ho : o.op = .box id x) (h : T (evOp E fail o args H nb K)) : Goal E T o args H nb K := by
  simp only [evOp, ho] at h
  split at h
  · rename_i t v ht
    split at h
    · rename_i hz
      refine ⟨_, _, h, fun base G0 own0 a c hM hag ha hn => ?_⟩
      rw [ho] at ha
      exact law_box hM ho ha.1 hz (hn _ (List.mem_singleton.2 rfl) (Nat.le_refl _))
    · exact absurd h hf
  · exact absurd h hf

theorem m_build (hE : EnvOk E) (hf : ¬ T fail) {id : TypeId} {ps : Array (Nat × Operand)} (ho : o.op = .build id ps) (h : T (evOp E fail o args H nb K)) : Goal E T o args H nb K := by
  simp only [evOp, ho] at h
  split at h
  · rename_i t ht
    split at h
    · rename_i hz
      simp only [Bool.and_eq_true] at hz
      split at h
      · rename_i v hv
        refine ⟨_, _, h, fun base G0 own0 a c hM hag ha hn => ?_⟩
        rw [ho] at ha
        exact law_build hM ho (hE.ty _ _ ht) hz.1 hz.2 (by simpa [Op.operands, List.map_map, Function.comp_def] using ha) hv
      · exact absurd h hf
    · exact absurd h hf
  · exact absurd h hf

theorem m_buildSlice (hE : EnvOk E) (hf : ¬ T fail) {id : TypeId} {n : Nat} {ps : Array (Nat × Operand)} (ho : o.op = .buildSlice id n ps) (h : T (evOp E fail o args H nb K)) : Goal E T o args H nb K := by
  simp only [evOp, ho] at h
  split at h
  · rename_i t ht
    split at h
    · rename_i hz
      simp only [Bool.and_eq_true] at hz
      split at h
      · rename_i l lent hv
        obtain ⟨hb, h⟩ := obl_ok hf h
        refine ⟨_, _, h, fun base G0 own0 a c hM hag ha hn => ?_⟩
        rw [ho] at ha
        rw [← fillRow_ag t _ _ (zip_ag _ args hag)] at hv
        exact law_buildSlice hM ho (hE.ty _ _ ht) hz.1 (Nat.le_of_ble_eq_true hz.2) (by simpa [Op.operands, List.map_map, Function.comp_def] using ha) hv hb (hn (nb, .row t l) (by simp) (Nat.le_refl _))
      · exact absurd h hf
    · exact absurd h hf
  · exact absurd h hf

theorem m_load (hE : EnvOk E) (hf : ¬ T fail) {id : TypeId} {x : Operand} (ho : o.op = .load id x) (h : T (evOp E fail o args H nb K)) : Goal E T o args H nb K := by
  simp only [evOp, ho] at h
  split at h
  · rename_i t b p ht
    split at h
    · rename_i s v hb
      split at h
      · rename_i hti
        split at h
        · rename_i u hu
          refine ⟨_, _, h, fun base G0 own0 a c hM hag ha hn => ?_⟩
          rw [ho] at ha
          have hag : blkAt c.H b = blkAt H b := hag b (by simp [blksL, blks])
          exact law_load_box hM ho (hE.ty _ _ ht).ok ha.1 (hag.trans hb) hti hu
        · exact absurd h hf
      · exact absurd h hf
    · rename_i s l hb
      split at h
      · rename_i i p
        split at h
        · rename_i hti
          split at h
          · rename_i u hu
            refine ⟨_, _, h, fun base G0 own0 a c hM hag ha hn => ?_⟩
            rw [ho] at ha
            have hag : blkAt c.H b = blkAt H b := hag b (by simp [blksL, blks])
            exact law_load_row hM ho (hE.ty _ _ ht).ok ha.1 (hag.trans hb) hti hu
          · exact absurd h hf
        · exact absurd h hf
      · exact absurd h hf
    · exact absurd h hf
  · rename_i t u y ht
    split at h
    · rename_i hb
      have := Ty.beq_eq hb
      subst this
      refine ⟨_, _, h, fun base G0 own0 a c hM hag ha hn => ?_⟩
      rw [ho] at ha
      exact law_load_bptr hM ho (hE.ty _ _ ht).ok ha.1
    · exact absurd h hf
  · exact absurd h hf

theorem m_store (hE : EnvOk E) (hf : ¬ T fail) {id : TypeId} {x y : Operand} (ho : o.op = .store id x y) (h : T (evOp E fail o args H nb K)) : Goal E T o args H nb K := by
  simp only [evOp, ho] at h
  split at h
  · rename_i t b p v ht
    split at h
    · rename_i hfit
      split at h
      · rename_i s u hb
        split at h
        · rename_i hti
          split at h
          · rename_i u' hu
            refine ⟨_, _, h, fun base G0 own0 a c hM hag ha hn => ?_⟩
            rw [ho] at ha
            have hag : blkAt c.H b = blkAt H b := hag b (by simp [blksL, blks])
            exact law_store_box hM ho (hE.ty _ _ ht).ok ha.1 ha.2.1 hfit (hag.trans hb) hti hu
          · exact absurd h hf
        · exact absurd h hf
      · rename_i s l hb
        split at h
        · rename_i i p
          split at h
          · rename_i hti
            split at h
            · rename_i yv lent hv
              split at h
              · rename_i z hz hnl
                refine ⟨_, _, h, fun base G0 own0 a c hM hag ha hn => ?_⟩
                rw [ho] at ha
                have hag1 : blkAt c.H b = blkAt H b := hag b (by simp [blksL, blks])
                rw [← toVal_ag (H' := c.H) t v (fun i hi => hag i (by simp [blksL, hi]))] at hv
                refine law_store_row hM ho (hE.ty _ _ ht).ok ha.1 ha.2.1 hfit (hag1.trans hb) hti hv (fun hm => ?_) hz
                rw [List.any_eq_false] at hnl
                exact hnl b hm (Nat.beq_refl b)
              · exact absurd h hf
            · exact absurd h hf
          · exact absurd h hf
        · exact absurd h hf
      · exact absurd h hf
    · exact absurd h hf
  · exact absurd h hf

theorem m_nilCheck (hf : ¬ T fail) {x : Operand} (ho : o.op = .nilCheck x) (h : T (evOp E fail o args H nb K)) : Goal E T o args H nb K := by
  simp only [evOp, ho] at h
  split at h
  · split at h
    · exact absurd h hf
    · rename_i hn
      refine ⟨_, _, h, fun base G0 own0 a c hM hag ha _ => ?_⟩
      rw [ho] at ha
      exact law_nilCheck hM ho hn ha.1
  · exact absurd h hf

theorem m_convert (hE : EnvOk E) (hf : ¬ T fail) {s d : TypeId} {x : Operand} (ho : o.op = .convert s d x) (h : T (evOp E fail o args H nb K)) : Goal E T o args H nb K := by
  simp only [evOp, ho] at h
  split at h
  · rename_i k0 l k i hs hd
    refine ⟨_, _, h, fun base G0 own0 a c hM hag ha _ => ?_⟩
    rw [ho] at ha
    exact law_convert hM ho (hE.ty _ _ hs).ok (hE.ty _ _ hd).ok ha.1
  · exact absurd h hf

theorem m_extract (hf : ¬ T fail) {x : Operand} {i : Nat} (ho : o.op = .extract x i) (h : T (evOp E fail o args H nb K)) : Goal E T o args H nb K := by
  simp only [evOp, ho] at h
  split at h
  · split at h
    · rename_i hu
      refine ⟨_, _, h, fun base G0 own0 a c hM hag ha _ => ?_⟩
      rw [ho] at ha
      exact law_extract hM ho ha.1 hu
    · exact absurd h hf
  · exact absurd h hf

theorem m_makeSlice (hE : EnvOk E) (hf : ¬ T fail) {id : TypeId} {x y : Operand} (ho : o.op = .makeSlice id x y) (h : T (evOp E fail o args H nb K)) : Goal E T o args H nb K := by
  simp only [evOp, ho] at h
  split at h
  · rename_i t k n l m ht
    split at h
    · rename_i hq
      obtain ⟨h1, h⟩ := obl_ok hf h
      obtain ⟨h2, h⟩ := obl_ok hf h
      refine ⟨_, _, h, fun base G0 own0 a c hM hag ha hn => ?_⟩
      rw [ho] at ha
      exact law_makeSlice hM ho (hE.ty _ _ ht) hq h1 h2 ha.1 ha.2.1 (hn _ (List.mem_singleton.2 rfl) (Nat.le_refl _))
    · exact absurd h hf
  · exact absurd h hf

theorem m_binOp (hE : EnvOk E) (hf : ¬ T fail) {op : BinOp} {id yt : TypeId} {x y : Operand} (ho : o.op = .binOp op id x y yt) (h : T (evOp E fail o args H nb K)) : Goal E T o args H nb K := by
  simp only [evOp, ho] at h
  split at h
  · rename_i u v
    obtain ⟨pv, h1, h2⟩ := binPV_ok (P := E.P) (fun r => T r) hf (K := fun v => K v []) h id (fun t ht => hE.eqT _ _ ht) x y
    refine ⟨pv, [], h1, fun base G0 own0 a c hM hag ha _ => ?_⟩
    rw [ho] at ha
    obtain ⟨r, h3, h4⟩ := h2 c.w c _ _ ha.1 ha.2.1
    refine opres_pure hM (v := r) ?_ h3
    simp only [execOp, ho]
    rw [Sem.run_bind, h4]
    rfl
  · exact absurd h hf

theorem m_fieldAddr (hE : EnvOk E) (hf : ¬ T fail) {id : TypeId} {x : Operand} {f : Nat} (ho : o.op = .fieldAddr id x f) (h : T (evOp E fail o args H nb K)) : Goal E T o args H nb K := by
  simp only [evOp, ho] at h
  split at h
  · rename_i t b p ht
    split at h
    · rename_i off u hoff
      split at h
      · rename_i hc
        simp only [Bool.and_eq_true] at hc
        refine ⟨_, _, h, fun base G0 own0 a c hM hag ha _ => ?_⟩
        rw [ho] at ha
        have hag : blkAt c.H b = blkAt H b := hag b (by simp [blksL, blks])
        exact law_fieldAddr hM ho (hE.ty _ _ ht).ok hoff (Nat.le_of_ble_eq_true hc.2) (by rw [ptrIs_ag hag]; exact hc.1) ha.1
      · exact absurd h hf
    · exact absurd h hf
  · rename_i t v y ht
    split at h
    · rename_i z off u hz hoff
      split at h
      · rename_i w q hs hg
        obtain ⟨e, rfl⟩ := cast_eq hz
        refine ⟨_, _, h, fun base G0 own0 a c hM hag ha _ => ?_⟩
        rw [ho] at ha
        subst e
        exact law_fieldAddr_b hM ho (hE.ty _ _ ht).ok hoff (Nat.le_of_ble_eq_true hs) hg ha.1
      · exact absurd h hf
    · exact absurd h hf
  · exact absurd h hf

theorem m_field (hE : EnvOk E) (hf : ¬ T fail) {id : TypeId} {x : Operand} {f : Nat} (ho : o.op = .field id x f) (h : T (evOp E fail o args H nb K)) : Goal E T o args H nb K := by
  simp only [evOp, ho] at h
  split at h
  · rename_i t v ht
    split at h
    · rename_i q u hfit hoff hg
      refine ⟨_, _, h, fun base G0 own0 a c hM hag ha _ => ?_⟩
      rw [ho] at ha
      exact law_field hM ho (hE.ty _ _ ht).ok (off := q.1) (u := q.2) hoff hfit hg ha.1
    · exact absurd h hf
  · exact absurd h hf

theorem m_indexAddr (hE : EnvOk E) (hf : ¬ T fail) {id : TypeId} {x y : Operand} (ho : o.op = .indexAddr id x y) (h : T (evOp E fail o args H nb K)) : Goal E T o args H nb K := by
  simp only [evOp, ho] at h
  split at h
  · rename_i n u b p k i ht
    split at h
    · rename_i hp
      obtain ⟨hi, h⟩ := obl_ok hf h
      refine ⟨_, _, h, fun base G0 own0 a c hM hag ha _ => ?_⟩
      rw [ho] at ha
      have hag : blkAt c.H b = blkAt H b := hag b (by simp [blksL, blks])
      exact law_indexAddr_arr hM ho (hE.ty _ _ ht).ok hi (by rw [ptrIs_ag hag]; exact hp) ha.1 ha.2.1
    · exact absurd h hf
  · rename_i n u v z k i ht
    split at h
    · rename_i z' hz
      obtain ⟨hi, h⟩ := obl_ok hf h
      obtain ⟨e, rfl⟩ := cast_eq hz
      refine ⟨_, _, h, fun base G0 own0 a c hM hag ha _ => ?_⟩
      rw [ho] at ha
      subst e
      exact law_indexAddr_barr hM ho (hE.ty _ _ ht).ok hi ha.1 ha.2.1
    · exact absurd h hf
  · rename_i u b k i ht
    split at h
    · rename_i s l hb
      split at h
      · rename_i hs
        have := Ty.beq_eq hs
        subst this
        obtain ⟨hi, h⟩ := obl_ok hf h
        refine ⟨_, _, h, fun base G0 own0 a c hM hag ha _ => ?_⟩
        rw [ho] at ha
        have hag : blkAt c.H b = blkAt H b := hag b (by simp [blksL, blks])
        exact law_indexAddr_whole hM ho (hE.ty _ _ ht).ok (hag.trans hb) hi ha.1 ha.2.1
      · exact absurd h hf
    · exact absurd h hf
  · rename_i u b lo n k i ht
    split at h
    · rename_i s l hb
      split at h
      · rename_i hs
        have := Ty.beq_eq hs
        subst this
        obtain ⟨hi, h⟩ := obl_ok hf h
        refine ⟨_, _, h, fun base G0 own0 a c hM hag ha _ => ?_⟩
        rw [ho] at ha
        have hag : blkAt c.H b = blkAt H b := hag b (by simp [blksL, blks])
        exact law_indexAddr_row hM ho (hE.ty _ _ ht).ok (hag.trans hb) hi ha.1 ha.2.1
      · exact absurd h hf
    · exact absurd h hf
  · rename_i u v z k i ht
    split at h
    · rename_i z' hz
      obtain ⟨hi, h⟩ := obl_ok hf h
      obtain ⟨e, rfl⟩ := cast_eq hz
      refine ⟨_, _, h, fun base G0 own0 a c hM hag ha _ => ?_⟩
      rw [ho] at ha
      subst e
      exact law_indexAddr_val hM ho (hE.ty _ _ ht).ok hi ha.1 ha.2.1
    · exact absurd h hf
  · exact absurd h hf

theorem m_index (hE : EnvOk E) (hf : ¬ T fail) {id : TypeId} {x y : Operand} (ho : o.op = .index id x y) (h : T (evOp E fail o args H nb K)) : Goal E T o args H nb K := by
  simp only [evOp, ho] at h
  split at h
  · rename_i n u v z k i ht
    split at h
    · rename_i z' hz
      obtain ⟨hi, h⟩ := obl_ok hf h
      obtain ⟨e, rfl⟩ := cast_eq hz
      refine ⟨_, _, h, fun base G0 own0 a c hM hag ha _ => ?_⟩
      rw [ho] at ha
      subst e
      exact law_index_arr hM ho (hE.ty _ _ ht).ok hi ha.1 ha.2.1
    · exact absurd h hf
  · exact absurd h hf

theorem m_unOp (hf : ¬ T fail) {op : UnOp} {id : TypeId} {x : Operand} (ho : o.op = .unOp op id x) (h : T (evOp E fail o args H nb K)) : Goal E T o args H nb K := by
  simp only [evOp, ho] at h
  split at h
  · rename_i u
    obtain ⟨pv, h1, h2⟩ := unPV_ok (P := E.P) (fun r => T r) hf (K := fun v => K v []) h
    refine ⟨pv, [], h1, fun base G0 own0 a c hM hag ha _ => ?_⟩
    rw [ho] at ha
    obtain ⟨r, h3, h4⟩ := h2 c.w c _ ha.1
    refine opres_pure hM (v := r) ?_ h3
    simp only [execOp, ho]
    rw [Sem.run_bind, h4]
    rfl
  · exact absurd h hf

theorem slc_ag {c : Cx} {id : Nat} {t : Ty} {x : PV} (ht : E.ty id = some (.sl t)) (hag : Ag H c.H (blks x)) : slcLen E H id x = lenPV c.H x := by
  rw [lenPV_ag x hag]; simp only [slcLen, ht]

theorem m_slice (hE : EnvOk E) (hf : ¬ T fail) {id : TypeId} {x : Operand} {lo hi mx : Option Operand} (ho : o.op = .slice id x lo hi mx) (h : T (evOp E fail o args H nb K)) : Goal E T o args H nb K := by
  simp only [evOp, ho] at h
  split at h
  · rename_i px bs
    split at h
    · rename_i n b1 b2 hb
      have ⟨h1, g1⟩ := obl_ok hf h
      clear h
      have ⟨h2, h⟩ := obl_ok hf g1
      clear g1
      have hsp : ∀ (a : Act) (c : Cx), All2 (VOk c) (px :: bs) (o.op.operands.toList.map a.eval) → VOk c px (a.eval x) ∧ All2 (VOk c) bs (lo.toList.map a.eval ++ hi.toList.map a.eval) := by
        intro a c ha
        rw [ho] at ha
        simp only [Op.operands, Array.toList_append, Option.toArray, List.map_append] at ha
        cases lo <;> cases hi <;> (simp at ha ⊢; exact ha)
      split at h
      · rename_i t ht
        refine ⟨_, _, h, fun base G0 own0 a c hM hag ha _ => ?_⟩
        have ⟨hx, hbs⟩ := hsp a c ha
        rw [slc_ag ht hag.left] at hb
        exact law_slice_nils hM ho (hE.ty _ _ ht).ok hbs hb h1 h2 hx
      · rename_i t u y ht
        split at h
        · rename_i y' hy
          obtain ⟨e, rfl⟩ := cast_eq hy
          refine ⟨_, _, h, fun base G0 own0 a c hM hag ha _ => ?_⟩
          have ⟨hx, hbs⟩ := hsp a c ha
          subst e
          rw [slc_ag ht hag.left] at hb
          exact law_slice_val hM ho (hE.ty _ _ ht).ok hbs hb h1 h2 hx
        · exact absurd h hf
      · rename_i t b ht
        split at h
        · rename_i s l hbl
          split at h
          · rename_i hs
            have := Ty.beq_eq hs
            subst this
            refine ⟨_, _, h, fun base G0 own0 a c hM hag ha _ => ?_⟩
            have ⟨hx, hbs⟩ := hsp a c ha
            rw [slc_ag ht hag.left] at hb
            have hag : blkAt c.H b = blkAt H b := hag b (by simp [blksL, blks])
            exact law_slice_whole hM ho (hE.ty _ _ ht).ok hbs (hag.trans hbl) hb h1 h2 hx
          · exact absurd h hf
        · exact absurd h hf
      · rename_i t b s k ht
        split at h
        · rename_i u l hbl
          split at h
          · rename_i hs
            have := Ty.beq_eq hs
            subst this
            refine ⟨_, _, h, fun base G0 own0 a c hM hag ha _ => ?_⟩
            have ⟨hx, hbs⟩ := hsp a c ha
            rw [slc_ag ht hag.left] at hb
            have hag : blkAt c.H b = blkAt H b := hag b (by simp [blksL, blks])
            exact law_slice_row hM ho (hE.ty _ _ ht).ok hbs (hag.trans hbl) hb h1 h2 hx
          · exact absurd h hf
        · exact absurd h hf
      · rename_i m t b p ht
        split at h
        · rename_i hc
          simp only [Bool.and_eq_true] at hc
          split at h
          · rename_i s v0 hbl
            refine ⟨_, _, h, fun base G0 own0 a c hM hag ha _ => ?_⟩
            have ⟨hx, hbs⟩ := hsp a c ha
            have hag : blkAt c.H b = blkAt H b := hag b (by simp [blksL, blks])
            have hb : slcBounds (some m) lo.isSome hi.isSome bs = some (n, b1, b2) := by simpa only [slcLen, ht] using hb
            exact law_slice_arr hM ho (hE.ty _ _ ht).ok hbs (hag.trans hbl) (by rw [ptrIs_ag hag]; exact hc.1) (Nat.le_of_ble_eq_true hc.2) hb h1 h2 hx
          · exact absurd h hf
        · exact absurd h hf
      · exact absurd h hf
    · exact absurd h hf
  · exact absurd h hf

theorem call_args {k : Call} {b : Builtin} (hk : k.callee = .builtin b) (a : Act) : (Op.call k).operands.toList.map a.eval = k.args.toList.map a.eval := by
  simp [Op.operands, Call.operands, hk]

theorem args_two {c : Cx} {x y : PV} {l : Array Operand} {a : Act} (h : All2 (VOk c) [x, y] (l.toList.map a.eval)) : ∃ p q, l = #[p, q] ∧ VOk c x (a.eval p) ∧ VOk c y (a.eval q) := by
  obtain ⟨l⟩ := l
  match l, h with
  | [p, q], h => exact ⟨p, q, rfl, h.1, h.2.1⟩
  | [], h => exact h.elim
  | [_], h => exact h.2.elim
  | _ :: _ :: _ :: _, h => exact h.2.2.elim

theorem args_one {c : Cx} {x : PV} {l : Array Operand} {a : Act} (h : All2 (VOk c) [x] (l.toList.map a.eval)) : ∃ p, l = #[p] ∧ VOk c x (a.eval p) := by
  obtain ⟨l⟩ := l
  match l, h with
  | [p], h => exact ⟨p, rfl, h.1⟩
  | [], h => exact h.elim
  | _ :: _ :: _, h => exact h.2.elim

theorem m_len (hE : EnvOk E) (hf : ¬ T fail) {k : Call} (ho : o.op = .call k) (hk : k.callee = .builtin .len) (h : T (evOp E fail o args H nb K)) : Goal E T o args H nb K := by
  simp only [evOp, ho, hk] at h
  split at h
  · rename_i px t ht hsz
    split at h
    · rename_i n hn
      refine ⟨_, _, h, fun base G0 own0 a c hM hag ha _ => ?_⟩
      rw [ho, call_args hk] at ha
      obtain ⟨x, hargs, hx⟩ := args_one ha
      have hat : k.argTypes[0]? = some (k.argTypes.getD 0 0) := by
        have h0 : 0 < k.argTypes.size := Nat.le_of_ble_eq_true hsz
        simp [Array.getElem?_eq_getElem h0]
      have hok := (hE.ty _ _ ht).ok
      have hlag : lenPV c.H px = lenPV H px := lenPV_ag px (fun b hb => hag b (by simp [blksL, hb]))
      have hstr : isStrPV px = true ↔ ∃ l, px = .val .str l := by
        constructor
        · intro h
          unfold isStrPV at h
          split at h
          · exact ⟨_, rfl⟩
          · cases h
        · rintro ⟨l, rfl⟩; rfl
      unfold lenOf at hn
      split at hn
      · split at hn
        · rename_i hle
          simp only [Option.some.injEq] at hn
          subst hn
          exact law_len_arr hM ho hk hargs hat hok (Nat.le_of_ble_eq_true hle)
        · cases hn
      · split at hn
        · cases hn
        · rename_i hs
          refine law_len hM ho hk hargs hat hok (.inl ⟨_, rfl⟩) ⟨fun h => (by cases h), fun h => ?_⟩ (hlag.trans hn) hx
          rw [hstr.2 h] at hs; cases hs
      · split at hn
        · rename_i hs
          exact law_len hM ho hk hargs hat hok (.inr rfl) ⟨fun _ => hstr.1 hs, fun _ => rfl⟩ (hlag.trans hn) hx
        · cases hn
      · cases hn
    · exact absurd h hf
  · exact absurd h hf

theorem m_min (hf : ¬ T fail) {k : Call} (ho : o.op = .call k) (hk : k.callee = .builtin .min) (h : T (evOp E fail o args H nb K)) : Goal E T o args H nb K := by
  simp only [evOp, ho, hk] at h
  split at h
  · rename_i kd p l q
    split at h
    · rename_i q' hq
      obtain ⟨e, rfl⟩ := cast_eq hq
      injection e with e
      subst e
      refine ⟨_, _, h, fun base G0 own0 a c hM hag ha _ => ?_⟩
      rw [ho, call_args hk] at ha
      obtain ⟨x, y, hargs, hx, hy⟩ := args_two ha
      exact law_mn hM ho hk hargs hx hy
    · exact absurd h hf
  · exact absurd h hf

theorem m_max (hf : ¬ T fail) {k : Call} (ho : o.op = .call k) (hk : k.callee = .builtin .max) (h : T (evOp E fail o args H nb K)) : Goal E T o args H nb K := by
  simp only [evOp, ho, hk] at h
  split at h
  · rename_i kd p l q
    split at h
    · rename_i q' hq
      obtain ⟨e, rfl⟩ := cast_eq hq
      injection e with e
      subst e
      refine ⟨_, _, h, fun base G0 own0 a c hM hag ha _ => ?_⟩
      rw [ho, call_args hk] at ha
      obtain ⟨x, y, hargs, hx, hy⟩ := args_two ha
      exact law_mx hM ho hk hargs hx hy
    · exact absurd h hf
  · exact absurd h hf

theorem m_call (hE : EnvOk E) (hf : ¬ T fail) {k : Call} (ho : o.op = .call k) {fo : Operand} (hk : k.callee = .value fo) (h : T (evOp E fail o args H nb K)) : Goal E T o args H nb K := by
  simp only [evOp, ho, hk] at h
  split at h
  · rename_i f vs
    split at h
    · rename_i C hC
      unfold callCon at h
      split at h
      · rename_i hin
        split at h
        · rename_i x m hx hl
          unfold optF at h
          split at h
          · rename_i y hy
            refine ⟨_, _, h, fun base G0 own0 a c hM hag ha hn => ?_⟩
            have ha' : All2 (VOk c) (.fn f :: vs) (a.eval fo :: k.args.toList.map a.eval) := by
              rw [ho] at ha
              simp only [Op.operands, Call.operands, hk] at ha
              simpa using ha
            rw [← tmext_ag hin vs (H' := c.H) (fun b hb => hag b (by simp [blksL, blks, hb]))] at hx
            refine law_call hM ho hk ha'.1 (hE.con _ _ hC) hin ha'.2 (Nat.eq_of_beq_eq_true hl) hx hy fun i hi => ?_
            have hlen := mkHeap_len C.Out.heap y.2
            have hmem : ∀ (B : List Blk) (j : Nat) (i : Nat), i < B.length → ∃ b, (nb + (j + i), b) ∈ newBlks nb j B := by
              intro B
              induction B with
              | nil => intro j i h; simp at h
              | cons b B ih =>
                intro j i h
                cases i with
                | zero => exact ⟨_, List.mem_cons_self⟩
                | succ i =>
                  obtain ⟨b', hb'⟩ := ih (j + 1) i (by simpa using h)
                  exact ⟨b', List.mem_cons_of_mem _ (by rw [show j + (i + 1) = j + 1 + i by omega]; exact hb')⟩
            obtain ⟨b, hb⟩ := hmem (mkHeap C.Out.heap y.2) 0 i (by omega)
            have := hn _ (List.mem_append_right _ hb) (by simp)
            simpa using this
          · exact absurd h hf
        · exact absurd h hf
      · exact absurd h hf
    · rename_i C hC
      unfold callFresh at h
      split at h
      · rename_i hin hout hsh
        split at h
        · rename_i x m hx hl
          unfold optF at h
          split at h
          · rename_i y hy
            refine ⟨_, _, h, fun base G0 own0 a c hM hag ha hn => ?_⟩
            have ha' : All2 (VOk c) (.fn f :: vs) (a.eval fo :: k.args.toList.map a.eval) := by
              rw [ho] at ha
              simp only [Op.operands, Call.operands, hk] at ha
              simpa using ha
            rw [← tmext_ag hin vs (H' := c.H) (fun b hb => hag b (by simp [blksL, blks, hb]))] at hx
            exact law_callFresh hM ho hk ha'.1 (hE.fresh _ _ hC) hin hout hsh ha'.2 (Nat.eq_of_beq_eq_true hl) hx hy
          · exact absurd h hf
        · exact absurd h hf
      · exact absurd h hf
    · exact absurd h hf
  · exact absurd h hf

theorem m_append (hE : EnvOk E) (hf : ¬ T fail) {k : Call} (ho : o.op = .call k) (hk : k.callee = .builtin .append) (h : T (evOp E fail o args H nb K)) : Goal E T o args H nb K := by
  simp only [evOp, ho, hk] at h
  split at h
  · rename_i t px py ht
    split at h
    · rename_i hc
      simp only [Bool.and_eq_true] at hc
      obtain ⟨hq, hsz, ha0, ha1⟩ := hc
      have hat : ∃ id, k.argTypes = #[id, id] ∧ E.ty id = some (.sl t) := by
        have h1 := Nat.eq_of_beq_eq_true ha1
        have h0 := Nat.eq_of_beq_eq_true ha0
        obtain ⟨l⟩ : ∃ l : Array TypeId, l = k.argTypes := ⟨_, rfl⟩
        generalize k.argTypes = l at *
        obtain ⟨l⟩ := l
        match l, h1 with
        | [p, q], _ =>
          simp at h0 ht
          exact ⟨p, by rw [h0], ht⟩
      obtain ⟨id, hat, hid⟩ := hat
      unfold appendPV at h
      split at h
      · rename_i ys lent hv
        split at h
        · have ⟨h1, g⟩ := obl_ok hf h
          refine ⟨_, _, g, fun base G0 own0 a c hM hag ha hn => ?_⟩
          rw [ho, call_args hk] at ha
          obtain ⟨x, y, hargs, hx, hy⟩ := args_two ha
          rw [← toVal_ag (H' := c.H) _ py (fun b hb => hag b (by simp [blksL, hb]))] at hv
          exact law_append_nils hM ho hk hargs hat (hE.ty _ _ hid) hq (Nat.le_of_ble_eq_true hsz) hx hy hv h1 (hn (nb, .row t ys) (by simp) (Nat.le_refl _))
        · rename_i b
          split at h
          · rename_i u l hb
            split at h
            · rename_i xs hxs
              obtain ⟨e, rfl⟩ := cast_eq hxs
              injection e with e
              subst e
              split at h
              · exact absurd h hf
              · rename_i hnl
                have ⟨h1, g⟩ := obl_ok hf h
                refine ⟨_, _, g, fun base G0 own0 a c hM hag ha hn => ?_⟩
                rw [ho, call_args hk] at ha
                obtain ⟨x, y, hargs, hx, hy⟩ := args_two ha
                have hag1 : blkAt c.H b = blkAt H b := hag b (by simp [blksL, blks])
                rw [← toVal_ag (H' := c.H) _ py (fun b hb => hag b (by simp [blksL, hb]))] at hv
                exact law_append_own hM ho hk hargs hat (hE.ty _ _ hid) hq (Nat.le_of_ble_eq_true hsz) (hag1.trans hb) (fun hm => by rw [List.any_eq_false] at hnl; exact hnl b hm (Nat.beq_refl b)) hx hy hv h1 (hn (nb, .row u ((show List u.D from l) ++ (show List u.D from ys))) (by simp) (Nat.le_refl _))
            · exact absurd h hf
          · exact absurd h hf
        · exact absurd h hf
      · exact absurd h hf
    · exact absurd h hf
  · exact absurd h hf

theorem m_copy (hE : EnvOk E) (hf : ¬ T fail) {k : Call} (ho : o.op = .call k) (hk : k.callee = .builtin .copy) (h : T (evOp E fail o args H nb K)) : Goal E T o args H nb K := by
  simp only [evOp, ho, hk] at h
  split at h
  · rename_i t px py ht
    split at h
    · rename_i hc
      have hat : ∃ id id2, k.argTypes = #[id, id2] ∧ E.ty id = some (.sl t) := by
        have h1 := Nat.eq_of_beq_eq_true hc
        obtain ⟨l⟩ : ∃ l : Array TypeId, l = k.argTypes := ⟨_, rfl⟩
        generalize k.argTypes = l at *
        obtain ⟨l⟩ := l
        match l, h1 with
        | [p, q], _ =>
          simp at ht
          exact ⟨p, q, rfl, ht⟩
      obtain ⟨id, id2, hat, hid⟩ := hat
      unfold copyPV at h
      split at h
      · rename_i kd b m b2 lo n
        split at h
        · rename_i m' k' v s m2 u z hb hb2
          split at h
          · rename_i z' hz
            split at h
            · rename_i hcond
              simp only [Bool.and_eq_true] at hcond
              obtain ⟨g1, g2, g3, g4, g5⟩ := hcond
              have g1 := Nat.eq_of_beq_eq_true g1
              have g2 := Ty.beq_eq g2
              have g3 := Nat.eq_of_beq_eq_true g3
              have g4 := Nat.le_of_ble_eq_true g4
              have g5 := Nat.le_of_ble_eq_true g5
              subst g1 g3
              injection g2 with g2
              subst g2
              obtain ⟨e, rfl⟩ := cast_eq hz
              injection e with e1 e2
              subst e2
              refine ⟨_, _, h, fun base G0 own0 a c hM hag ha _ => ?_⟩
              rw [ho, call_args hk] at ha
              obtain ⟨x, y, hargs, hx, hy⟩ := args_two ha
              have hag1 : blkAt c.H b = blkAt H b := hag b (by simp [blksL, blks])
              have hag2 : blkAt c.H b2 = blkAt H b2 := hag b2 (by simp [blksL, blks])
              exact law_copy hM ho hk hargs hat (hE.ty _ _ hid) hx hy (hag1.trans hb) (hag2.trans hb2) g4 g5
            · exact absurd h hf
          · exact absurd h hf
        · exact absurd h hf
      · exact absurd h hf
    · exact absurd h hf
  · exact absurd h hf

theorem evOp_ok (hE : EnvOk E) (hf : ¬ T fail) (h : T (evOp E fail o args H nb K)) : Goal E T o args H nb K := by
  have hno : ∀ {x : Prop}, T fail → x := fun h => absurd h hf
  cases ho : o.op with
  | move x => exact m_move hf ho h
  | assign x => exact m_assign hf ho h
  | pick x y z => exact m_pick hf ho h
  | alloc t => exact m_alloc hE hf ho h
  | box t x => exact m_box hf ho h
  | build t ps => exact m_build hE hf ho h
  | buildSlice t n ps => exact m_buildSlice hE hf ho h
  | load t x => exact m_load hE hf ho h
  | store t x y => exact m_store hE hf ho h
  | nilCheck x => exact m_nilCheck hf ho h
  | binOp op t x y u => exact m_binOp hE hf ho h
  | unOp op t x => exact m_unOp hf ho h
  | convert s d x => exact m_convert hE hf ho h
  | fieldAddr t x f => exact m_fieldAddr hE hf ho h
  | field t x f => exact m_field hE hf ho h
  | indexAddr t x y => exact m_indexAddr hE hf ho h
  | index t x y => exact m_index hE hf ho h
  | slice t x lo hi mx => exact m_slice hE hf ho h
  | extract x i => exact m_extract hf ho h
  | makeSlice t x y => exact m_makeSlice hE hf ho h
  | call k =>
    cases hk : k.callee with
    | value fo => exact m_call hE hf ho hk h
    | invoke r m => simp only [evOp, ho, hk] at h; exact hno h
    | builtin b =>
      cases b with
      | len => exact m_len hE hf ho hk h
      | append => exact m_append hE hf ho hk h
      | copy => exact m_copy hE hf ho hk h
      | min => exact m_min hf ho hk h
      | max => exact m_max hf ho hk h
      | _ => simp only [evOp, ho, hk] at h; exact hno h
  | _ => simp only [evOp, ho] at h; exact hno h
end
end Sym

/- What a symbolic state says of the machine's; a region whose operations go in the order of the text. -/
namespace Sym
open Go

/-- The frame of the running call, the frames of those that wait (all walked in place), the memory. -/
structure Rep (base : World) (G0 own0 : Nat → Prop) (sz : Nat) (fr : List (List Value)) (c : Cx) (st : St) (a : Act) : Prop where
  mem : Mem base G0 own0 c
  heap : c.H = st.heap
  slots : All2 (VOk c) st.slots a.tmps.toList
  stk : All2 (All2 (VOk c)) st.stk fr
  size : a.tmps.size = sz
  defers : a.defers = []

theorem All2.mono {X Y : Type} {R S : X → Y → Prop} (h : ∀ a b, R a b → S a b) : ∀ (l : List X) (r : List Y), All2 R l r → All2 S l r
  | [], [], _ => trivial
  | x :: l, y :: r, hh => ⟨h _ _ hh.1, All2.mono h l r hh.2⟩
  | [], _ :: _, hh => hh.elim
  | _ :: _, [], hh => hh.elim

theorem All2.len {X Y : Type} {R : X → Y → Prop} : ∀ {l : List X} {r : List Y}, All2 R l r → l.length = r.length
  | [], [], _ => rfl
  | x :: l, y :: r, h => by simp [All2.len h.2]
  | [], _ :: _, h => h.elim
  | _ :: _, [], h => h.elim

theorem all2_slot {c : Cx} : ∀ {vs : List PV} {us : List Value} (t : Nat), All2 (VOk c) vs us → VOk c (slotAt vs t) (us.getD t undef)
  | [], [], t, _ => by cases t <;> trivial
  | v :: vs, u :: us, 0, h => h.1
  | v :: vs, u :: us, t + 1, h => by
    have := all2_slot t h.2
    simpa [slotAt] using this
  | [], _ :: _, _, h => h.elim
  | _ :: _, [], _, h => h.elim

theorem all2_set {c : Cx} {v : PV} {u : Value} (hv : VOk c v u) : ∀ {vs : List PV} {us : List Value} (t : Nat), All2 (VOk c) vs us → All2 (VOk c) (setAt vs t v) (us.set t u)
  | [], [], t, _ => trivial
  | _ :: _, _ :: _, 0, h => ⟨hv, h.2⟩
  | _ :: _, _ :: _, t + 1, h => ⟨h.1, all2_set hv t h.2⟩
  | [], _ :: _, _, h => h.elim
  | _ :: _, [], _, h => h.elim

theorem getD_toList (a : Array Value) (t : Nat) : a.getD t undef = a.toList.getD t undef := by
  simp [Array.getD_eq_getD_getElem?]

theorem const_ok {c : Cx} (vs : List PV) (v : Value) : VOk c (opd vs (.const v)) v := by
  cases v with
  | int k n =>
    simp only [opd]
    split
    · rename_i h
      have h := of_decide_eq_true h
      exact ⟨_, rfl, by show Value.int k n = .int k (k.wrap n); rw [h]⟩
    · trivial
  | bool b => exact ⟨_, rfl, rfl⟩
  | slice ad n cap =>
    unfold opd
    split <;> rename_i heq <;> first
      | trivial
      | (cases heq; done)
      | (cases heq; exact ⟨_, rfl, rfl⟩)
  | pointer ad => cases ad with
    | none => exact ⟨_, rfl, rfl⟩
    | some ad => trivial
  | string s =>
    simp only [opd]
    split
    · rename_i h
      have h := Nat.le_of_ble_eq_true h
      refine ⟨_, ⟨rfl, by show (List.map _ _).length ≤ LIM; rw [List.length_map]; simp only [LIM]; omega⟩, ?_⟩
      show Value.string s = .string (bytesOf _)
      congr 1
      obtain ⟨⟨l⟩⟩ := s
      unfold bytesOf
      congr 1
      simp only [List.map_map]
      apply Array.ext'
      simp only
      symm
      rw [show l = l.map id by simp]
      simp only [List.map_map]
      apply List.map_congr_left
      intro b _
      have hb : b.toNat < 256 := b.toNat_lt
      have : (I.of .u8 (b.toNat : Int)).val = b.toNat := by
        show IntKind.u8.wrap b.toNat = b.toNat
        simp only [IntKind.wrap, IntKind.bits, IntKind.signed, Bool.false_and, Bool.false_eq_true, if_false]
        omega
      simp only [Function.comp_apply, this, id]
      simp
    · trivial
  | _ => trivial

theorem opd_ok {c : Cx} {vs : List PV} {a : Act} (h : All2 (VOk c) vs a.tmps.toList) (x : Operand) : VOk c (opd vs x) (a.eval x) := by
  cases x with
  | tmp t => show VOk c (slotAt vs t) (a.tmps.getD t undef); rw [getD_toList]; exact all2_slot t h
  | const v => exact const_ok vs v
  | global g => exact trivial
  | func f => exact ⟨_, rfl, rfl⟩

theorem args_ok {c : Cx} {st : St} {a : Act} (h : All2 (VOk c) st.slots a.tmps.toList) (o : Oper) : All2 (VOk c) (argsOf o st) (o.op.operands.toList.map a.eval) := by
  unfold argsOf
  generalize o.op.operands.toList = l
  induction l with
  | nil => trivial
  | cons x l ih => exact ⟨opd_ok h x, ih⟩

theorem put_toList (a : Act) (d : Option Tmp) (v : Value) : (a.put d v).tmps.toList = match d with | some d => a.tmps.toList.set d v | none => a.tmps.toList := by
  cases d <;> simp [Act.put]

theorem put_size (a : Act) (d : Option Tmp) (v : Value) : (a.put d v).tmps.size = a.tmps.size := by
  cases d <;> simp [Act.put]

theorem put_defers (a : Act) (d : Option Tmp) (v : Value) : (a.put d v).defers = a.defers := by
  cases d <;> rfl

section
variable {P : Program} {base : World} {G0 own0 : Nat → Prop} {sz : Nat} {fr : List (List Value)}

theorem Rep.put {c c' : Cx} {st : St} {a : Act} (h : Rep base G0 own0 sz fr c st a) (hE : Ext c c') (hM : Mem base G0 own0 c') {pv : PV} {v : Value} {δ : List (Nat × Blk)} (hH : c'.H = putBlks c.H δ) (hv : VOk c' pv v) (d : Option Nat) :
    Rep base G0 own0 sz fr c' (st.put d pv δ) (a.put d v) := by
  refine ⟨hM, by rw [hH, h.heap]; rfl, ?_, All2.mono (fun _ _ hl => All2.mono (fun _ _ => v_ext hE) _ _ hl) _ _ h.stk, by rw [put_size]; exact h.size, by rw [put_defers]; exact h.defers⟩
  have h1 := All2.mono (fun _ _ => v_ext hE) _ _ h.slots
  rw [put_toList]
  cases d with
  | none => exact h1
  | some d => exact all2_set hv d h1

theorem set_same : ∀ (vs : List PV) (d : Nat), setAt vs d (slotAt vs d) = vs
  | [], _ => rfl
  | _ :: _, 0 => rfl
  | v :: vs, d + 1 => by simp [setAt, slotAt, set_same vs d]

theorem undef_ok {c : Cx} : VOk c undefPV undef := ⟨[], rfl, rfl⟩

theorem yielded_eq {ops : Array Oper} {g d : Nat} (hd : lastOps ops g = some d) (tmps : Array Value) : yielded ops tmps g = match tmps.getD d undef with | .bool b => some b | _ => none := by
  unfold yielded
  unfold lastOps at hd
  rw [hd]
  simp only [Option.bind_some]
  cases h : tmps[d]? with
  | none => simp [Array.getD_eq_getD_getElem?, h, undef]
  | some v => simp only [Array.getD_eq_getD_getElem?, h, Option.getD_some]; cases v <;> rfl

/-- What a guard says, of any state that the symbolic one stands for. -/
def GuardIs (ops : Array Oper) (o : Oper) (f : Nat → PV) (b : Bool) : Prop :=
  ∀ (c : Cx) (tmps : Array Value), (∀ d ∈ o.looksAt ops, VOk c (f d) (tmps.getD d undef)) → Region.wanted o (yielded ops tmps) = b

theorem guardK_ok {R : Type} {T : R → Prop} {fail : R} (hf : ¬ T fail) {ops : Array Oper} {o : Oper} {st : St} {run skip : St → R} (h : T (guardK fail ops o st run skip)) :
    (T (run st) ∧ GuardIs ops o (slotAt st.slots) true) ∨ (T (skip st) ∧ GuardIs ops o (slotAt st.slots) false) := by
  unfold guardK at h
  split at h
  · rename_i hg
    exact .inl ⟨h, fun c tmps _ => by simp [Region.wanted, hg]⟩
  · rename_i g want hg
    split at h
    · exact absurd h hf
    · rename_i d hd
      have hlook : d ∈ o.looksAt ops := by
        unfold lastOps at hd
        simp [Oper.looksAt, hg, hd]
      split at h
      · rename_i p hp
        have hset : ∀ b, p = b → (⟨setAt st.slots d (.val .bool b), st.stk, st.heap⟩ : St) = st := by
          rintro b rfl
          rw [← hp, set_same]
        have hval : ∀ (c : Cx) (tmps : Array Value), (∀ d ∈ o.looksAt ops, VOk c (slotAt st.slots d) (tmps.getD d undef)) → yielded ops tmps g = some (show Bool from p) := by
          intro c tmps hok
          have := hok d hlook
          rw [hp] at this
          rw [yielded_eq hd, v_bool this]
        cases hpb : (show Bool from p) with
        | true =>
          simp only [hpb, brn, cond_true] at h
          rw [hset true hpb] at h
          cases want with
          | true => exact .inl ⟨h, fun c tmps hok => by simp [Region.wanted, hg, hval c tmps hok, hpb]⟩
          | false => exact .inr ⟨h, fun c tmps hok => by simp [Region.wanted, hg, hval c tmps hok, hpb]⟩
        | false =>
          simp only [hpb, brn, cond_false] at h
          rw [hset false hpb] at h
          cases want with
          | false => exact .inl ⟨h, fun c tmps hok => by simp [Region.wanted, hg, hval c tmps hok, hpb]⟩
          | true => exact .inr ⟨h, fun c tmps hok => by simp [Region.wanted, hg, hval c tmps hok, hpb]⟩
      · rename_i hp
        refine .inr ⟨h, fun c tmps hok => ?_⟩
        have := hok d hlook
        rw [hp] at this
        obtain ⟨vs, e, he⟩ := this
        have : vs = [] := he
        subst this
        simp only [Region.wanted, hg]
        rw [yielded_eq hd, e]
        simp
      · exact absurd h hf

theorem GuardIs.of_rep {ops : Array Oper} {o : Oper} {c : Cx} {st : St} {a : Act} {b : Bool} (h : GuardIs ops o (slotAt st.slots) b) (hs : All2 (VOk c) st.slots a.tmps.toList) : Region.wanted o (yielded ops a.tmps) = b :=
  h c a.tmps fun d _ => by rw [getD_toList]; exact all2_slot d hs

/-- A call walked in place is as good as its walk says. -/
def InlOk (E : Env) (base : World) (G0 own0 : Nat → Prop) (sz : Nat) (fr : List (List Value)) {R : Type} (T : R → Prop) (inl : Nat → FuncId → List PV → St → (PV → St → R) → R) : Prop :=
  ∀ (i : Nat) (f : FuncId) (vs : List PV) (st : St) (next : PV → St → R) (c : Cx) (a : Act) (us : List Value) (Kw : Value → World → Prop), T (inl i f vs st next) → E.how f = some .inl → Rep base G0 own0 sz fr c st a → All2 (VOk c) vs us →
    (∀ pv st' c' v, T (next pv st') → Rep base G0 own0 sz fr c' st' a → VOk c' pv v → Kw v c'.w) →
    (callFunc f us.toArray).run E.P c.w = .ok (.enter f us.toArray) c.w ∧ Calls E.P f us.toArray c.w fun e w' => ∃ v, e = .returned v ∧ Kw v w'

theorem evSeq_ok {E : Env} (hE : EnvOk E) {R : Type} {T : R → Prop} {fail : R} (hf : ¬ T fail) {inl : Nat → FuncId → List PV → St → (PV → St → R) → R} (hI : InlOk E base G0 own0 sz fr T inl) (ops : Array Oper) {Q : Exit → Act → World → Prop} {K : St → R}
    (hK : ∀ st c a, T (K st) → Rep base G0 own0 sz fr c st a → Q .normal a c.w) : ∀ (l : List Oper) (pre : List Oper) (st : St) (c : Cx) (a : Act), ops.toList = pre ++ l → T (evSeq E fail inl ops pre.length l st K) → Rep base G0 own0 sz fr c st a →
    wpOps E.P ops Q (List.range' pre.length l.length) a c.w := by
  intro l
  induction l with
  | nil => intro pre st c a _ h hr; exact hK st c a h hr
  | cons o l ih =>
    intro pre st c a ho h hr
    have hget : ops[pre.length]? = some o := by
      rw [← Array.getElem?_toList, ho]
      simp
    have ho' : ops.toList = (pre ++ [o]) ++ l := by simp [ho]
    have ih := fun st c a h hr => ih (pre ++ [o]) st c a ho' h hr
    simp only [List.length_append, List.length_singleton] at ih
    simp only [List.length_cons, List.range'_succ]
    simp only [wpOps, hget]
    simp only [evSeq] at h
    rcases guardK_ok hf h with ⟨h, hg⟩ | ⟨h, hg⟩
    · rw [if_pos (hg.of_rep hr.slots)]
      left
      have ha := args_ok hr.slots o
      split at h
      · rename_i f vs hinl
        unfold isInl at hinl
        split at hinl
        · rename_i k hop
          split at hinl
          · rename_i fo hk
            split at hinl
            · rename_i g us hargs
              split at hinl
              · rename_i hhow
                simp only [Option.some.injEq, Prod.mk.injEq] at hinl
                obtain ⟨rfl, rfl⟩ := hinl
                have ha' : All2 (VOk c) (.fn g :: us) (a.eval fo :: k.args.toList.map a.eval) := by
                  rw [hargs, hop] at ha
                  simp only [Op.operands, Call.operands, hk] at ha
                  simpa using ha
                have hfv : a.eval fo = .func (.func g) #[] #[] := by
                  obtain ⟨cs, h1, h2⟩ := ha'.1
                  simp only [CellsPV] at h1
                  subst h1; exact h2
                obtain ⟨h1, h2⟩ := hI pre.length g us st _ c a _ (fun v w' => wpOps E.P ops Q (List.range' (pre.length + 1) l.length) (a.put o.dst v) w') h hhow hr ha'.2 (fun pv st' c' v ht hr' hv => ih _ _ _ ht (hr'.put (Ext.refl c') hr'.mem rfl hv o.dst))
                unfold Oper.wp
                rw [exec_call hop hk hfv]
                have hargs' : k.args.map a.eval = (k.args.toList.map a.eval).toArray := by apply Array.ext'; simp
                rw [hargs', h1]
                refine Calls.mono h2 ?_
                rintro e w' ⟨v, rfl, hv⟩
                exact hv
              · cases hinl
            · cases hinl
          · cases hinl
        · cases hinl
      · obtain ⟨pv, δ, ht, hok⟩ := evOp_ok hE hf h
        refine hok base G0 own0 a c hr.mem (fun b _ => by rw [hr.heap]) ha (fun p _ hp => by rw [hr.heap]; exact blkAt_ge _ _ hp) _ _ fun v c' hE' hM' hH' hv => ?_
        exact ih _ _ _ ht (hr.put hE' hM' hH' hv o.dst)
    · rw [if_neg (by rw [hg.of_rep hr.slots]; simp)]
      exact ih _ _ _ h (hr.put (Ext.refl c) hr.mem rfl undef_ok o.dst)
end
end Sym

/- A region whose operations may come in any order that its edges allow. -/
namespace Sym
open Go

/-! The last write of a set of steps. -/
section
variable {X : Type} (w : Nat → Nat → Option X) (init : Nat → X)

def lastW (L : Nat → Bool) : Nat → Nat → X
  | 0, k => init k
  | n + 1, k => match L n with
    | true => match w n k with
      | some x => x
      | none => lastW L n k
    | false => lastW L n k

theorem lastW_same {L L' : Nat → Bool} {k : Nat} : ∀ (n : Nat), (∀ j, j < n → L j ≠ L' j → w j k = none) → lastW w init L n k = lastW w init L' n k
  | 0, _ => rfl
  | n + 1, h => by
    have ih := lastW_same n fun j hj => h j (by omega)
    simp only [lastW]
    by_cases hn : L n = L' n
    · rw [hn, ih]
    · have := h n (by omega) hn
      rw [this, ih]
      cases L n <;> cases L' n <;> rfl

theorem lastW_put {L L' : Nat → Bool} {i k : Nat} (hi : L i = false) (hL' : ∀ j, L' j = if j = i then true else L j) : ∀ (n : Nat), i < n → (∀ j, i < j → j < n → L j = true → w j k = none ∨ w i k = none) →
    lastW w init L' n k = match w i k with | some x => x | none => lastW w init L n k := by
  cases hw : w i k with
  | none =>
    intro n _ _
    refine lastW_same w init n fun j _ hne => ?_
    by_cases hji : j = i
    · subst hji; exact hw
    · rw [hL', if_neg hji] at hne; exact absurd rfl hne
  | some x =>
    intro n
    induction n with
    | zero => intro h; omega
    | succ n ih =>
      intro hin h
      simp only [lastW]
      by_cases hn : n = i
      · subst hn
        rw [hL', if_pos rfl, hw]
      · have ih := ih (by omega) fun j h1 h2 => h j h1 (by omega)
        simp only at ih
        rw [hL', if_neg hn]
        cases hLn : L n with
        | false => exact ih
        | true =>
          have := (h n (by omega) (by omega) hLn).resolve_right (by simp)
          simp only [this]
          exact ih
end

/-! What a list of new blocks holds. -/
def lk : List (Nat × Blk) → Nat → Option Blk
  | [], _ => none
  | (i, x) :: l, b => match lk l b with
    | some y => some y
    | none => if b = i then some x else none

theorem blkAt_puts : ∀ (δ : List (Nat × Blk)) (H : List Blk) (b : Nat), blkAt (putBlks H δ) b = match lk δ b with | some x => x | none => blkAt H b
  | [], _, _ => rfl
  | (i, x) :: l, H, b => by
    simp only [putBlks, lk]
    rw [blkAt_puts l]
    cases h : lk l b with
    | some y => rfl
    | none =>
      simp only
      rw [blkAt_put]
      split
      · rfl
      · rfl

theorem lk_none : ∀ (δ : List (Nat × Blk)) (b : Nat), b ∉ δ.map (·.1) → lk δ b = none
  | [], _, _ => rfl
  | (i, x) :: l, b, h => by
    simp only [List.map_cons, List.mem_cons, not_or] at h
    simp only [lk]
    rw [lk_none l b h.2]
    simp [h.1]

/-! Orders. -/
def Disj (l r : List Nat) : Prop := ∀ x, x ∈ l → x ∉ r

def Fine (m : Nat) (e : Ent) (rd wr : List Nat) : Prop := m.testBit e.i = true ∨ (Disj e.wr rd ∧ Disj e.wr wr ∧ Disj e.rd wr)

theorem memN_iff : ∀ (b : Nat) (l : List Nat), memN b l = true ↔ b ∈ l
  | b, [] => by simp [memN]
  | b, c :: l => by simp [memN, memN_iff b l, Nat.beq_eq]

theorem disj_ok : ∀ (l r : List Nat), disj l r = true → Disj l r
  | [], r, _, x, hx => by simp at hx
  | b :: l, r, h, x, hx => by
    simp only [disj, Bool.and_eq_true, Bool.not_eq_true'] at h
    simp only [List.mem_cons] at hx
    rcases hx with rfl | hx
    · intro hr; rw [(memN_iff x r).2 hr] at h; cases h.1
    · exact disj_ok l r h.2 x hx

theorem entOk_ok : ∀ (log : List Ent) (m : Nat) (rd wr : List Nat), entOk m rd wr log = true → ∀ e ∈ log, Fine m e rd wr
  | [], _, _, _, _, e, he => by simp at he
  | e0 :: log, m, rd, wr, h, e, he => by
    simp only [entOk, Bool.and_eq_true, Bool.or_eq_true] at h
    simp only [List.mem_cons] at he
    rcases he with rfl | he
    · exact h.1.imp id fun h => ⟨disj_ok _ _ h.1, disj_ok _ _ h.2.1, disj_ok _ _ h.2.2⟩
    · exact entOk_ok log m rd wr h.2 e he

theorem masks_pre : ∀ (l : List Oper) (acc : List Nat), ∃ r, masks l acc = acc ++ r
  | [], acc => ⟨[], by simp [masks]⟩
  | o :: l, acc => by
    obtain ⟨r, hr⟩ := masks_pre l (acc ++ [maskOf acc o])
    exact ⟨maskOf acc o :: r, by simp [masks, hr]⟩

theorem masks_get : ∀ (l : List Oper) (acc : List Nat) (j : Nat) (o : Oper), l[j]? = some o → (masks l acc).getD (acc.length + j) 0 = maskOf ((masks l acc).take (acc.length + j)) o
  | [], _, _, _, h => by simp at h
  | o0 :: l, acc, 0, o, h => by
    simp only [List.getElem?_cons_zero, Option.some.injEq] at h
    subst h
    obtain ⟨r, hr⟩ := masks_pre l (acc ++ [maskOf acc o0])
    simp only [masks, hr]
    simp
  | o0 :: l, acc, j + 1, o, h => by
    have := masks_get l (acc ++ [maskOf acc o0]) j o (by simpa using h)
    simp only [List.length_append, List.length_singleton] at this
    simp only [masks]
    rw [show acc.length + (j + 1) = acc.length + 1 + j by omega]
    exact this

theorem mask_bit (acc : List Nat) (o : Oper) (i : Nat) (h : (maskOf acc o).testBit i = true) : ∃ e ∈ o.after, Region.binds .any e = true ∧ (i = e.on ∨ (acc.getD e.on 0).testBit i = true) := by
  unfold maskOf at h
  have key : ∀ (l : List Edge) (s : Nat), (l.foldl (fun s e => match Region.binds .any e with | true => (s ||| 2 ^ e.on) ||| acc.getD e.on 0 | false => s) s).testBit i = true → s.testBit i = true ∨ ∃ e ∈ l, Region.binds .any e = true ∧ (i = e.on ∨ (acc.getD e.on 0).testBit i = true) := by
    intro l
    induction l with
    | nil => intro s h; exact .inl h
    | cons e l ih =>
      intro s h
      simp only [List.foldl_cons] at h
      rcases ih _ h with h | ⟨e', he', h'⟩
      · split at h
        · rename_i hb
          simp only [Nat.testBit_or, Bool.or_eq_true, Nat.testBit_two_pow, decide_eq_true_eq] at h
          rcases h with (h | h) | h
          · exact .inl h
          · exact .inr ⟨e, by simp, hb, .inl h.symm⟩
          · exact .inr ⟨e, by simp, hb, .inr h⟩
        · exact .inl h
      · exact .inr ⟨e', by simp [he'], h'⟩
  rcases key _ _ h with h | ⟨e, he, h⟩
  · simp at h
  · exact ⟨e, by simpa using he, h⟩

/-- A set that holds whatever its members wait for. -/
def Closed (ops : Array Oper) (L : Nat → Bool) : Prop := ∀ j o, ops[j]? = some o → L j = true → ∀ e ∈ o.after, Region.binds .any e = true → L e.on = true

theorem mask_closed {ops : Array Oper} {L : Nat → Bool} (hC : Closed ops L) : ∀ (j : Nat) (o : Oper), ops[j]? = some o → (∀ e ∈ o.after, Region.binds .any e = true → L e.on = true) → ∀ i, ((masks ops.toList []).getD j 0).testBit i = true → L i = true := by
  intro j
  induction j using Nat.strongRecOn with
  | _ j ih =>
    intro o ho hd i hi
    have := masks_get ops.toList [] j o (by rw [Array.getElem?_toList]; exact ho)
    simp only [List.length_nil, Nat.zero_add] at this
    rw [this] at hi
    obtain ⟨e, he, hb, h⟩ := mask_bit _ _ _ hi
    rcases h with rfl | h
    · exact hd e he hb
    · by_cases hlt : e.on < j
      · have hoe : ∃ o', ops[e.on]? = some o' := by
          have := (Array.getElem?_eq_some_iff.1 ho).1
          exact ⟨ops[e.on]'(by omega), Array.getElem?_eq_getElem (by omega)⟩
        obtain ⟨o', ho'⟩ := hoe
        refine ih e.on hlt o' ho' (hC e.on o' ho' (hd e he hb)) i ?_
        have : ((masks ops.toList []).take j).getD e.on 0 = (masks ops.toList []).getD e.on 0 := by
          simp [List.getD_eq_getElem?_getD, List.getElem?_take, hlt]
        rw [this] at h
        exact h
      · have : ((masks ops.toList []).take j).getD e.on 0 = 0 := by
          rw [List.getD_eq_getElem?_getD, List.getElem?_eq_none (by simp; omega)]
          rfl
        rw [this] at h
        simp at h

def cnt (L : Nat → Bool) : Nat → Nat
  | 0 => 0
  | n + 1 => cnt L n + if L n then 0 else 1

theorem cnt_put {L L' : Nat → Bool} {i : Nat} (hi : L i = false) (hL' : ∀ j, L' j = if j = i then true else L j) : ∀ (n : Nat), (i < n → cnt L' n + 1 = cnt L n) ∧ (n ≤ i → cnt L' n = cnt L n)
  | 0 => ⟨fun h => by omega, fun _ => rfl⟩
  | n + 1 => by
    obtain ⟨h1, h2⟩ := cnt_put hi hL' n
    refine ⟨fun h => ?_, fun h => ?_⟩
    · by_cases hn : n = i
      · subst hn
        have := h2 (Nat.le_refl _)
        simp [cnt, hL', hi, this]
      · have := h1 (by omega)
        simp only [cnt, hL', if_neg hn]
        omega
    · have := h2 (by omega)
      simp only [cnt, hL', if_neg (show n ≠ i by omega), this]

theorem cnt_zero {L : Nat → Bool} : ∀ (n : Nat), cnt L n = 0 → ∀ j, j < n → L j = true
  | 0, _, j, h => by omega
  | n + 1, h, j, hj => by
    simp only [cnt] at h
    by_cases hn : L n = true
    · by_cases hjn : j = n
      · subst hjn; exact hn
      · exact cnt_zero n (by omega) j (by omega)
    · simp [hn] at h

theorem least {L : Nat → Bool} (n : Nat) (j : Nat) (hj : j < n) (h : L j = false) : ∃ i, i < n ∧ L i = false ∧ ∀ k, k < i → L k = true := by
  induction j using Nat.strongRecOn with
  | _ j ih =>
    by_cases hex : ∃ k, k < j ∧ L k = false
    · obtain ⟨k, h1, h2⟩ := hex
      exact ih k h1 (by omega) h2
    · refine ⟨j, hj, h, fun k hk => ?_⟩
      cases hb : L k with
      | true => rfl
      | false => exact absurd ⟨k, hk, hb⟩ hex
end Sym

/- A region whose order is drawn: it does what the text's order does. -/
namespace Sym
open Go
section
variable {base : World} {G0 own0 : Nat → Prop} {sz : Nat} {fr : List (List Value)}

/-- What the text's order shows of each step. -/
structure Walk (E : Env) (ops : Array Oper) (ms : List Nat) (i n : Nat) (S : Nat → St) (rn : Nat → Bool) (pv : Nat → PV) (δ : Nat → List (Nat × Blk)) : Prop where
  at_ : ∀ j, i ≤ j → j < n → ∃ o, ops[j]? = some o ∧ S (j + 1) = (S j).put o.dst (pv j) (δ j) ∧ GuardIs ops o (slotAt (S j).slots) (rn j) ∧
    (rn j = true → OpOk E o (argsOf o (S j)) (S j).heap (S j).heap.length (pv j) (δ j)) ∧ (rn j = false → pv j = undefPV ∧ δ j = [])
  fine : ∀ j k o o', i ≤ k → k < j → j < n → ops[j]? = some o → ops[k]? = some o' → rn k = true → rn j = true → Fine (ms.getD j 0) ⟨k, blksL (argsOf o' (S k)), (δ k).map (·.1)⟩ (blksL (argsOf o (S j))) ((δ j).map (·.1))

theorem draw_walk {E : Env} (hE : EnvOk E) {R : Type} {T : R → Prop} {fail : R} (hf : ¬ T fail) (ops : Array Oper) (ms : List Nat) {K : St → R} :
    ∀ (l pre : List Oper) (log : List Ent) (st : St), ops.toList = pre ++ l → T (evDraw E fail ops ms pre.length l log st K) →
    ∃ S rn pv δ, S pre.length = st ∧ T (K (S (pre.length + l.length))) ∧ Walk E ops ms pre.length (pre.length + l.length) S rn pv δ ∧
      ∀ j o, pre.length ≤ j → j < pre.length + l.length → ops[j]? = some o → rn j = true → ∀ e ∈ log, Fine (ms.getD j 0) e (blksL (argsOf o (S j))) ((δ j).map (·.1)) := by
  intro l
  induction l with
  | nil =>
    intro pre log st _ h
    exact ⟨fun _ => st, fun _ => true, fun _ => .undef, fun _ => [], rfl, h, ⟨fun j h1 h2 => by simp at h2; omega, fun j k o o' h1 h2 h3 => by simp at h3; omega⟩, fun j o h1 h2 => by simp at h2; omega⟩
  | cons o l ih =>
    intro pre log st ho h
    have hget : ops[pre.length]? = some o := by
      rw [← Array.getElem?_toList, ho]
      simp
    have ho' : ops.toList = (pre ++ [o]) ++ l := by simp [ho]
    simp only [evDraw] at h
    have build : ∀ (log' : List Ent) (b : Bool) (p : PV) (d : List (Nat × Blk)), T (evDraw E fail ops ms (pre.length + 1) l log' (st.put o.dst p d) K) → GuardIs ops o (slotAt st.slots) b →
        (b = true → OpOk E o (argsOf o st) st.heap st.heap.length p d ∧ log' = ⟨pre.length, blksL (argsOf o st), d.map (·.1)⟩ :: log ∧ ∀ e ∈ log, Fine (ms.getD pre.length 0) e (blksL (argsOf o st)) (d.map (·.1))) →
        (b = false → p = undefPV ∧ d = [] ∧ log' = log) → ∃ S rn pv δ, S pre.length = st ∧ T (K (S (pre.length + (o :: l).length))) ∧ Walk E ops ms pre.length (pre.length + (o :: l).length) S rn pv δ ∧
      ∀ j o', pre.length ≤ j → j < pre.length + (o :: l).length → ops[j]? = some o' → rn j = true → ∀ e ∈ log, Fine (ms.getD j 0) e (blksL (argsOf o' (S j))) ((δ j).map (·.1)) := by
      intro log' b p d h hg hb1 hb0
      obtain ⟨S, rn, pv, δ, g1, g2, g3, g4⟩ := ih (pre ++ [o]) log' (st.put o.dst p d) ho' (by simpa using h)
      simp only [List.length_append, List.length_singleton] at g1 g2 g3 g4
      have hlen : pre.length + (o :: l).length = pre.length + 1 + l.length := by simp; omega
      have hlog : ∀ e ∈ log, e ∈ log' := by
        intro e he
        cases b with
        | true => rw [(hb1 rfl).2.1]; exact List.mem_cons_of_mem _ he
        | false => rw [(hb0 rfl).2.2]; exact he
      rw [hlen]
      refine ⟨fun k => if k = pre.length then st else S k, fun k => if k = pre.length then b else rn k, fun k => if k = pre.length then p else pv k, fun k => if k = pre.length then d else δ k, by simp, ?_, ⟨?_, ?_⟩, ?_⟩
      · simp only
        rw [if_neg (by omega)]
        exact g2
      · intro j h1 h2
        by_cases hj : j = pre.length
        · subst hj
          refine ⟨o, hget, ?_, ?_, ?_, ?_⟩
          · simp [g1]
          · simpa using hg
          · intro hb
            simp only [if_true] at hb ⊢
            exact (hb1 hb).1
          · intro hb
            simp only [if_true] at hb ⊢
            exact ⟨(hb0 hb).1, (hb0 hb).2.1⟩
        · simp only [if_neg hj, if_neg (show j + 1 ≠ pre.length by omega)]
          exact g3.at_ j (by omega) h2
      · intro j k q q' h1 h2 h3 hq hq' hk hj
        have hjn : j ≠ pre.length := by omega
        simp only [if_neg hjn] at hj ⊢
        by_cases hkp : k = pre.length
        · subst hkp
          simp only [if_true] at hk ⊢
          have : q' = o := by rw [hget] at hq'; exact (Option.some.inj hq').symm
          subst this
          exact g4 j q (by omega) h3 hq hj _ (by rw [(hb1 hk).2.1]; simp)
        · simp only [if_neg hkp] at hk ⊢
          exact g3.fine j k q q' (by omega) h2 h3 hq hq' hk hj
      · intro j q h1 h2 hq hj e he
        by_cases hjp : j = pre.length
        · subst hjp
          simp only [if_true] at hj ⊢
          have : q = o := by rw [hget] at hq; exact (Option.some.inj hq).symm
          subst this
          exact (hb1 hj).2.2 e he
        · simp only [if_neg hjp] at hj ⊢
          exact g4 j q (by omega) h2 hq hj e (hlog e he)
    rcases guardK_ok hf h with ⟨h, hg⟩ | ⟨h, hg⟩
    · obtain ⟨p, d, ht, hok⟩ := evOp_ok hE hf h
      simp only at ht
      split at ht
      · rename_i he
        exact build _ true p d ht hg (fun _ => ⟨hok, rfl, entOk_ok _ _ _ _ he⟩) (fun h => by cases h)
      · exact absurd ht hf
    · exact build _ false undefPV [] h hg (fun h => by cases h) (fun _ => ⟨rfl, rfl, rfl⟩)

theorem opd_look {c : Cx} {st : St} {ops : Array Oper} {o : Oper} {a : Act} (h : ∀ d ∈ o.looksAt ops, VOk c (slotAt st.slots d) (a.tmps.getD d undef)) : All2 (VOk c) (argsOf o st) (o.op.operands.toList.map a.eval) := by
  unfold argsOf
  have key : ∀ l : List Operand, (∀ t, Operand.tmp t ∈ l → VOk c (slotAt st.slots t) (a.tmps.getD t undef)) → All2 (VOk c) (l.map (opd st.slots)) (l.map a.eval) := by
    intro l
    induction l with
    | nil => intro _; trivial
    | cons x l ih =>
      intro h
      refine ⟨?_, ih fun t ht => h t (by simp [ht])⟩
      cases x with
      | tmp t => exact h t (by simp)
      | const v => exact const_ok _ v
      | global g => exact trivial
      | func f => exact ⟨_, rfl, rfl⟩
  refine key _ fun t ht => h t ?_
  unfold Oper.looksAt
  exact List.mem_append_left _ (List.mem_filterMap.2 ⟨.tmp t, ht, rfl⟩)

theorem apart_at {ops : Array Oper} {ms : List Nat} (h : apartOk ops ms = true) {i j : Nat} {x y : Oper} (hij : i < j) (hi : ops[i]? = some x) (hj : ops[j]? = some y) (hb : (ms.getD j 0).testBit i = false) : Oper.apart ops x y = true := by
  unfold apartOk at h
  rw [List.all_eq_true] at h
  have := h j (List.mem_range.2 (Array.getElem?_eq_some_iff.1 hj).1)
  simp only [hj, Bool.and_eq_true] at this
  have := this.2
  rw [List.all_eq_true] at this
  have := this i (List.mem_range.2 hij)
  simp only [hi, hb, Bool.false_or] at this
  exact this

theorem back_at {ops : Array Oper} {ms : List Nat} (h : apartOk ops ms = true) {j : Nat} {y : Oper} (hj : ops[j]? = some y) : ∀ e ∈ y.after, Region.binds .any e = true → e.on < j := by
  unfold apartOk at h
  rw [List.all_eq_true] at h
  have := h j (List.mem_range.2 (Array.getElem?_eq_some_iff.1 hj).1)
  simp only [hj, Bool.and_eq_true] at this
  have := this.1
  rw [List.all_eq_true] at this
  intro e he hb
  have := this e (by simpa using he)
  simp only [hb, Bool.not_true, Bool.false_or] at this
  exact Nat.le_of_ble_eq_true this

def wS (ops : Array Oper) (len : Nat) (pv : Nat → PV) (j d : Nat) : Option PV :=
  match ops[j]? with
  | some o => if o.dst = some d ∧ d < len then some (pv j) else none
  | none => none

def wH (δ : Nat → List (Nat × Blk)) (j b : Nat) : Option Blk := lk (δ j) b

theorem slotAt_set : ∀ (vs : List PV) (d e : Nat) (v : PV), slotAt (setAt vs d v) e = if e = d ∧ d < vs.length then v else slotAt vs e
  | [], d, e, v => by simp [setAt]
  | _ :: _, 0, 0, v => by simp [setAt, slotAt]
  | _ :: _, 0, e + 1, v => by simp [setAt, slotAt]
  | _ :: _, d + 1, 0, v => by simp [setAt, slotAt]
  | x :: vs, d + 1, e + 1, v => by simp [setAt, slotAt, slotAt_set vs d e v]

theorem slotAt_put (st : St) (d : Option Nat) (p : PV) (δ : List (Nat × Blk)) (e : Nat) : slotAt (st.put d p δ).slots e = if d = some e ∧ e < st.slots.length then p else slotAt st.slots e := by
  cases d with
  | none => simp [St.put, putSlot]
  | some d =>
    simp only [St.put, putSlot, slotAt_set, Option.some.injEq]
    by_cases h : e = d
    · subst h; simp
    · rw [if_neg (by simp [h]), if_neg (by rintro ⟨h', _⟩; exact h h'.symm)]

theorem put_len (st : St) (d : Option Nat) (p : PV) (δ : List (Nat × Blk)) : (st.put d p δ).slots.length = st.slots.length := by
  cases d <;> simp [St.put, putSlot, setAt_len]

theorem walk_text {E : Env} {ops : Array Oper} {ms : List Nat} {n : Nat} {S : Nat → St} {rn : Nat → Bool} {pv : Nat → PV} {δ : Nat → List (Nat × Blk)} (hW : Walk E ops ms 0 n S rn pv δ) : ∀ i, i ≤ n →
    (S i).slots.length = (S 0).slots.length ∧ (S i).stk = (S 0).stk ∧ (∀ d, slotAt (S i).slots d = lastW (wS ops (S 0).slots.length pv) (slotAt (S 0).slots) (fun j => decide (j < i)) n d) ∧
    ∀ b, blkAt (S i).heap b = lastW (wH δ) (blkAt (S 0).heap) (fun j => decide (j < i)) n b := by
  have zero : ∀ {X : Type} (w : Nat → Nat → Option X) (init : Nat → X) (n k : Nat), lastW w init (fun j => decide (j < 0)) n k = init k := by
    intro X w init n k
    induction n with
    | zero => rfl
    | succ n ih => simp [lastW] at ih ⊢; exact ih
  intro i
  induction i with
  | zero => intro _; exact ⟨rfl, rfl, fun d => (zero _ _ _ _).symm, fun b => (zero _ _ _ _).symm⟩
  | succ i ih =>
    intro hi
    obtain ⟨h1, h2, h3, h4⟩ := ih (by omega)
    obtain ⟨o, ho, hS, _⟩ := hW.at_ i (Nat.zero_le _) (by omega)
    have hL : ∀ j, (decide (j < i + 1)) = if j = i then true else decide (j < i) := by
      intro j
      by_cases hj : j = i
      · simp [hj]
      · rw [if_neg hj]
        by_cases hlt : j < i
        · simp [hlt]; omega
        · simp [hlt]; omega
    have hnot : decide (i < i) = false := by simp
    refine ⟨by rw [hS, put_len, h1], by rw [hS]; exact h2, fun d => ?_, fun b => ?_⟩
    · rw [hS, slotAt_put, lastW_put _ _ (L := fun j => decide (j < i)) hnot hL n (by omega) (fun j h1 _ h => by simp at h; omega), h3, h1]
      simp only [wS, ho]
      split <;> rfl
    · rw [hS]
      show blkAt (putBlks (S i).heap (δ i)) b = _
      rw [blkAt_puts, lastW_put _ _ (L := fun j => decide (j < i)) hnot hL n (by omega) (fun j h1 _ h => by simp at h; omega), h4]
      cases h : lk (δ i) b <;> simp [wH, h]
end
end Sym

/- A region whose order is drawn: any order. -/
namespace Sym
open Go

theorem Mem.swap {base : World} {G0 own0 : Nat → Prop} {c : Cx} (hM : Mem base G0 own0 c) {w' : World} {H' : List Blk} (hos : w'.os = c.w.os) (ht : w'.tape = c.w.tape) (ho : w'.output = c.w.output) (hh : w'.heap = c.w.heap) (hH : ∀ b, blkAt H' b = blkAt c.H b) :
    Ext c (Cx.next base G0 w' c.ρ H') ∧ Mem base G0 own0 (Cx.next base G0 w' c.ρ H') := by
  have hT : Turn base G0 own0 c (Cx.next base G0 w' c.ρ H') (fun _ => False) :=
    ⟨hos, ht, ho, by simp [Cx.next, hh], fun _ _ => rfl, fun b _ => hH b, fun r _ _ => by simp [Cx.next, hh], fun _ h => h.elim, fun _ _ h => h.elim, fun _ _ _ h => h.elim, rfl⟩
  exact ⟨hT.ext hM, hT.mem hM fun b h => h.elim⟩

theorem all2_of_slots {c : Cx} : ∀ {vs : List PV} {us : List Value}, vs.length = us.length → (∀ d, VOk c (slotAt vs d) (us.getD d undef)) → All2 (VOk c) vs us
  | [], [], _, _ => trivial
  | v :: vs, u :: us, h, hh => ⟨hh 0, all2_of_slots (by simpa using h) fun d => by have := hh (d + 1); simpa [slotAt] using this⟩
  | [], _ :: _, h, _ => by simp at h
  | _ :: _, [], h, _ => by simp at h

section
variable {base : World} {G0 own0 : Nat → Prop} {sz : Nat} {fr : List (List Value)}

structure Inv (base : World) (G0 own0 : Nat → Prop) (sz : Nat) (fr : List (List Value)) (ops : Array Oper) (S0 : St) (pv : Nat → PV) (δ : Nat → List (Nat × Blk)) (L : Nat → Bool) (c : Cx) (a : Act) : Prop where
  mem : Mem base G0 own0 c
  heap : ∀ b, blkAt c.H b = lastW (wH δ) (blkAt S0.heap) L ops.size b
  slots : ∀ d, VOk c (lastW (wS ops S0.slots.length pv) (slotAt S0.slots) L ops.size d) (a.tmps.getD d undef)
  stk : All2 (All2 (VOk c)) S0.stk fr
  size : a.tmps.size = sz
  len : S0.slots.length = sz
  defers : a.defers = []

theorem getD_put (a : Act) (d : Option Tmp) (v : Value) (e : Nat) : (a.put d v).tmps.getD e undef = if d = some e ∧ e < a.tmps.size then v else a.tmps.getD e undef := by
  cases d with
  | none => simp [Act.put]
  | some d =>
    simp only [Act.put, Option.some.injEq, Array.getD_eq_getD_getElem?, Array.getElem?_setIfInBounds]
    by_cases h : d = e
    · subst h
      by_cases h2 : d < a.tmps.size
      · simp [h2]
      · simp [h2]
    · rw [if_neg h, if_neg (by simp [h])]

theorem evDraw_any {E : Env} (hE : EnvOk E) {ops : Array Oper} {S : Nat → St} {rn : Nat → Bool} {pv : Nat → PV} {δ : Nat → List (Nat × Blk)} (hA : apartOk ops (masks ops.toList []) = true) (hW : Walk E ops (masks ops.toList []) 0 ops.size S rn pv δ)
    {Q : Exit → Act → World → Prop} (hQ : ∀ c a, Rep base G0 own0 sz fr c (S ops.size) a → Q .normal a c.w) :
    ∀ (fuel : Nat) (listed : Array Bool) (a : Act) (c : Cx), listed.size = ops.size → cnt (fun j => listed.getD j false) ops.size ≤ fuel → Closed ops (fun j => listed.getD j false) → Inv base G0 own0 sz fr ops (S 0) pv δ (fun j => listed.getD j false) c a → wpAny E.P .any ops Q fuel listed a c.w := by
  have fin : ∀ (listed : Array Bool) (a : Act) (c : Cx), (∀ j, j < ops.size → listed.getD j false = true) → Inv base G0 own0 sz fr ops (S 0) pv δ (fun j => listed.getD j false) c a → Q .normal a c.w := by
    intro listed a c hall hI
    obtain ⟨h1, h2, h3, h4⟩ := walk_text hW ops.size (Nat.le_refl _)
    have hL : ∀ j, j < ops.size → (fun j => decide (j < ops.size)) j = (fun j => listed.getD j false) j := fun j hj => by simp only [hall j hj]; simpa using hj
    obtain ⟨hE', hM'⟩ := hI.mem.swap (w' := c.w) (H' := (S ops.size).heap) rfl rfl rfl rfl (fun b => by rw [h4 b, hI.heap b]; exact lastW_same _ _ _ fun j hj hne => absurd (hL j hj) hne)
    refine hQ (Cx.next base G0 c.w c.ρ (S ops.size).heap) a ⟨hM', rfl, all2_of_slots (by rw [h1, hI.len, ← hI.size]; simp) fun d => ?_, ?_, hI.size, hI.defers⟩
    · rw [← getD_toList, h3 d, lastW_same _ _ _ fun j hj hne => absurd (hL j hj) hne]
      exact v_ext hE' (hI.slots d)
    · rw [h2]; exact All2.mono (fun _ _ hl => All2.mono (fun _ _ => v_ext hE') _ _ hl) _ _ hI.stk
  have getD_lt : ∀ (listed : Array Bool) (j : Nat) (x y : Bool), j < listed.size → listed.getD j x = listed.getD j y := fun listed j x y h => by simp [h]
  intro fuel
  induction fuel with
  | zero =>
    intro listed a c hsz hc hC hI
    have hall := cnt_zero ops.size (Nat.le_zero.1 hc)
    refine ⟨?_, fin listed a c hall hI⟩
    rw [List.eq_nil_iff_forall_not_mem]
    intro j hj
    obtain ⟨h1, o, ho, _⟩ := mem_ready.1 hj
    have hlt := (Array.getElem?_eq_some_iff.1 ho).1
    have h2 : listed.getD j false = true := hall j hlt
    rw [getD_lt listed j false true (by omega)] at h2
    rw [h1] at h2; cases h2
  | succ fuel ih =>
    intro listed a c hsz hc hC hI
    refine ⟨fun hempty => fin listed a c (fun j hj => ?_) hI, fun i hi => ?_⟩
    · cases hb : listed.getD j false with
      | true => rfl
      | false =>
        obtain ⟨i, h1, h2, h3⟩ := least (L := fun j => listed.getD j false) ops.size j hj hb
        have : i ∈ Region.ready .any ops listed := by
          refine mem_ready.2 ⟨by rw [getD_lt listed i true false (by omega)]; exact h2, ops[i], Array.getElem?_eq_getElem h1, fun e he hbd => ?_⟩
          exact h3 _ (back_at hA (Array.getElem?_eq_getElem h1) e he hbd)
        rw [hempty] at this; cases this
    · obtain ⟨h1, o, ho, hd⟩ := mem_ready.1 hi
      have hlt := (Array.getElem?_eq_some_iff.1 ho).1
      have hLi : listed.getD i false = false := by rw [getD_lt listed i false true (by omega)]; exact h1
      obtain ⟨o', ho', hS, hG, hrun, hskip⟩ := hW.at_ i (Nat.zero_le _) hlt
      have : o' = o := by rw [ho] at ho'; exact (Option.some.inj ho').symm
      subst this
      obtain ⟨hlen, hstk, htS, htH⟩ := walk_text hW i (by omega)
      -- who is not ordered with i
      have hun : ∀ j, j < ops.size → listed.getD j false ≠ decide (j < i) → (j < i ∧ ((masks ops.toList []).getD i 0).testBit j = false) ∨ (i < j ∧ listed.getD j false = true ∧ ((masks ops.toList []).getD j 0).testBit i = false) := by
        intro j hj hne
        by_cases hji : j < i
        · left
          refine ⟨hji, ?_⟩
          cases hb : ((masks ops.toList []).getD i 0).testBit j with
          | false => rfl
          | true =>
            have : listed.getD j false = true := mask_closed hC i o' ho hd j hb
            rw [this] at hne
            simp [hji] at hne
        · right
          have hLj : listed.getD j false = true := by
            cases hb : listed.getD j false with
            | true => rfl
            | false => rw [hb] at hne; simp [hji] at hne
          have hij : i < j := by
            rcases Nat.lt_or_ge i j with h | h
            · exact h
            · have : j = i := by omega
              subst this; rw [hLi] at hLj; cases hLj
          refine ⟨hij, hLj, ?_⟩
          cases hb : ((masks ops.toList []).getD j 0).testBit i with
          | false => rfl
          | true =>
            have hoj := Array.getElem?_eq_getElem hj
            have : listed.getD i false = true := mask_closed hC j _ hoj (hC j _ hoj hLj) i hb
            rw [hLi] at this; cases this
      have hlater : ∀ j, i < j → j < ops.size → listed.getD j false = true → ((masks ops.toList []).getD j 0).testBit i = false := by
        intro j hij hj hLj
        rcases hun j hj (by rw [hLj]; simp; omega) with h | h
        · omega
        · exact h.2.2
      have hslot : ∀ d ∈ o'.looksAt ops, VOk c (slotAt (S i).slots d) (a.tmps.getD d undef) := by
        intro d hdl
        rw [htS d, ← lastW_same (wS ops (S 0).slots.length pv) (slotAt (S 0).slots) (L := fun j => listed.getD j false) ops.size fun j hj hne => ?_]
        · exact hI.slots d
        · have hoj := Array.getElem?_eq_getElem hj
          simp only [wS, hoj]
          refine if_neg fun ⟨hdst, _⟩ => ?_
          rcases hun j hj hne with ⟨hji, hb⟩ | ⟨hij, _, hb⟩
          · exact (Oper.apart_spec (apart_at hA hji hoj ho hb)).1 d hdst hdl
          · exact (Oper.apart_spec (apart_at hA hij ho hoj hb)).2.2 d hdst hdl
      have hheap : rn i = true → ∀ b, (b ∈ blksL (argsOf o' (S i)) ∨ b ∈ (δ i).map (·.1)) → blkAt c.H b = blkAt (S i).heap b := by
        intro hr b hb
        rw [hI.heap b, htH b]
        refine lastW_same _ _ _ fun j hj hne => ?_
        have hoj := Array.getElem?_eq_getElem hj
        obtain ⟨oj, hoj', _, _, _, hsk⟩ := hW.at_ j (Nat.zero_le _) hj
        have : oj = ops[j] := by rw [hoj] at hoj'; exact (Option.some.inj hoj').symm
        subst this
        cases hrj : rn j with
        | false => simp [wH, (hsk hrj).2, lk]
        | true =>
          refine lk_none _ _ fun hbj => ?_
          rcases hun j hj hne with ⟨hji, hbit⟩ | ⟨hij, _, hbit⟩
          · have hfine := (hW.fine i j o' _ (Nat.zero_le _) hji hlt ho hoj hrj hr).resolve_left (by simp only; rw [hbit]; simp)
            rcases hb with hb | hb
            · exact hfine.1 b hbj hb
            · exact hfine.2.1 b hbj hb
          · have hfine := (hW.fine j i _ o' (Nat.zero_le _) hij hj hoj ho hr hrj).resolve_left (by simp only; rw [hbit]; simp)
            rcases hb with hb | hb
            · exact hfine.2.2 b hb hbj
            · exact hfine.2.1 b hb hbj
      have hL' : ∀ j, (listed.setIfInBounds i true).getD j false = if j = i then true else listed.getD j false := by
        intro j
        by_cases hj : j = i
        · subst hj
          rw [if_pos rfl]
          simp [show j < listed.size by omega]
        · rw [if_neg hj, getD_set_ne false (fun h => hj h.symm)]
      have after : ∀ (v : Value) (c' : Cx), Ext c c' → Mem base G0 own0 c' → c'.H = putBlks c.H (δ i) → VOk c' (pv i) v → wpAny E.P .any ops Q fuel (listed.setIfInBounds i true) (a.put o'.dst v) c'.w := by
        intro v c' hE' hM' hH' hv
        refine ih _ _ c' (by simp [hsz]) ?_ ?_ ?_
        · have := (cnt_put (L := fun j => listed.getD j false) (L' := fun j => (listed.setIfInBounds i true).getD j false) hLi hL' ops.size).1 hlt
          omega
        · intro j oj hoj hLj e he hb
          simp only at hLj ⊢
          rw [hL'] at hLj ⊢
          split
          · rfl
          · by_cases hji : j = i
            · subst hji
              have : oj = o' := by rw [ho] at hoj; exact (Option.some.inj hoj).symm
              subst this
              exact hd e he hb
            · rw [if_neg hji] at hLj
              exact hC j oj hoj hLj e he hb
        · refine ⟨hM', fun b => ?_, fun d => ?_, All2.mono (fun _ _ hl => All2.mono (fun _ _ => v_ext hE') _ _ hl) _ _ hI.stk, by rw [put_size]; exact hI.size, hI.len, by rw [put_defers]; exact hI.defers⟩
          · rw [hH', blkAt_puts, hI.heap b, lastW_put (wH δ) (blkAt (S 0).heap) (L := fun j => listed.getD j false) (L' := fun j => (listed.setIfInBounds i true).getD j false) hLi hL' ops.size hlt fun j hij hj hLj => ?_]
            · cases h : lk (δ i) b <;> simp [wH, h]
            · have hoj := Array.getElem?_eq_getElem hj
              obtain ⟨oj, hoj', _, _, _, hsk⟩ := hW.at_ j (Nat.zero_le _) hj
              have : oj = ops[j] := by rw [hoj] at hoj'; exact (Option.some.inj hoj').symm
              subst this
              cases hrj : rn j with
              | false => left; simp [wH, (hsk hrj).2, lk]
              | true =>
                cases hri : rn i with
                | false => right; simp [wH, (hskip hri).2, lk]
                | true =>
                  have hfine := (hW.fine j i _ o' (Nat.zero_le _) hij hj hoj ho hri hrj).resolve_left (by simp only; rw [hlater j hij hj hLj]; simp)
                  by_cases hb : b ∈ (δ i).map (·.1)
                  · exact .inl (lk_none _ _ (hfine.2.1 b hb))
                  · exact .inr (lk_none _ _ hb)
          · rw [lastW_put (wS ops (S 0).slots.length pv) (slotAt (S 0).slots) (L := fun j => listed.getD j false) (L' := fun j => (listed.setIfInBounds i true).getD j false) hLi hL' ops.size hlt fun j hij hj hLj => ?_, getD_put]
            · simp only [wS, ho]
              have hsize := hI.size
              have hl := hI.len
              by_cases hdd : o'.dst = some d ∧ d < (S 0).slots.length
              · rw [if_pos hdd, if_pos (by rw [hsize, ← hl]; exact hdd)]
                exact hv
              · rw [if_neg hdd, if_neg (by rw [hsize, ← hl]; exact hdd)]
                exact v_ext hE' (hI.slots d)
            · have hoj := Array.getElem?_eq_getElem hj
              have hap := Oper.apart_spec (apart_at hA hij ho hoj (hlater j hij hj hLj))
              simp only [wS, hoj, ho]
              by_cases hdd : o'.dst = some d
              · left; exact if_neg fun h => hap.2.1 d hdd h.1
              · right; exact if_neg fun h => hdd h.1
      unfold wpOp
      simp only [ho]
      have hw := hG c a.tmps hslot
      cases hr : rn i with
      | true =>
        rw [hr] at hw
        rw [if_pos hw]
        left
        refine hrun hr base G0 own0 a c hI.mem (fun b hb => hheap hr b (.inl hb)) (opd_look hslot) (fun p hp hge => ?_) _ _ after
        rw [hheap hr p.1 (.inr (List.mem_map_of_mem hp))]
        exact blkAt_ge _ _ hge
      | false =>
        rw [hr] at hw
        rw [if_neg (by rw [hw]; simp)]
        obtain ⟨e1, e2⟩ := hskip hr
        exact after undef c (Ext.refl c) hI.mem (by rw [e2]; rfl) (by rw [e1]; exact undef_ok)

theorem evDraw_ok {E : Env} (hE : EnvOk E) {R : Type} {T : R → Prop} {fail : R} (hf : ¬ T fail) {ops : Array Oper} {id : Nat} {Q : Exit → Act → World → Prop} {K : St → R} (hA : apartOk ops (masks ops.toList []) = true)
    (hK : ∀ st c a, T (K st) → Rep base G0 own0 sz fr c st a → Q .normal a c.w) {st : St} {c : Cx} {a : Act} (h : T (evDraw E fail ops (masks ops.toList []) 0 ops.toList [] st K)) (hr : Rep base G0 own0 sz fr c st a) :
    (Code.region id ops true).wp E.P Q a c.w := by
  obtain ⟨S, rn, pv, δ, h0, hT, hW, _⟩ := draw_walk hE hf ops (masks ops.toList []) ops.toList [] [] st (by simp) h
  simp only [List.length_nil, Nat.zero_add, Array.length_toList] at h0 hT hW
  refine wp_region_any hE.mixed ?_
  obtain ⟨hE', hM'⟩ := hr.mem.swap (w' := { c.w with drawn := c.w.drawn + 1 }) (H' := c.H) rfl rfl rfl rfl (fun _ => rfl)
  refine evDraw_any hE hA hW (fun c a hr => hK _ _ _ hT hr) ops.size (Array.replicate ops.size false) a (Cx.next base G0 { c.w with drawn := c.w.drawn + 1 } c.ρ c.H) (by simp) ?_ ?_ ?_
  · have : ∀ (L : Nat → Bool) (n : Nat), cnt L n ≤ n := by
      intro L n
      induction n with
      | zero => exact Nat.le_refl _
      | succ n ih => simp only [cnt]; split <;> omega
    exact this _ _
  · intro j o ho hL
    exfalso
    simp [Array.getD_eq_getD_getElem?, Array.getElem?_replicate] at hL
    split at hL <;> simp at hL
  · have hz : ∀ {X : Type} (w : Nat → Nat → Option X) (init : Nat → X) (n k : Nat), lastW w init (fun j => (Array.replicate ops.size false).getD j false) n k = init k := by
      intro X w init n k
      induction n with
      | zero => rfl
      | succ n ih =>
        have : (Array.replicate ops.size false).getD n false = false := by
          simp only [Array.getD_eq_getD_getElem?, Array.getElem?_replicate]
          split <;> rfl
        simp only [lastW, this]
        exact ih
    subst h0
    refine ⟨hM', fun b => by rw [hz]; show blkAt c.H b = _; rw [hr.heap], fun d => ?_, All2.mono (fun _ _ hl => All2.mono (fun _ _ => v_ext hE') _ _ hl) _ _ hr.stk, hr.size, by rw [All2.len hr.slots, ← hr.size]; simp, hr.defers⟩
    rw [hz, getD_toList]
    exact v_ext hE' (all2_slot d hr.slots)
end
end Sym

/- The evaluator of code tells what the machine does. -/
namespace Sym
open Go

/-- Inside a loop, at its head. -/
def InLoop (P : Program) (c : Code) (Q : Exit → Act → World → Prop) (a : Act) (w : World) : Prop :=
  ∀ (b : Frame) (k : List Item) (cs : List Frame), ∃ e a' w', Q e a' w' ∧ Arrives P (lone (b.at a (.inLoop c :: k)) cs w) b k cs e a' w'

theorem loop_body {P : Program} {c : Code} {Q : Exit → Act → World → Prop} {a : Act} {w : World} (h : c.wp P (Exit.then (InLoop P c Q) Q) a w) :
    (∀ (b : Frame) (k : List Item) (cs : List Frame), ∃ e a' w', Q e a' w' ∧ Arrives P (lone (b.at a (.code c :: .inLoop c :: k)) cs w) b k cs e a' w') := by
  intro b k cs
  obtain ⟨e, a1, w1, hq, harr⟩ := h b (.inLoop c :: k) cs
  cases e with
  | normal =>
    obtain ⟨e2, a2, w2, hq2, harr2⟩ := hq b k cs
    exact ⟨e2, a2, w2, hq2, .of_steps harr harr2⟩
  | exit id => exact ⟨_, a1, w1, hq, .pass (x := .inLoop c) rfl (fun _ _ => .inl (by simp)) harr⟩
  | goto l => exact ⟨_, a1, w1, hq, .pass (x := .inLoop c) rfl (fun _ _ => .inl (by simp)) harr⟩
  | ret => exact ⟨_, a1, w1, hq, .pass (x := .inLoop c) rfl (fun _ _ => .inl (by simp)) harr⟩
  | panic ch => exact ⟨_, a1, w1, hq, .pass (x := .inLoop c) rfl (fun _ _ => .inl (by simp)) harr⟩
  | outgrown => exact ⟨_, a1, w1, hq, .pass (x := .inLoop c) rfl (fun _ _ => .inl (by simp)) harr⟩

theorem inLoop_of {P : Program} {c : Code} {Q : Exit → Act → World → Prop} {a : Act} {w : World} (h : c.wp P (Exit.then (InLoop P c Q) Q) a w) : InLoop P c Q a w := by
  intro b k cs
  obtain ⟨e, a', w', hq, harr⟩ := loop_body h b k cs
  exact ⟨e, a', w', hq, .of_steps (.one step_inLoop) harr⟩

theorem loop_of {P : Program} {c : Code} {Q : Exit → Act → World → Prop} {a : Act} {w : World} (h : c.wp P (Exit.then (InLoop P c Q) Q) a w) : (Code.loop c).wp P Q a w := by
  intro b k cs
  obtain ⟨e, a', w', hq, harr⟩ := loop_body h b k cs
  exact ⟨e, a', w', hq, .of_steps (.one step_loop) harr⟩

section
variable {base : World} {G0 own0 : Nat → Prop} {sz : Nat} {fr : List (List Value)}

structure KOk (base : World) (G0 own0 : Nat → Prop) (sz : Nat) (fr : List (List Value)) {R : Type} (T : R → Prop) (K : Kt R) (Q : Exit → Act → World → Prop) : Prop where
  norm : ∀ st c a, T (K.norm st) → Rep base G0 own0 sz fr c st a → Q .normal a c.w
  exit : ∀ i st c a, T (K.exit i st) → Rep base G0 own0 sz fr c st a → Q (.exit i) a c.w
  ret : ∀ st c a, T (K.ret st) → Rep base G0 own0 sz fr c st a → Q .ret a c.w

theorem all2_app {X Y : Type} {R : X → Y → Prop} : ∀ {l : List X} {r : List Y} {l' : List X} {r' : List Y}, All2 R l r → All2 R l' r' → All2 R (l ++ l') (r ++ r')
  | [], [], _, _, _, h => h
  | _ :: _, _ :: _, _, _, h, h' => ⟨h.1, all2_app h.2 h'⟩
  | [], _ :: _, _, _, h, _ => h.elim
  | _ :: _, [], _, _, h, _ => h.elim

theorem all2_take {X Y : Type} {R : X → Y → Prop} : ∀ (n : Nat) {l : List X} {r : List Y}, All2 R l r → All2 R (l.take n) (r.take n) ∧ All2 R (l.drop n) (r.drop n)
  | 0, _, _, h => ⟨by simp only [List.take_zero]; trivial, by simpa using h⟩
  | n + 1, [], [], _ => ⟨trivial, trivial⟩
  | n + 1, _ :: _, _ :: _, h => ⟨⟨h.1, (all2_take n h.2).1⟩, (all2_take n h.2).2⟩
  | _ + 1, [], _ :: _, h => h.elim
  | _ + 1, _ :: _, [], h => h.elim

theorem all2_flat {c : Cx} : ∀ {l : List (List PV)} {r : List (List Value)}, All2 (All2 (VOk c)) l r → All2 (VOk c) l.flatten r.flatten
  | [], [], _ => trivial
  | _ :: _, _ :: _, h => all2_app h.1 (all2_flat h.2)
  | [], _ :: _, h => h.elim
  | _ :: _, [], h => h.elim

theorem all2_cut {c : Cx} : ∀ (r : List (List Value)) (l : List PV), All2 (VOk c) l r.flatten → All2 (All2 (VOk c)) (cutList (r.map List.length) l) r
  | [], l, h => trivial
  | u :: r, l, h => by
    simp only [List.flatten_cons] at h
    obtain ⟨h1, h2⟩ := all2_take u.length h
    rw [List.take_left' rfl] at h1
    rw [List.drop_left' rfl] at h2
    exact ⟨h1, all2_cut r _ h2⟩

theorem mkSlots_len : ∀ (l : List Sh) (x : ShD l), (mkSlots l x).length = l.length
  | [], _ => rfl
  | .pl _ :: l, x => by simp [mkSlots, mkSlots_len l x.2]
  | .bp _ :: l, x => by simp [mkSlots, mkSlots_len l x.2]
  | .pair _ _ :: l, x => by simp [mkSlots, mkSlots_len l x.2]
  | .ptr _ _ :: l, x => by simp [mkSlots, mkSlots_len l x]
  | .npt :: l, x => by simp [mkSlots, mkSlots_len l x]
  | .whole _ :: l, x => by simp [mkSlots, mkSlots_len l x]
  | .fn _ :: l, x => by simp [mkSlots, mkSlots_len l x]
  | .dead :: l, x => by simp [mkSlots, mkSlots_len l x]

theorem live_sim {B B' : Blk} (h : BlkSim B B') : live B = live B' := by
  cases B <;> cases B' <;> first | rfl | exact h.elim | (simp [BlkSim] at h)

/-- A state told anew by a shape. -/
theorem part_mem {c : Cx} (hM : Mem base G0 own0 c) {τ : Tm} {vs : List PV} {x : τ.D} {m : Mt} (h : τ.ext vs c.H = some (x, m)) :
    ∃ c', c'.w = c.w ∧ c'.H = mkHeap τ.heap x.2 ∧ Mem base G0 own0 c' ∧ ∀ us, All2 (VOk c) vs us → ∃ us', us = us' ++ us.drop τ.slots.length ∧ us'.length = τ.slots.length ∧ All2 (VOk c') (mkSlots τ.slots x.1) us' := by
  obtain ⟨t1, t2, t3, t4, t5, t6⟩ := Tm_ext hM.blk h
  let ρ' : Nat → Value := fun i => match m.σ.get i with | some j => c.ρ j | none => .bool false
  have hlive : ∀ i, live (blkAt (mkHeap τ.heap x.2) i) = true → ∃ j, m.σ.get i = some j ∧ live (blkAt c.H j) = true := by
    intro i hi
    have hlt : i < τ.heap.length := by
      rcases Nat.lt_or_ge i τ.heap.length with h | h
      · exact h
      · rw [blkAt_ge _ _ (by rw [mkHeap_len]; exact h)] at hi; cases hi
    obtain ⟨j, hj⟩ := t3 i hlt
    exact ⟨j, hj, by rw [← live_sim (t5 i j hj)]; exact hi⟩
  have hG : ∀ r, Glent c m.lent r → Gof base G0 c.w ρ' (mkHeap τ.heap x.2) r := by
    intro r hr
    have hbase : (G0 r ∨ base.heap.size ≤ r) ∧ r < c.w.heap.size := by
      rcases hr with hr | ⟨b, hb, hl, he⟩
      · rw [hM.G] at hr; exact ⟨hr.1, hr.2.1⟩
      · refine ⟨?_, (hM.blk b).lt hl he⟩
        rcases hM.own b r hl he with h | h
        · exact .inl (hM.sub r h)
        · exact .inr h
    refine ⟨hbase.1, hbase.2, fun i hi he => ?_⟩
    obtain ⟨j, hj, hlj⟩ := hlive i hi
    simp only [ρ', hj] at he
    rcases hr with hr | ⟨b, hb, hl, he'⟩
    · rw [hM.G] at hr
      exact hr.2.2 j hlj he
    · have : b = j := hM.inj b j r hl hlj he' he
      subst this
      have := (t1 b hb).1
      rw [inv_of_get m.σ i b hj] at this
      cases this
  obtain ⟨hblk, hargs⟩ := t6 _ hG
  refine ⟨partCx c τ x m (Gof base G0 c.w ρ' (mkHeap τ.heap x.2)), rfl, rfl, ⟨hM.os, hM.tape, hM.output, hM.size, hM.frame, hblk, fun i i' r hi hi' he he' => ?_, fun i r hi he => ?_, rfl, hM.sub⟩, hargs⟩
  · obtain ⟨j, hj, hlj⟩ := hlive i hi
    obtain ⟨j', hj', hlj'⟩ := hlive i' hi'
    simp only [partCx, hj] at he
    simp only [partCx, hj'] at he'
    have := hM.inj j j' r hlj hlj' he he'
    subst this
    exact t4 i i' j hj hj'
  · obtain ⟨j, hj, hlj⟩ := hlive i hi
    simp only [partCx, hj] at he
    exact hM.own j r hlj he

theorem Rep.lens {c : Cx} {st : St} {a : Act} (h : Rep base G0 own0 sz fr c st a) : st.lens = sz :: fr.map List.length := by
  have h1 := All2.len h.slots
  have h2 : ∀ {l : List (List PV)} {r : List (List Value)}, All2 (All2 (VOk c)) l r → l.map List.length = r.map List.length := by
    intro l
    induction l with
    | nil => intro r h; cases r with | nil => rfl | cons _ _ => exact h.elim
    | cons x l ih => intro r h; cases r with | nil => exact h.elim | cons y r => simp [All2.len h.1, ih h.2]
  simp only [St.lens, h1, h2 h.stk, Array.length_toList, h.size]

theorem Rep.flat {c : Cx} {st : St} {a : Act} (h : Rep base G0 own0 sz fr c st a) : All2 (VOk c) st.flat (a.tmps.toList ++ fr.flatten) := all2_app h.slots (all2_flat h.stk)

/-- At a loop's head: the state told anew. -/
theorem Rep.again {c : Cx} {st : St} {a : Act} (h : Rep base G0 own0 sz fr c st a) {τ : Tm} {x : τ.D} {m : Mt} (hx : τ.ext st.flat st.heap = some (x, m)) (hl : τ.slots.length = (a.tmps.toList ++ fr.flatten).length) :
    ∃ c', c'.w = c.w ∧ Rep base G0 own0 sz fr c' (stOf (sz :: fr.map List.length) τ x) a := by
  rw [← h.heap] at hx
  obtain ⟨c', hw, hH, hM, hargs⟩ := part_mem h.mem hx
  obtain ⟨us', e1, e2, h3⟩ := hargs _ h.flat
  rw [List.drop_of_length_le (by omega), List.append_nil] at e1
  subst e1
  have hcut := all2_cut (a.tmps.toList :: fr) (mkSlots τ.slots x.1) (by simpa using h3)
  have hst : stOf (sz :: fr.map List.length) τ x = ⟨(mkSlots τ.slots x.1).take sz, cutList (fr.map List.length) ((mkSlots τ.slots x.1).drop sz), mkHeap τ.heap x.2⟩ := rfl
  have hsz : a.tmps.toList.length = sz := by rw [Array.length_toList]; exact h.size
  simp only [List.map_cons, cutList, hsz] at hcut
  refine ⟨c', hw, ?_⟩
  rw [hst]
  exact ⟨hM, hH, hcut.1, hcut.2, h.size, h.defers⟩
end
end Sym

/- What a call answers. -/
namespace Sym
open Go
section
variable {base : World} {G0 own0 : Nat → Prop} {sz : Nat} {fr : List (List Value)} {P : Program}

theorem run_callFunc {f : FuncId} {fn : Func} {b : Code} {args : Array Value} {w : World} (hf : P.funcs[f]? = some fn) (hb : fn.body = some b) (hn : (fn.name == "runtime.NumGoroutine") = false) : (callFunc f args).run P w = .ok (.enter f args) w := by
  unfold callFunc
  rw [Sem.run_bind]
  have : (program : Sem Program).run P w = .ok P w := rfl
  rw [this, Result.andThen_ok]
  simp only [hf, hn, hb, Option.isNone_some]
  rfl

theorem box_load {c : Cx} (hM : Mem base G0 own0 c) {id : TypeId} {t s : Ty} (ht : TOk P t id) {b : Nat} {p : List Step} {v u : PV} {x : Value} (hx : VOk c (.ptr b p) x)
    (hb : blkAt c.H b = .box s v) (hti : tyIs s p t = true) (hg : getPath v p = some u) : ∃ ad v', x = .pointer (some ad) ∧ (loadVar id ad).run P c.w = .ok v' c.w ∧ fits u t = true ∧ ∃ cs, CellsPV c u cs ∧ v' = mkV (isAggPV u) cs := by
  have hp := v_ptr hx
  have hB := hM.blk b
  unfold PtrOk at hp
  unfold BlkOk at hB
  simp only [hb] at hp hB
  obtain ⟨r, off, u', hρ, hoff, hv⟩ := hp
  obtain ⟨r', cs, e, hρ', hh, hc, hfs⟩ := hB
  rw [hρ'] at hρ
  simp only [Value.pointer.injEq, Option.some.injEq, Addr.mk.injEq] at hρ
  obtain ⟨rfl, _, _⟩ := hρ
  have := tyIs_off hti hoff
  subst this
  obtain ⟨hf, hcu⟩ := getPath_ok v s cs p off u' u hc hfs hoff hg
  have hl := cells_len _ _ _ hcu hf
  exact ⟨_, _, hv, run_loadVar ht c.w r' off _ hl (cellsAt_of hh), hf, _, hcu, by rw [isAgg_fits hf]⟩

theorem plain_cells {c : Cx} {pv : PV} {v : Value} (h : VOk c pv v) (hp : plainPV pv = true) : ∃ cs, CellsPV c pv cs ∧ v = mkV (isAggPV pv) cs := by
  cases pv with
  | tup a => cases hp
  | undef => cases hp
  | _ => exact h

/-- One result's value. -/
def resOne (tmps : Array Value) : ResultVar → Sem Value
  | .tmp t => pure (tmps.getD t undef)
  | .cell a t => do loadVar t (← asAddr (tmps.getD a undef))

theorem resGo_ok {E : Env} (hE : EnvOk E) {c : Cx} {st : St} {a : Act} (hr : Rep base G0 own0 sz fr c st a) : ∀ (l : List ResultVar) (rs : List PV), resGo E st l = some rs →
    ∃ vs : List Value, (l.mapM (resOne a.tmps)).run E.P c.w = .ok vs c.w ∧ All2 (fun pv v => ∃ cs, CellsPV c pv cs ∧ v = mkV (isAggPV pv) cs) rs vs := by
  intro l
  induction l with
  | nil =>
    intro rs h
    simp only [resGo, Option.some.injEq] at h
    subst h
    exact ⟨[], by simp, trivial⟩
  | cons x l ih =>
    intro rs h
    cases x with
    | tmp t =>
      simp only [resGo] at h
      split at h
      · rename_i hp
        split at h
        · rename_i r hl
          simp only [Option.some.injEq] at h
          subst h
          obtain ⟨vs, h1, h2⟩ := ih r hl
          refine ⟨a.tmps.getD t undef :: vs, ?_, plain_cells (by rw [getD_toList]; exact all2_slot t hr.slots) hp, h2⟩
          simp only [List.mapM_cons, resOne, Sem.run_bind, Sem.run_pure, Result.andThen_ok, h1]
        · cases h
      · cases h
    | cell d t =>
      simp only [resGo] at h
      split at h
      · rename_i u b p ht hd
        split at h
        · rename_i s v hb
          split at h
          · rename_i v' hti hg
            split at h
            · rename_i r hl
              simp only [Option.some.injEq] at h
              subst h
              obtain ⟨vs, h1, h2⟩ := ih r hl
              have hx := all2_slot d hr.slots
              rw [hd, ← getD_toList] at hx
              obtain ⟨ad, w', e1, e2, _, hcs⟩ := box_load hr.mem (hE.ty _ _ ht).ok hx (by rw [hr.heap]; exact hb) hti hg
              refine ⟨w' :: vs, ?_, hcs, h2⟩
              simp only [List.mapM_cons, resOne, e1, asAddr, Sem.run_bind, Sem.run_pure, Result.andThen_ok, e2, h1]
            · cases h
          · cases h
        · cases h
      · cases h

theorem tup_all2 {c : Cx} : ∀ (rs : List PV) (vs : List Value), All2 (fun pv v => ∃ cs, CellsPV c pv cs ∧ v = mkV (isAggPV pv) cs) rs vs → TupOk c (rs.foldr .pair (.val .nil ())) vs
  | [], [], _ => rfl
  | p :: rs, v :: vs, h => by
    obtain ⟨⟨cs, h1, e⟩, h2⟩ := h
    exact ⟨cs, vs, by rw [e], h1, tup_all2 rs vs h2⟩
  | [], _ :: _, h => h.elim
  | _ :: _, [], h => h.elim

theorem v_cells {c : Cx} {pv : PV} {v : Value} (h : ∃ cs, CellsPV c pv cs ∧ v = mkV (isAggPV pv) cs) : VOk c pv v := by
  cases pv with
  | tup a => obtain ⟨cs, h1, _⟩ := h; exact h1.elim
  | undef => trivial
  | _ => exact h

def resVal (vs : List Value) : Value := if h : vs.toArray.size = 1 then vs.toArray[0] else .tuple vs.toArray

theorem resVal_ok {c : Cx} {rs : List PV} {vs : List Value} (h2 : All2 (fun pv v => ∃ cs, CellsPV c pv cs ∧ v = mkV (isAggPV pv) cs) rs vs) : VOk c (tuple rs) (resVal vs) := by
  match rs, vs, h2 with
  | [], [], _ => exact ⟨[], rfl, rfl⟩
  | [p], [v], h2 => exact v_cells h2.1
  | p :: q :: rs, v :: u :: vs, h2 =>
    show VOk c (.tup _) _
    refine ⟨v :: u :: vs, by simp [resVal], tup_all2 (p :: q :: rs) _ h2⟩

theorem run_results {fn : Func} {tmps : Array Value} {w : World} {vs : List Value} (h1 : (fn.results.toList.mapM (resOne tmps)).run P w = .ok vs w) : (results fn tmps).run P w = .ok (resVal vs) w := by
  have : results fn tmps = (do let vs ← fn.results.mapM (resOne tmps); pure (if h : vs.size = 1 then vs[0] else .tuple vs)) := by
    unfold results
    congr 1
  rw [this, Array.mapM_eq_mapM_toList]
  simp only [Sem.run_bind, map_eq_pure_bind, Sem.run_pure, h1, Result.andThen_ok]
  rfl

theorem res_ok {E : Env} (hE : EnvOk E) {c : Cx} {st : St} {a : Act} (hr : Rep base G0 own0 sz fr c st a) {fn : Func} {rs : List PV} (h : resPV E fn st = some rs) :
    ∃ v, (results fn a.tmps).run E.P c.w = .ok v c.w ∧ VOk c (tuple rs) v := by
  obtain ⟨vs, h1, h2⟩ := resGo_ok hE hr _ _ h
  exact ⟨_, run_results h1, resVal_ok h2⟩

theorem mk_plain {s : Sh} (h : s.isDead = false) (x : s.D) : plainPV (s.mk x) = true := by
  cases s <;> first | rfl | cases h

theorem slots_plain : ∀ (l : List Sh) (x : ShD l), l.all (fun s => !s.isDead) = true → ∀ v ∈ mkSlots l x, plainPV v = true := by
  intro l
  induction l with
  | nil => intro x _ v hv; simp [mkSlots] at hv
  | cons s l ih =>
    intro x h v hv
    simp only [List.all_cons, Bool.and_eq_true, Bool.not_eq_true'] at h
    cases s with
    | dead => cases h.1
    | pl t => simp only [mkSlots, List.mem_cons] at hv; rcases hv with rfl | hv; rfl; exact ih _ h.2 v hv
    | bp t => simp only [mkSlots, List.mem_cons] at hv; rcases hv with rfl | hv; rfl; exact ih _ h.2 v hv
    | pair p q => simp only [mkSlots, List.mem_cons] at hv; rcases hv with rfl | hv; rfl; exact ih _ h.2 v hv
    | _ => simp only [mkSlots, List.mem_cons] at hv; rcases hv with rfl | hv; rfl; exact ih _ h.2 v hv

theorem all2_cells {c : Cx} : ∀ (rs : List PV) (vs : List Value), (∀ v ∈ rs, plainPV v = true) → All2 (VOk c) rs vs → All2 (fun pv v => ∃ cs, CellsPV c pv cs ∧ v = mkV (isAggPV pv) cs) rs vs
  | [], [], _, _ => trivial
  | p :: rs, v :: vs, h, hh => ⟨plain_cells hh.1 (h p (by simp)), all2_cells rs vs (fun q hq => h q (by simp [hq])) hh.2⟩
  | [], _ :: _, _, h => h.elim
  | _ :: _, [], _, h => h.elim
end
end Sym

/- The evaluator of code tells what the machine does: the theorem. -/
namespace Sym
open Go

/-- No function is one that the machine answers itself. -/
def noOdd (P : Program) : Prop := ∀ (f : FuncId) (fn : Func), P.funcs[f]? = some fn → (fn.name == "runtime.NumGoroutine") = false

theorem repL_eq {X : Type} : ∀ (n : Nat) (x : X), repL n x = List.replicate n x
  | 0, _ => rfl
  | n + 1, x => by simp [repL, List.replicate_succ, repL_eq n x]

theorem frame_ok {c : Cx} {fn : Func} {vs : List PV} {us : List Value} (h : All2 (VOk c) vs us) : All2 (VOk c) (frame fn vs) (us.toArray ++ Array.replicate (fn.ntmps - us.toArray.size) undef).toList := by
  have hl := All2.len h
  unfold frame
  simp only [Array.toList_append, Array.toList_replicate, List.size_toArray]
  refine all2_app h ?_
  rw [hl, repL_eq]
  generalize fn.ntmps - us.length = n
  induction n with
  | zero => trivial
  | succ n ih => exact ⟨undef_ok, ih⟩

section
variable {base : World} {G0 own0 : Nat → Prop}

theorem ev_ok {E : Env} (hE : EnvOk E) (hodd : noOdd E.P) (A : Anns) (k : Nat) : ∀ (n : Nat) (R : Type) (T : R → Prop) (fail : R) (path : List Nat) (cur : Nat) (code : Code) (K : Kt R) (st : St) (c : Cx) (a : Act) (sz : Nat) (fr : List (List Value)) (Q : Exit → Act → World → Prop),
    ¬ T fail → T (ev E A k n R fail path cur code K st) → Rep base G0 own0 sz fr c st a → KOk base G0 own0 sz fr T K Q → code.wp E.P Q a c.w := by
  intro n
  induction n with
  | zero => intro R T fail path cur code K st c a sz fr Q hf h; exact absurd h hf
  | succ n ih =>
    intro R T fail path cur code K st c a sz fr Q hf h hr hK
    have hno : ∀ {x : Prop}, T fail → x := fun h => absurd h hf
    cases code with
    | skip => exact wp_skip (hK.norm st c a h hr)
    | seq x y =>
      simp only [ev] at h
      split at h
      · rename_i τ _
        split at h
        · rename_i hl
          have hlens := hr.lens
          have hlen : ∀ (c' : Cx) (st' : St) (a' : Act), Rep base G0 own0 sz fr c' st' a' → τ.slots.length = (a'.tmps.toList ++ fr.flatten).length := by
            intro c' st' a' hr'
            have h1 := Nat.eq_of_beq_eq_true hl
            have h2 := All2.len hr.flat
            have h3 := hr.size
            have h4 := hr'.size
            rw [h1, h2]
            simp only [List.length_append, Array.length_toList]
            omega
          rw [hlens] at h
          unfold jn at h
          refine wp_seq (ih R T fail path cur x _ st c a sz fr _ hf h hr ⟨fun st c a h hr => ?_, fun i st c a h hr => hK.exit i st c a h hr, fun st c a h hr => hK.ret st c a h hr⟩)
          simp only at h
          split at h
          · rename_i z mt hz
            obtain ⟨c', hw, hr'⟩ := hr.again hz (hlen c st a hr)
            have := ih R T fail path cur y K _ c' a sz fr Q hf h hr' hK
            rw [hw] at this
            exact this
          · exact hno h
        · exact hno h
      · refine wp_seq (ih R T fail path cur x _ st c a sz fr _ hf h hr ⟨fun st c a h hr => ?_, fun i st c a h hr => hK.exit i st c a h hr, fun st c a h hr => hK.ret st c a h hr⟩)
        exact ih R T fail path cur y K st c a sz fr Q hf h hr hK
    | cond o x y =>
      simp only [ev] at h
      split at h
      · rename_i b hb
        have ho := opd_ok hr.slots o
        rw [hb] at ho
        have ho := v_bool ho
        cases hb' : (show Bool from b) with
        | true =>
          simp only [hb', brn, cond_true] at h
          exact wp_cond_true (ho.trans (by rw [hb'])) (ih R T fail path cur x K st c a sz fr Q hf h hr hK)
        | false =>
          simp only [hb', brn, cond_false] at h
          exact wp_cond_false (ho.trans (by rw [hb'])) (ih R T fail path cur y K st c a sz fr Q hf h hr hK)
      · exact hno h
    | block id b =>
      simp only [ev] at h
      refine wp_block (ih R T fail path id b _ st c a sz fr _ hf h hr ⟨fun st c a h hr => hK.norm st c a h hr, fun i st c a h hr => ?_, fun st c a h hr => hK.ret st c a h hr⟩)
      simp only [Exit.inBlock]
      simp only at h
      split at h
      · rename_i hid
        rw [if_pos (Nat.eq_of_beq_eq_true hid)]
        exact hK.norm st c a h hr
      · rename_i hid
        rw [if_neg (fun e => by rw [e, Nat.beq_refl] at hid; cases hid)]
        exact hK.exit i st c a h hr
    | exit id => exact wp_exit (hK.exit id st c a h hr)
    | ret => exact wp_ret (hK.ret st c a h hr)
    | region id ops draw =>
      simp only [ev] at h
      cases draw with
      | true =>
        simp only at h
        split at h
        · rename_i hA
          exact evDraw_ok hE hf hA (fun st c a h hr => hK.norm st c a h hr) h hr
        · exact hno h
      | false =>
        simp only at h
        refine wp_region ?_
        have := evSeq_ok (Q := Q) hE hf (inl := _) ?_ ops (fun st c a h hr => hK.norm st c a h hr) ops.toList [] st c a (by simp) h hr
        · simpa [List.range_eq_range'] using this
        · intro i f vs st next c a us Kw h hhow hr hargs hKw
          simp only at h
          split at h
          · rename_i fn hfn
            split at h
            · rename_i body hb
              refine ⟨run_callFunc hfn hb (hodd f fn hfn), calls_of_wp hfn hb ?_⟩
              refine ih R T fail _ 0 body _ ⟨frame fn vs, st.slots :: st.stk, st.heap⟩ c _ _ (a.tmps.toList :: fr) _ hf h ⟨hr.mem, hr.heap, frame_ok hargs, ⟨hr.slots, hr.stk⟩, rfl, rfl⟩ ?_
              have fin : ∀ s c' a', T (match resPV E fn s, s.stk with | some rs, s0 :: r => next (tuple rs) ⟨s0, r, s.heap⟩ | _, _ => fail) → Rep base G0 own0 (us.toArray ++ Array.replicate (fn.ntmps - us.toArray.size) undef).size (a.tmps.toList :: fr) c' s a' →
                  a'.defers = [] ∧ ∃ v, (results fn a'.tmps).run E.P c'.w = .ok v c'.w ∧ ∃ v', Ending.returned v = .returned v' ∧ Kw v' c'.w := by
                intro s c' a' h hr'
                split at h
                · rename_i rs s0 r hrs hstk
                  obtain ⟨v, h1, h2⟩ := res_ok hE hr' hrs
                  refine ⟨hr'.defers, v, h1, v, rfl, hKw _ _ c' v h ⟨hr'.mem, hr'.heap, ?_, ?_, hr.size, hr.defers⟩ h2⟩
                  · have := hr'.stk; rw [hstk] at this; exact this.1
                  · have := hr'.stk; rw [hstk] at this; exact this.2
                · exact hno h
              exact ⟨fun s c' a' h hr' => fin s c' a' h hr', fun i s c' a' h _ => hno h, fun s c' a' h hr' => fin s c' a' h hr'⟩
            · exact hno h
          · exact hno h
    | loop b =>
      simp only [ev] at h
      split at h
      · rename_i m _
        have key : ∀ (m : Nat) (st : St) (c : Cx) (a : Act), T (unroll fail (fun again st => ev E A k n R fail path cur b ⟨again, K.exit, K.ret⟩ st) m st) → Rep base G0 own0 sz fr c st a → b.wp E.P (Exit.then (InLoop E.P b Q) Q) a c.w := by
          intro m
          induction m with
          | zero => intro st c a h; exact hno h
          | succ m ihm =>
            intro st c a h hr
            exact ih R T fail path cur b _ st c a sz fr _ hf h hr ⟨fun st c a h hr => inLoop_of (ihm st c a h hr), fun i st c a h hr => hK.exit i st c a h hr, fun st c a h hr => hK.ret st c a h hr⟩
        exact loop_of (key m st c a h hr)
      · rename_i τ _
        split at h
        · rename_i x mt hx hl
          have hlens := hr.lens
          have hlen : ∀ (c' : Cx) (st' : St) (a' : Act), Rep base G0 own0 sz fr c' st' a' → τ.slots.length = (a'.tmps.toList ++ fr.flatten).length := by
            intro c' st' a' hr'
            have h1 := Nat.eq_of_beq_eq_true hl
            have h2 := All2.len hr.flat
            have h3 := hr.size
            have h4 := hr'.size
            rw [h1, h2]
            simp only [List.length_append, Array.length_toList]
            omega
          rw [hlens] at h
          have key : ∀ (j : Nat) (x : τ.D) (c : Cx) (a : Act), T (iter fail (fun x => ev E A k n (Stp τ.D R) (.done fail) path cur b
              ⟨fun st => match τ.ext st.flat st.heap with | some (y, _) => .again y | none => .done fail, fun i st => .done (K.exit i st), fun st => .done (K.ret st)⟩ (stOf (sz :: fr.map List.length) τ x)) j x) →
              Rep base G0 own0 sz fr c (stOf (sz :: fr.map List.length) τ x) a → b.wp E.P (Exit.then (InLoop E.P b Q) Q) a c.w := by
            intro j
            induction j with
            | zero => intro x c a h; exact hno h
            | succ j ihj =>
              intro x c a h hr
              let T' : Stp τ.D R → Prop := fun s => match s with
                | .again y => T (iter fail (fun x => ev E A k n (Stp τ.D R) (.done fail) path cur b
                    ⟨fun st => match τ.ext st.flat st.heap with | some (y, _) => .again y | none => .done fail, fun i st => .done (K.exit i st), fun st => .done (K.ret st)⟩ (stOf (sz :: fr.map List.length) τ x)) j y)
                | .done r => T r
              refine ih (Stp τ.D R) T' (.done fail) path cur b
                ⟨fun st => match τ.ext st.flat st.heap with | some (y, _) => .again y | none => .done fail, fun i st => .done (K.exit i st), fun st => .done (K.ret st)⟩ (stOf (sz :: fr.map List.length) τ x) c a sz fr _ hf ?_ hr ⟨fun st c a h hr => ?_, fun i st c a h hr => hK.exit i st c a h hr, fun st c a h hr => hK.ret st c a h hr⟩
              · simp only [iter] at h
                simp only [T']
                split at h
                · rename_i y hy; simp only [hy]; exact h
                · rename_i r hy; simp only [hy]; exact h
              · simp only at h
                split at h
                · rename_i y mt hy
                  obtain ⟨c', hw, hr'⟩ := hr.again hy (hlen c st a hr)
                  have := inLoop_of (ihj y c' a h hr')
                  rw [hw] at this
                  exact this
                · exact hno h
          obtain ⟨c', hw, hr'⟩ := hr.again hx (hlen c st a hr)
          have := loop_of (key k x c' a h hr')
          rw [hw] at this
          exact this
        · exact hno h
      · exact hno h
    | _ => simp only [ev] at h; exact hno h
end

/-- What is told of a function is so. -/
theorem con_of_ev {E : Env} (hE : EnvOk E) (hodd : noOdd E.P) {f : FuncId} {C : Con} (h : ∀ x y, C.F x = some y → ∃ A n k, evalFn E A f C.In C.Out n k x = some y) : ConOk E.P f C := by
  intro x y hxy c vals hS hH hargs
  obtain ⟨A, n, k, h⟩ := h x y hxy
  unfold evalFn at h
  split at h
  · rename_i fn hfn
    split at h
    · rename_i body hb
      right
      refine ⟨run_callFunc hfn hb (hodd f fn hfn), calls_of_wp hfn hb ?_⟩
      have hM := hS.mem
      refine ev_ok hE hodd A k n (Option C.Out.D) (fun r => r = some y) none [f] 0 body _ ⟨frame fn (mkSlots C.In.slots x.1), [], mkHeap C.In.heap x.2⟩ c _ _ [] _ (by simp) h ⟨hM, hH, frame_ok hargs, trivial, rfl, rfl⟩ ?_
      have fin : ∀ (s : St) (c' : Cx) (a' : Act), finOut E fn C.Out s = some y →
          Rep c.w (G0of c) (ownOf c) (vals.toArray ++ Array.replicate (fn.ntmps - vals.toArray.size) undef).size [] c' s a' →
          a'.defers = [] ∧ ∃ v, (results fn a'.tmps).run E.P c'.w = .ok v c'.w ∧ ∃ v', Ending.returned v = .returned v' ∧ ∃ c2 : Cx, c2.w = c'.w ∧ c2.H = mkHeap C.Out.heap y.2 ∧ VOk c2 (tuple (mkSlots C.Out.slots y.1)) v' ∧ Mem c.w (G0of c) (ownOf c) c2 := by
        intro s c' a' h hr
        unfold finOut at h
        split at h
        · rename_i rs hrs
          split at h
          · rename_i z m hz hlen
            have h := Option.some.inj h
            subst h
            simp only [Bool.and_eq_true] at hlen
            obtain ⟨vs, h1, h2⟩ := resGo_ok hE hr _ _ hrs
            rw [← hr.heap] at hz
            obtain ⟨c2, hw, hH2, hM2, hargs2⟩ := part_mem hr.mem hz
            obtain ⟨us', e1, e2, h3⟩ := hargs2 vs (All2.mono (fun _ _ h => v_cells h) _ _ h2)
            have hl := Nat.eq_of_beq_eq_true hlen.1
            rw [List.drop_of_length_le (by have := All2.len h2; omega), List.append_nil] at e1
            subst e1
            exact ⟨hr.defers, _, run_results h1, _, rfl, c2, hw, hH2, resVal_ok (all2_cells _ _ (slots_plain _ _ hlen.2) h3), hM2⟩
          · cases h
        · cases h
      exact ⟨fun s c' a' h hr => fin s c' a' h hr, fun i s c' a' h _ => (by cases h), fun s c' a' h hr => fin s c' a' h hr⟩
    · cases h
  · cases h

section
variable {base : World} {G0 own0 : Nat → Prop}
theorem one_not_tuple {v : Value} (h : v.oneCell' = true) : ∀ vs, v ≠ .tuple vs := by
  intro vs e
  subst e
  cases h

theorem fresh_one {c : Cx} (hM : Mem base G0 own0 c) {n : Nat} (hown : ∀ b r, live (blkAt c.H b) = true → blkOf (c.ρ b) = some r → n ≤ r) {s : Sh} {pv : PV} (hf : freshPV c.H s pv = true) {v : Value} (hv : VOk c pv v) : FreshS n v ∧ ∀ vs, v ≠ .tuple vs := by
  cases s with
  | pl t =>
    simp only [freshPV] at hf
    split at hf
    · rename_i x hx
      obtain ⟨us, hc, e, hE⟩ := toVal_v hM hv hx
      simp only [Bool.or_eq_true, Bool.not_eq_true'] at hf
      rcases hf with hf | hf
      · have h1 := FreshS_nosl (n := n) t hf hE
        cases t with
        | int k => simp only [Enc] at hE; subst hE; exact ⟨by rw [e]; exact h1 _ (List.mem_singleton_self _), by intro vs h; rw [e] at h; cases h⟩
        | bool => simp only [Enc] at hE; subst hE; exact ⟨by rw [e]; exact h1 _ (List.mem_singleton_self _), by intro vs h; rw [e] at h; cases h⟩
        | str => obtain ⟨hE, _⟩ := hE; subst hE; exact ⟨by rw [e]; exact h1 _ (List.mem_singleton_self _), by intro vs h; rw [e] at h; cases h⟩
        | opq => exact hE.elim
        | sl t => cases hf
        | nil => rw [e]; exact ⟨fun ad l cap h => (by cases h), fun vs h => (by cases h)⟩
        | cons a b => rw [e]; exact ⟨fun ad l cap h => (by cases h), fun vs h => (by cases h)⟩
        | arr k t => rw [e]; exact ⟨fun ad l cap h => (by cases h), fun vs h => (by cases h)⟩
      · cases pv with
        | nils =>
          obtain ⟨cs, h1, h2⟩ := hv
          have : cs = [.slice none 0 0] := h1
          subst this
          rw [h2]
          exact ⟨fun ad l cap h => (by cases h), fun vs h => (by cases h)⟩
        | whole b =>
          obtain ⟨cs, ⟨u, e1, h1, hw⟩, h2⟩ := hv
          subst e1
          have h2 : v = u := h2
          subst h2
          unfold WholeOk at hw
          have hl : live (blkAt c.H b) = true := hf
          cases hb : blkAt c.H b with
          | row t l =>
            simp only [hb] at hw
            refine ⟨fun ad l cap h => .inr ?_, one_not_tuple h1⟩
            refine hown b ad.block hl ?_
            rw [← hw, h]; rfl
          | dead => simp [hb, live] at hl
          | unborn => simp [hb, live] at hl
          | box t l => simp [hb] at hw
        | row b lo k =>
          obtain ⟨cs, ⟨u, e1, h1, hw⟩, h2⟩ := hv
          subst e1
          have h2 : v = u := h2
          subst h2
          unfold RowOk at hw
          have hl : live (blkAt c.H b) = true := hf
          cases hb : blkAt c.H b with
          | row t l =>
            simp only [hb] at hw
            obtain ⟨_, ⟨h0, a, cap, h3⟩ | ⟨r, cap, cap', h3, h4, _⟩⟩ := hw
            · refine ⟨fun ad l cap h => .inl ?_, one_not_tuple h1⟩
              rw [h3] at h; cases h; rfl
            · refine ⟨fun ad l cap h => .inr ?_, one_not_tuple h1⟩
              rw [h4] at h
              cases h
              exact hown b r hl (by rw [h3]; rfl)
          | dead => simp [hb, live] at hl
          | unborn => simp [hb, live] at hl
          | box t l => simp [hb] at hw
        | _ => simp at hf
    · cases hf
  | _ => simp [freshPV] at hf

theorem fresh_all {c : Cx} (hM : Mem base G0 own0 c) {n : Nat} (hown : ∀ b r, live (blkAt c.H b) = true → blkOf (c.ρ b) = some r → n ≤ r) : ∀ (l : List Sh) (rs : List PV) (vs : List Value), freshAll c.H l rs = true → All2 (VOk c) rs vs → ∀ u ∈ vs, FreshS n u ∧ ∀ ws, u ≠ .tuple ws
  | [], [], [], _, _ => fun u hu => by simp at hu
  | [], [], _ :: _, _, h => h.elim
  | [], _ :: _, _, h, _ => by simp [freshAll] at h
  | _ :: _, [], _, h, _ => by simp [freshAll] at h
  | _ :: _, _ :: _, [], _, h => h.elim
  | s :: l, p :: rs, v :: vs, h, ha => by
    simp only [freshAll, Bool.and_eq_true] at h
    intro u hu
    simp only [List.mem_cons] at hu
    rcases hu with rfl | hu
    · exact fresh_one hM hown h.1 ha.1
    · exact fresh_all hM hown l rs vs h.2 ha.2 u hu
end

theorem resVal_fresh {n : Nat} {vs : List Value} (h : ∀ u ∈ vs, FreshS n u ∧ ∀ ws, u ≠ .tuple ws) : FreshV n (resVal vs) := by
  match vs, h with
  | [], _ => exact ⟨fun ad l cap h => (by simp [resVal] at h), fun ws h u hu => by simp [resVal] at h; subst h; simp at hu⟩
  | [v], h => exact ⟨(h v (by simp)).1, fun ws e => absurd e ((h v (by simp)).2 ws)⟩
  | v :: w :: r, h => exact ⟨fun ad l cap h => (by simp [resVal] at h), fun ws e u hu => by simp [resVal] at e; subst e; exact (h u (by simpa using hu)).1⟩

/-- What is told of a function whose slices are new is so. -/
theorem fresh_of_ev {E : Env} (hE : EnvOk E) (hodd : noOdd E.P) {f : FuncId} {C : Con} (h : ∀ x y, C.F x = some y → ∃ A n k, evalFresh E A f C.In C.Out n k x = some y) : ConFresh E.P f C := by
  intro x y hxy c vals hS hH hargs
  obtain ⟨A, n, k, h⟩ := h x y hxy
  unfold evalFresh at h
  split at h
  · rename_i fn hfn
    split at h
    · rename_i body hb hin
      right
      refine ⟨run_callFunc hfn hb (hodd f fn hfn), calls_of_wp hfn hb ?_⟩
      have hM := hS.mem
      have hH0 : c.H = [] := by
        have h1 : (mkHeap C.In.heap x.2).length = 0 := (mkHeap_len C.In.heap x.2).trans (congrArg List.length hin)
        rw [hH]
        exact List.eq_nil_of_length_eq_zero h1
      refine ev_ok hE hodd A k n (Option C.Out.D) (fun r => r = some y) none [f] 0 body _ ⟨frame fn (mkSlots C.In.slots x.1), [], []⟩ c _ _ [] _ (by simp) h ⟨hM, hH0, frame_ok hargs, trivial, rfl, rfl⟩ ?_
      have hnoown : ∀ r, ¬ ownOf c r := by
        rintro r ⟨b, hb, _⟩
        simp [hH0, blkAt, live] at hb
      have fin : ∀ (s : St) (c' : Cx) (a' : Act), finFresh E fn C.Out s = some y →
          Rep c.w (G0of c) (ownOf c) (vals.toArray ++ Array.replicate (fn.ntmps - vals.toArray.size) undef).size [] c' s a' →
          a'.defers = [] ∧ ∃ v, (results fn a'.tmps).run E.P c'.w = .ok v c'.w ∧ ∃ v', Ending.returned v = .returned v' ∧ (∃ c2 : Cx, c2.w = c'.w ∧ c2.H = mkHeap C.Out.heap y.2 ∧ VOk c2 (tuple (mkSlots C.Out.slots y.1)) v' ∧ Mem c.w (G0of c) (ownOf c) c2) ∧ FreshV c.w.heap.size v' := by
        intro s c' a' h hr
        unfold finFresh at h
        split at h
        · rename_i rs hrs0
          split at h
          · rename_i hfa
            unfold finOut at h
            split at h
            · rename_i rs' hrs
              rw [hrs0] at hrs
              have hrr := Option.some.inj hrs
              subst hrr
              split at h
              · rename_i z m hz hlen
                have h := Option.some.inj h
                subst h
                simp only [Bool.and_eq_true] at hlen
                obtain ⟨vs, h1, h2⟩ := resGo_ok hE hr _ _ hrs0
                rw [← hr.heap] at hz hfa
                obtain ⟨c2, hw, hH2, hM2, hargs2⟩ := part_mem hr.mem hz
                have hvs := All2.mono (fun _ _ h => v_cells h) _ _ h2
                obtain ⟨us', e1, e2, h3⟩ := hargs2 vs hvs
                have hl := Nat.eq_of_beq_eq_true hlen.1
                rw [List.drop_of_length_le (by have := All2.len h2; omega), List.append_nil] at e1
                subst e1
                refine ⟨hr.defers, _, run_results h1, _, rfl, ⟨c2, hw, hH2, resVal_ok (all2_cells _ _ (slots_plain _ _ hlen.2) h3), hM2⟩, resVal_fresh (fresh_all hr.mem (fun b r hl he => ?_) _ _ _ hfa hvs)⟩
                rcases hr.mem.own b r hl he with h | h
                · exact absurd h (hnoown r)
                · exact h
              · cases h
            · cases h
          · cases h
        · cases h
      exact ⟨fun s c' a' h hr => fin s c' a' h hr, fun i s c' a' h _ => (by cases h), fun s c' a' h hr => fin s c' a' h hr⟩
    · cases h
  · cases h

theorem ConFresh.con {P : Program} {f : FuncId} {C : Con} (h : ConFresh P f C) : ConOk P f C := by
  intro x y hxy c vals hS hH hargs
  rcases h x y hxy c vals hS hH hargs with ⟨v, w', h1, h2⟩ | ⟨h1, h2⟩
  · exact .inl ⟨v, w', h1, h2.1⟩
  · exact .inr ⟨h1, h2.mono fun e w' ⟨v, he, hr⟩ => ⟨v, he, hr.1⟩⟩
end Sym
