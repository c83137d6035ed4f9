/- The laws of single operations, ninth part: arrays sliced, rows made, lengths, the smaller and the greater. -/
import Derived.Laws.CopyRow
import Derived.Laws.BytesString
import Derived.Laws.IdiomStrings
import Derived.Test.YtpeicefbediffaaGreatPart1
namespace Sym
open Go
section
variable {P : Program} {base : World} {G0 own0 : Nat → Prop} {o : Oper} {a : Act} {c : Cx}
theorem c6O (hM : Mem base G0 own0 c) {id : TypeId} {x : Operand} {lo hi : Option Operand} (ho : o.op = .slice id x lo hi none) {t : Ty} (ht : TOk P (.sl t) id) {bs : List PV} (ha : All2 (VOk c) bs (lo.toList.map a.eval ++ hi.toList.map a.eval))
  {n : Nat} {b1 b2 : Bool × Nat} (hb : a8B (a7B c.H .nils) lo.isSome hi.isSome bs = some (n, b1, b2)) (h1 : b1.1 = true) (h2 : b2.1 = true) (hx : VOk c .nils (a.eval x)) : a4B P base G0 own0 o a c .nils [] := by
 obtain ⟨cs, hc, hv⟩ := hx
 simp only [a1A] at hc
 subst hc
 obtain ⟨hr1, hle, hle', hn⟩ := a5K (P := P) lo hi bs ha hb h1 h2 true n (Nat.le_refl _) c.w
 simp only [a7B, Option.some.injEq] at hn
 subst hn
 have e2 : b2.2 = 0 := by omega
 have e1 : b1.2 = 0 := by omega
 refine a1F hM (v := .slice none 0 0) ?_ ⟨_, rfl, rfl⟩
 have hv : a.eval x = .slice none 0 0 := hv
 rw [b1Z ho, hv]
 have := b0F ht none 0 0 b1.2 b2.2 _ _ c.w hr1
 simp only [Sem.run_bind, this, Result.andThen_ok, Sem.run_pure, e1, e2]
 rfl
theorem c8R (hM : Mem base G0 own0 c) {id : TypeId} {x : Operand} {lo hi : Option Operand} (ho : o.op = .slice id x lo hi none) {m : Nat} {t : Ty} (ht : TOk P (.arr m t) id) {bs : List PV} (ha : All2 (VOk c) bs (lo.toList.map a.eval ++ hi.toList.map a.eval))
  {b : Nat} {p : List Step} {s : Ty} {v0 : PV} (hbl : a0J c.H b = .box s v0) (hp : c3C c.H b p (.arr m t) = true) (hm : m ≤ 1048576) {n : Nat} {b1 b2 : Bool × Nat} (hb : a8B (some m) lo.isSome hi.isSome bs = some (n, b1, b2)) (h1 : b1.1 = true) (h2 : b2.1 = true)
  (hx : VOk c (.ptr b p) (a.eval x)) : a4B P base G0 own0 o a c (.aview b p b1.2 (b2.2 - b1.2)) [] := by
 have hptr := c6M hx
 unfold PtrOk at hptr
 unfold c3C at hp
 simp only [hbl] at hptr hp
 obtain ⟨r, off, u, e1, e2, hv⟩ := hptr
 have := b3Q hp e2
 subst this
 obtain ⟨_, _, _, hn⟩ := a5K (P := P) lo hi bs ha hb h1 h2 false n (Nat.le_refl _) c.w
 simp only [Option.some.injEq] at hn
 subst hn
 obtain ⟨hr1, hle, hle', _⟩ := a5K (P := P) lo hi bs ha hb h1 h2 false m (Nat.le_refl _) c.w
 obtain ⟨_, e, hu, he⟩ := ht
 refine a1F hM (v := .slice (some (if m = b1.2 then ⟨r, off, none⟩ else (⟨r, off, none⟩ : Addr).add (b1.2 * t.sz))) (b2.2 - b1.2) (m - b1.2)) ?_ ⟨[_], ⟨_, rfl, rfl, ?_⟩, rfl⟩
 ·
  rw [b1Z ho, hv]
  unfold Instr.sliceAt
  simp only [Sem.run_bind, run_underlying hu, Result.andThen_ok, Instr.sureAddr, Sem.run_pure, hr1, he.run_size]
 ·
  unfold b5D
  simp only [hbl]
  refine ⟨r, off, m, t, e1, e2, by omega, by simp only [LIM]; omega, ?_⟩
  by_cases h0 : b2.2 - b1.2 = 0
  ·
   left; exact ⟨h0, _, _, by rw [h0]⟩
  ·
   right
   exact ⟨m - b1.2, by rw [if_neg (by omega), add_lit], by omega, by omega⟩
theorem b0Z {k : Call} (ho : o.op = .call k) {b : Builtin} (hk : k.callee = .builtin b) : ∃ cs, execOp a.eval o = builtin b k.argTypes o.type cs (k.args.map a.eval) := by
 refine ⟨k.args.map fun | .const _ => true | _ => false, ?_⟩
 simp only [execOp, ho, resolve, hk]
 rfl
theorem e0Q (hM : Mem base G0 own0 c) {x : Operand} {k : Call} (ho : o.op = .call k) (hk : k.callee = .builtin .len) (hargs : k.args = #[x]) {id : TypeId} (hat : k.argTypes[0]? = some id) {px : PV} {t : Ty} (ht : TOk P t id) {n : Nat}
  (hsl : (∃ u, t = .sl u) ∨ t = .str) (hstr : t = .str ↔ ∃ l, px = .val .str l) (hl : a7B c.H px = some n) (hx : VOk c px (a.eval x)) : a4B P base G0 own0 o a c (.val (.int .i64) (I.ofNat .i64 n)) [] := by
 obtain ⟨hlim, hv⟩ := e4J hM hl hx
 have hof := d3A hlim
 refine a1F hM (v := .int .i64 n) ?_ (by rw [← hof]; exact ok_int _)
 obtain ⟨cs0, hres⟩ := b0Z (a := a) ho hk
 rcases hv with ⟨ad, cap, hv, _, hns⟩ | ⟨l, hpx, hv, hll⟩
 ·
  have hnot : t ≠ .str := fun h => by obtain ⟨l, e⟩ := hstr.1 h; exact hns _ e
  obtain ⟨u, rfl⟩ := hsl.resolve_right hnot
  obtain ⟨_, e, hu, _⟩ := ht
  rw [hres, hargs]
  simp only [builtin, Builtin.len_, hat, Sem.run_bind]
  simp [run_underlying hu, hv, goInt]
 ·
  have := hstr.2 ⟨l, hpx⟩
  subst this
  obtain ⟨_, hu⟩ := ht
  rw [hres, hargs]
  have hll : l.length = n := hll
  have hsz : (bytesOf l).size = n := by show ((l.map _).toArray).size = n; rw [List.size_toArray]; exact (List.length_map _).trans hll
  simp only [builtin, Builtin.len_, hat, Sem.run_bind]
  simp [run_underlying hu, hv, goInt, hsz]
theorem d4Z (hM : Mem base G0 own0 c) {x : Operand} {k : Call} (ho : o.op = .call k) (hk : k.callee = .builtin .len) (hargs : k.args = #[x]) {id : TypeId} (hat : k.argTypes[0]? = some id) {m : Nat} {t : Ty} (ht : TOk P (.arr m t) id) (hm : m ≤ 1048576) :
  a4B P base G0 own0 o a c (.val (.int .i64) (I.ofNat .i64 m)) [] := by
 have hof := d3A (n := m) (by simp only [LIM]; omega)
 refine a1F hM (v := .int .i64 m) ?_ (by rw [← hof]; exact ok_int _)
 obtain ⟨_, e, hu, _⟩ := ht
 obtain ⟨cs0, hres⟩ := b0Z (a := a) ho hk
 rw [hres, hargs]
 simp only [builtin, Builtin.len_, hat, Sem.run_bind]
 simp [run_underlying hu, goInt]
theorem f6S (hM : Mem base G0 own0 c) {x y : Operand} {k : Call} (ho : o.op = .call k) (hk : k.callee = .builtin .min) (hargs : k.args = #[x, y]) {kd : IntKind} {i j : I kd} (hx : VOk c (.val (.int kd) i) (a.eval x)) (hy : VOk c (.val (.int kd) j) (a.eval y)) :
  a4B P base G0 own0 o a c (.val (.int kd) (I.mn i j)) [] := by
 refine a1F hM (v := .int kd (I.mn i j).val) ?_ (ok_int _)
 obtain ⟨cs0, hres⟩ := b0Z (a := a) ho hk
 rw [hres, hargs]
 simp only [builtin, Builtin.min_, Sem.run_bind, List.map_toArray, List.map_cons, List.map_nil, b1E hx, b1E hy]
 unfold I.mn
 split <;> simp [Builtin.min2, *]
theorem f6C (hM : Mem base G0 own0 c) {x y : Operand} {k : Call} (ho : o.op = .call k) (hk : k.callee = .builtin .max) (hargs : k.args = #[x, y]) {kd : IntKind} {i j : I kd} (hx : VOk c (.val (.int kd) i) (a.eval x)) (hy : VOk c (.val (.int kd) j) (a.eval y)) :
  a4B P base G0 own0 o a c (.val (.int kd) (I.mx i j)) [] := by
 refine a1F hM (v := .int kd (I.mx i j).val) ?_ (ok_int _)
 obtain ⟨cs0, hres⟩ := b0Z (a := a) ho hk
 rw [hres, hargs]
 simp only [builtin, Builtin.max_, Sem.run_bind, List.map_toArray, List.map_cons, List.map_nil, b1E hx, b1E hy]
 unfold I.mx
 split <;> simp [Builtin.max2, *]
theorem d4M (hM : Mem base G0 own0 c) {s d : TypeId} {x : Operand} (ho : o.op = .convert s d x) {k0 k l : IntKind} (hs : TOk P (.int k0) s) (hd : TOk P (.int l) d) {i : I k} (hx : VOk c (.val (.int k) i) (a.eval x)) :
  a4B P base G0 own0 o a c (.val (.int l) (i.conv l)) [] := by
 refine a1F hM (v := .int l (i.conv l).val) ?_ (ok_int _)
 obtain ⟨_, hs⟩ := hs
 obtain ⟨_, hd⟩ := hd
 simp only [execOp, ho, Sem.run_bind, b1E hx]
 unfold convert
 simp only [Sem.run_bind, run_underlying hs, run_underlying hd, Result.andThen_ok]
 rfl
theorem c3F {X : Type} : ∀ (n : Nat) (x : X), (b4L n x).length = n
 | 0, _ => rfl
 | n + 1, x => by simp [b4L, c3F n x]
theorem flat_get (z : List Value) (hz : 0 < z.length) : ∀ (n i : Nat), i < n * z.length → (b4L n z).flatten[i]? = z[i % z.length]?
 | 0, i, h => by simp at h
 | n + 1, i, h => by
  simp only [b4L, List.flatten_cons]
  by_cases hi : i < z.length
  ·
   rw [List.getElem?_append_left hi, Nat.mod_eq_of_lt hi]
  ·
   rw [List.getElem?_append_right (by omega), flat_get z hz n (i - z.length) (by rw [Nat.succ_mul] at h; omega)]
   exact congrArg (z[·]?) (Nat.mod_eq_sub_mod (by omega)).symm
theorem b8B (z : List Value) : ∀ n, ((b4L n z).flatten).length = n * z.length
 | 0 => by simp [b4L]
 | n + 1 => by simp [b4L, b8B z n, Nat.succ_mul]; omega
theorem c8K (z : List Value) (n : Nat) : (Array.range (n * z.length)).map (z.toArray[· % z.toArray.size]!) = ((b4L n z).flatten).toArray := by
 apply Array.ext'
 apply List.ext_getElem?
 intro i
 by_cases hi : i < n * z.length
 ·
  have hz : 0 < z.length := by
   rcases Nat.eq_zero_or_pos z.length with h | h
   ·
    rw [h] at hi; simp at hi
   ·
    exact h
  rw [flat_get z hz n i hi]
  have hm : i % z.length < z.length := Nat.mod_lt _ hz
  simp [hi, hm]
 ·
  rw [List.getElem?_eq_none (by simp; omega), List.getElem?_eq_none (by rw [b8B]; omega)]
theorem c5T {w : World} {G : Nat → Prop} {t : Ty} (ht : t.noOpq = true) : ∀ n, b3K (Enc w G t) (b4L n t.zero) ((b4L n (a4V t)).flatten)
 | 0 => rfl
 | n + 1 => ⟨_, _, rfl, c3G t ht, c5T ht n⟩
theorem c9X (hM : Mem base G0 own0 c) {id : TypeId} {x y : Operand} (ho : o.op = .makeSlice id x y) {t : Ty} (ht : TI P id (.sl t)) (hq : t.noOpq = true) {k l : IntKind} {n : I k} {m : I l} (h1 : inB' n m.nat = true) (h2 : inB' m 1073741824 = true)
  (hx : VOk c (.val (.int k) n) (a.eval x)) (hy : VOk c (.val (.int l) m) (a.eval y)) {nb : Nat} (hn : a0J c.H nb = .unborn) : a4B P base G0 own0 o a c (.whole nb) [(nb, .row t (b4L n.nat t.zero))] := by
 obtain ⟨e, hu, he, i, hi, hby, hz⟩ := ht.elem t rfl
 have hz := hz.resolve_right (by rintro rfl; cases hq)
 obtain ⟨a1, a2, a3, a4⟩ := inB'_iff h1
 obtain ⟨b1, b2, b3, b4⟩ := inB'_iff h2
 have hw : ∀ q : Int, 0 ≤ q → q ≤ 1073741824 → IntKind.i64.wrap q = q := fun q h h' => a5Z ⟨by simp [IntKind.min, IntKind.bits, IntKind.signed]; omega, by simp [IntKind.max, IntKind.bits, IntKind.signed]; omega⟩
 have hw1 := hw n.val a1 (by omega)
 have hw2 := hw m.val b1 b2
 have hbytes : (i.bytes : Int) * m.val ≤ 281474976710656 := by
  have := Int.mul_le_mul (show (i.bytes : Int) ≤ 131072 by omega) (show m.val ≤ 1073741824 by omega) b1 (by omega)
  omega
 have hbytes' : (i.bytes : Int) * n.val ≤ 281474976710656 := by
  have := Int.mul_le_mul (show (i.bytes : Int) ≤ 131072 by omega) (show n.val ≤ 1073741824 by omega) a1 (by omega)
  omega
 have hzc : (mkZ t).cells = (a4V t).toArray := a6X (a3T t) (a9R t)
 have hle : n.nat ≤ m.nat := a3
 obtain ⟨c', g1, g2, g3, g4, g5⟩ := mem_row hM hn (t := t) (l := b4L n.nat t.zero) (e := e) none (c3W c.w _ _)
  (by rw [c3F]; exact c7V c.w ((b4L m.nat (a4V t)).flatten) e t.sz n.nat m.nat (by rw [b8B, a3T]) hle (by simp only [maxLen]; omega))
  (by
   have : (b4L m.nat (a4V t)).flatten.take (n.nat * t.sz) = (b4L n.nat (a4V t)).flatten := by
    apply List.ext_getElem?
    intro j
    rw [List.getElem?_take]
    split
    ·
     rename_i hj
     have hzl := a3T t
     have hpos : 0 < (a4V t).length := by
      rcases Nat.eq_zero_or_pos (a4V t).length with h | h
      ·
       rw [hzl] at h; rw [h] at hj; simp at hj
      ·
       exact h
     rw [← hzl] at hj
     have : n.nat * (a4V t).length ≤ m.nat * (a4V t).length := Nat.mul_le_mul_right _ hle
     rw [flat_get _ hpos _ _ (by omega), flat_get _ hpos _ _ hj]
    ·
     rw [List.getElem?_eq_none]; rw [b8B, a3T]; omega
   rw [this]
   exact c5T hq n.nat)
  (by rw [c3F]; simp only [LIM]; omega) none (fun i h => by cases h) (fun r h => by cases h) (fun r h => by simp only [a3V, Option.some.injEq] at h; left; omega)
 refine a5L (c' := c') ?_ g3 g4 (by simpa [c1V] using g2) g5
 rw [g1]
 have hzr : (zeroValue e).run P c.w = .ok (mkZ t) c.w := by simp [zeroValue, typeInfo, hi, hz]
 have hmk : (Instr.makeSlice id (.int k n.val) (.int l m.val)).run P c.w = .ok (.slice (some ⟨c.w.heap.size, 0, none⟩) n.nat m.nat) (c.w.alloc (.cells ((b4L m.nat (a4V t)).flatten).toArray e)) := by
  unfold Instr.makeSlice
  simp only [Sem.run_bind, run_underlying hu, Result.andThen_ok, asInt, asIntOf, Sem.run_pure, typeInfo, run_program, hi, hw1, hw2]
  have c1 : (decide (m.val < 0) || decide ((i.bytes : Int) * m.val > 2 ^ 48)) = false := by
   rw [decide_eq_false (show ¬ m.val < 0 by omega), decide_eq_false (show ¬ ((i.bytes : Int) * m.val > 2 ^ 48) by omega)]; rfl
  have c2 : ¬ ((decide (m.val < 0) || decide ((i.bytes : Int) * m.val > 2 ^ 48)) || decide (n.val < 0) || decide (n.val > m.val)) = true := by
   rw [c1, decide_eq_false (show ¬ n.val < 0 by omega), decide_eq_false (show ¬ n.val > m.val by omega)]; decide
  rw [if_neg c2]
  simp only [Result.andThen_ok, run_askRoom, he.run_size, Sem.run_bind]
  have hmm : m.val.toNat = m.nat := rfl
  by_cases h0 : m.nat * t.sz = 0
  ·
   have h1 : (b4L m.nat (a4V t)).flatten = [] := List.eq_nil_of_length_eq_zero (by rw [b8B, a3T]; exact h0)
   have h2 : Array.range 0 = #[] := rfl
   rw [hmm, if_pos h0, h1, h0, h2]
   simp [newRow, I.nat]
  ·
   rw [hmm, if_neg h0]
   simp only [Sem.run_bind, hzr, Result.andThen_ok, Sem.run_pure, hzc]
   rw [← a3T t, c8K]
   simp [newRow, I.nat]
 simp only [execOp, ho, Sem.run_bind, b1E hx, b1E hy, hmk, Result.andThen_ok, Sem.run_pure]
end
end Sym

/- The laws of single operations, tenth part: slice literals and append. -/
namespace Sym
open Go
section
variable {P : Program} {base : World} {G0 own0 : Nat → Prop} {o : Oper} {a : Act} {c : Cx}
theorem b8H {w w' : World} {G G' : Nat → Prop} : ∀ (t : Ty), t.hasSl = false → ∀ (x : t.D) (cs : List Value), Enc w G t x cs → Enc w' G' t x cs := by
 intro t
 induction t with
 | cons a b iha ihb =>
  intro h x cs he
  simp only [Ty.hasSl, Bool.or_eq_false_iff] at h
  obtain ⟨c1, c2, e, h1, h2⟩ := he
  exact ⟨c1, c2, e, iha h.1 _ _ h1, ihb h.2 _ _ h2⟩
 | arr n t ih => intro h x cs he; exact b9Q (fun x cs he => ih h x cs he) n x cs he
 | sl t _ => intro h; cases h
 | opq => intro _ x cs he; exact he.elim
 | _ => intro _ x cs he; exact he
theorem f1J (hM : Mem base G0 own0 c) (t : Ty) (lent : List Nat) (hl : ∀ b ∈ lent, live (a0J c.H b) = true) :
  ∃ c1, c1.w = c.w ∧ c1.H = a2B c.H (kill (c2Y t lent)) ∧ c1.ρ = c.ρ ∧ Ext c c1 ∧ Mem base G0 own0 c1 ∧ (∀ b, b ∉ lent → a0J c1.H b = a0J c.H b) ∧
   ∀ (x : t.D) (cs : List Value), Enc c.w (a9A c lent) t x cs → Enc c1.w c1.G t x cs := by
 cases ht : t.hasSl with
 | true =>
  obtain ⟨c1, h1, h2, h3, h4, h5, h6, h7⟩ := f8P hM lent hl
  exact ⟨c1, h1, by rw [show c2Y t lent = lent by unfold c2Y; rw [ht]]; exact h2, h3, h4, h5, h6, fun x cs he => h7 t x cs he⟩
 | false =>
  obtain ⟨c1, h1, h2, h3, h4, h5, h6, _⟩ := f8P hM [] (fun b hb => by cases hb)
  exact ⟨c1, h1, by rw [show c2Y t lent = [] by unfold c2Y; rw [ht]]; exact h2, h3, h4, h5, fun b _ => h6 b (by simp), fun x cs he => b8H t ht x cs he⟩
theorem b7B (hM : Mem base G0 own0 c) {t : Ty} {u : PV} {x : t.D} {lent : List Nat} {v : Value} (hv : VOk c u v) (h : a3R c.H t u = some (x, lent)) :
  ∃ us, a1A c u us ∧ v = mkV t.isAgg us ∧ Enc c.w (a9A c lent) t x us := by
 have key : ∀ us, a1A c u us → a3L u = t.isAgg := by
  intro us hc
  have he := c3L hM.blk t u us x lent hc h
  cases u with
  | val s y =>
   have : (match Ty.cast s t y with | some y => some (y, ([] : List Nat)) | none => none) = some (x, lent) := by cases t <;> exact h
   split at this
   ·
    rename_i y' hy
    obtain ⟨e, _⟩ := a6P hy
    subst e; rfl
   ·
    cases this
  | pair p q => cases t <;> first | rfl | (simp [a3R] at h)
  | _ => cases t <;> first | rfl | (simp [a3R] at h)
 cases u with
 | tup p => cases t <;> simp [a3R] at h
 | undef => cases t <;> simp [a3R] at h
 | _ =>
  obtain ⟨us, h1, h2⟩ := hv
  exact ⟨us, h1, by rw [h2, key us h1], c3L hM.blk t _ us x lent h1 h⟩
theorem d9A (hM : Mem base G0 own0 c) {t : Ty} (L : List Nat) : ∀ (ps : List (Nat × Operand)) (args : List PV) (l l' : List t.D) (xs : List Value) (lent : List Nat),
  All2 (VOk c) args (ps.map fun x => a.eval x.2) → b3K (Enc c.w (a9A c L) t) l xs → b3B c.H t l (b1A (ps.map (·.1)) args) = some (l', lent) → (∀ b ∈ lent, b ∈ L) →
  ∃ xs', Instr.fill (fun i => some (i * t.sz, t.sz)) xs.toArray (ps.map fun x => (x.1, a.eval x.2)) = some xs'.toArray ∧ b3K (Enc c.w (a9A c L) t) l' xs' ∧ l'.length = l.length := by
 intro ps
 induction ps with
 | nil =>
  intro args l l' xs lent ha he hv hL
  simp only [List.map_nil, b1A, b3B, Option.some.injEq, Prod.mk.injEq] at hv
  obtain ⟨rfl, rfl⟩ := hv
  exact ⟨xs, rfl, he, rfl⟩
 | cons p ps ih =>
  intro args l l' xs lent ha he hv hL
  cases args with
  | nil => exact ha.elim
  | cons u args =>
   obtain ⟨hu, ha⟩ := ha
   simp only [List.map_cons, b1A, b3B] at hv
   split at hv
   ·
    rename_i hb
    have hi : p.1 < l.length := by have := Nat.le_of_ble_eq_true hb; omega
    split at hv
    ·
     rename_i x b hx
     split at hv
     ·
      rename_i l2 b2 hr
      have hv := Option.some.inj hv
      obtain ⟨rfl, rfl⟩ := Prod.mk.inj hv
      obtain ⟨us, hcu, hvu, heu⟩ := b7B hM hu hx
      have heu := b8Q (b3W (fun y hy => hL y (by simp [hy]))) heu
      have hlu := a2L _ _ _ heu
      have hset := d0M (fun x cs => a2L t x cs) x us heu l xs p.1 hi he
      obtain ⟨xs', g1, g2, g3⟩ := ih args (setAt l p.1 x) l2 _ b2 ha hset hr (fun y hy => hL y (by simp [hy]))
      refine ⟨xs', ?_, g2, by rw [g3, c0N]⟩
      have hxl := b7W (fun x cs => a2L t x cs) l xs he
      have : (p.1 + 1) * t.sz ≤ l.length * t.sz := Nat.mul_le_mul_right _ hi
      rw [Nat.succ_mul] at this
      have hvu' : a.eval p.2 = _ := hvu
      rw [List.map_cons, c5G rfl (by rw [hvu']; exact a6X hlu (c4Z _ _ _ heu)) hlu (by omega)]
      exact g1
     ·
      cases hv
    ·
     cases hv
   ·
    cases hv
theorem c3P {id : TypeId} {n : Nat} {ps : Array (Nat × Operand)} (ho : o.op = .buildSlice id n ps) : execOp a.eval o = (do pure (.value (← Instr.buildSlice id n (ps.map fun x => (x.1, a.eval x.2))))) := by
 simp only [execOp, ho]
theorem c2S (H : List Blk) (t : Ty) : ∀ (ps : List (Nat × PV)) (l l' : List t.D) (lent : List Nat), b3B H t l ps = some (l', lent) → ∀ b ∈ lent, live (a0J H b) = true
 | [], l, l', lent, h => by simp only [b3B, Option.some.injEq, Prod.mk.injEq] at h; obtain ⟨_, rfl⟩ := h; intro b hb; simp at hb
 | (i, u) :: ps, l, l', lent, h => by
  simp only [b3B] at h
  split at h
  ·
   split at h
   ·
    rename_i x b hx
    split at h
    ·
     rename_i l2 b2 hr
     have h := Option.some.inj h
     obtain ⟨_, rfl⟩ := Prod.mk.inj h
     intro y hy
     simp only [List.mem_append] at hy
     exact hy.elim (a9T H t u x b hx y) (c2S H t ps _ l2 b2 hr y)
    ·
     cases h
   ·
    cases h
  ·
   cases h
theorem d8L (hM : Mem base G0 own0 c) {t : Ty} {n : Nat} (L : List Nat) : ∀ (ps : List (Nat × Operand)) (args : List PV) (l l' : Arr t.D n) (xs : List Value) (lent : List Nat),
  All2 (VOk c) args (ps.map fun x => a.eval x.2) → b0H (Enc c.w (a9A c L) t) n l xs → b3G c.H t n l (b1A (ps.map (·.1)) args) = some (l', lent) → (∀ b ∈ lent, b ∈ L) →
  ∃ xs', Instr.fill (fun i => some (i * t.sz, t.sz)) xs.toArray (ps.map fun x => (x.1, a.eval x.2)) = some xs'.toArray ∧ b0H (Enc c.w (a9A c L) t) n l' xs' := by
 intro ps
 induction ps with
 | nil =>
  intro args l l' xs lent ha he hv hL
  simp only [List.map_nil, b1A, b3G, Option.some.injEq, Prod.mk.injEq] at hv
  obtain ⟨rfl, rfl⟩ := hv
  exact ⟨xs, rfl, he⟩
 | cons p ps ih =>
  intro args l l' xs lent ha he hv hL
  cases args with
  | nil => exact ha.elim
  | cons u args =>
   obtain ⟨hu, ha⟩ := ha
   simp only [List.map_cons, b1A, b3G] at hv
   split at hv
   ·
    rename_i hb
    have hi : p.1 < n := by have := Nat.le_of_ble_eq_true hb; omega
    split at hv
    ·
     rename_i x b hx
     split at hv
     ·
      rename_i l2 b2 hr
      have hv := Option.some.inj hv
      obtain ⟨rfl, rfl⟩ := Prod.mk.inj hv
      obtain ⟨us, hcu, hvu, heu⟩ := b7B hM hu hx
      have heu := b8Q (b3W (fun y hy => hL y (by simp [hy]))) heu
      have hlu := a2L _ _ _ heu
      have hset := c1U (fun x cs => a2L t x cs) x us heu n l xs p.1 hi he
      obtain ⟨xs', g1, g2⟩ := ih args _ l2 _ b2 ha hset hr (fun y hy => hL y (by simp [hy]))
      refine ⟨xs', ?_, g2⟩
      have hxl := b8A (fun x cs => a2L t x cs) n l xs he
      have : (p.1 + 1) * t.sz ≤ n * t.sz := Nat.mul_le_mul_right _ hi
      rw [Nat.succ_mul] at this
      have hvu' : a.eval p.2 = _ := hvu
      rw [List.map_cons, c5G rfl (by rw [hvu']; exact a6X hlu (c4Z _ _ _ heu)) hlu (by omega)]
      exact g1
     ·
      cases hv
    ·
     cases hv
   ·
    cases hv
theorem c2N (H : List Blk) (t : Ty) (n : Nat) : ∀ (r : List (Nat × PV)) (l l' : Arr t.D n) (lent : List Nat), b3G H t n l r = some (l', lent) → ∀ b ∈ lent, live (a0J H b) = true
 | [], l, l', lent, h, b, hb => by
  simp only [b3G, Option.some.injEq, Prod.mk.injEq] at h
  obtain ⟨_, rfl⟩ := h
  cases hb
 | (i, u) :: r, l, l', lent, h, b, hb => by
  simp only [b3G] at h
  split at h
  ·
   split at h
   ·
    rename_i x b1 hx
    split at h
    ·
     rename_i l2 b2 hr
     have h := Option.some.inj h
     obtain ⟨rfl, rfl⟩ := Prod.mk.inj h
     rcases List.mem_append.1 hb with hb | hb
     ·
      exact a9T _ _ _ _ _ hx b hb
     ·
      exact c2N H t n r _ _ _ hr b hb
    ·
     cases h
   ·
    cases h
  ·
   cases h
theorem d2K (hM : Mem base G0 own0 c) {id : TypeId} {ps : Array (Nat × Operand)} (ho : o.op = .build id ps) {n : Nat} {t : Ty} (ht : TI P id (.arr n t)) (hq : t.noOpq = true) {args : List PV} (ha : All2 (VOk c) args (ps.toList.map fun x => a.eval x.2))
  {x : Arr t.D n} {lent : List Nat} (hf : b3G c.H t n (Ty.zero (.arr n t)) (b1A (ps.toList.map (·.1)) args) = some (x, lent)) :
  a4B P base G0 own0 o a c (.val (.arr n t) x) (kill lent) := by
 obtain ⟨i, hi, _, hz0⟩ := ht.info
 have hz0 := hz0.resolve_right (by intro h; cases h)
 have hcz : (mkZ (.arr n t)).cells = (a4V (.arr n t)).toArray := a6X (a3T _) (a9R _)
 obtain ⟨_, e, hu, he⟩ := ht.ok
 obtain ⟨d, hue, _⟩ := he.und
 obtain ⟨ie, hie, hse⟩ := b4A hue
 have hz : b0H (Enc c.w (a9A c lent) t) n (Ty.zero (.arr n t)) (a4V (.arr n t)) := c3G (.arr n t) hq
 obtain ⟨xs, g1, g2⟩ := d8L hM lent ps.toList args _ x _ lent ha hz hf (fun b hb => hb)
 obtain ⟨c1, h1, h2, h3, h4, h5, h6, h7⟩ := f8P hM lent (c2N c.H t n _ _ _ _ hf)
 have hx : Enc c1.w c1.G (.arr n t) x xs := h7 (.arr n t) x xs g2
 refine a5L (c' := c1) (v := .agg xs.toArray) ?_ h4 h5 h2 ?_
 ·
  have := run_build c.w id (ps.map fun x => (x.1, a.eval x.2)) xs.toArray (P := P) (by
   simp only [Program.built, hi, hu, hz0, hie, hse, he.size, hcz]
   simpa using g1)
  rw [c8F ho, h1]
  simp [this]
 ·
  exact ⟨xs, hx, rfl⟩
theorem c6L (hM : Mem base G0 own0 c) {id : TypeId} {n : Nat} {ps : Array (Nat × Operand)} (ho : o.op = .buildSlice id n ps) {t : Ty} (ht : TI P id (.sl t)) (hq : t.noOpq = true) (hsm : n * t.sz ≤ 16777216) {args : List PV} (ha : All2 (VOk c) args (ps.toList.map fun x => a.eval x.2))
  {l : List t.D} {lent : List Nat} (hf : b3B c.H t (b4L n t.zero) (b1A (ps.toList.map (·.1)) args) = some (l, lent)) (hfl : a2P n = true) {nb : Nat} (hn : a0J c.H nb = .unborn) :
  a4B P base G0 own0 o a c (.whole nb) (kill lent ++ [(nb, .row t l)]) := by
 obtain ⟨e, hu, he, i, hi, hby, hz⟩ := ht.elem t rfl
 have hz := hz.resolve_right (by rintro rfl; cases hq)
 have hzc : (mkZ t).cells = (a4V t).toArray := a6X (a3T t) (a9R t)
 have hlive := c2S c.H t _ _ _ _ hf
 obtain ⟨xs, g1, g2, g3⟩ := d9A hM lent ps.toList args _ l _ lent ha (c5T hq n) hf (fun b hb => hb)
 rw [c3F] at g3
 obtain ⟨c1, h1, h2, h3, h4, h5, h6, h7⟩ := f8P hM lent hlive
 have hxl := b7W (fun x cs => a2L t x cs) l xs g2
 have hnl : nb ∉ lent := fun h => by have := hlive nb h; rw [hn] at this; cases this
 have hn1 : a0J c1.H nb = .unborn := (h6 nb hnl).trans hn
 have hlim : n ≤ 1073741824 := by simpa [a2P] using hfl
 obtain ⟨c2, k1, k2, k3, k4, k5⟩ := mem_row h5 hn1 (t := t) (l := l) (e := e) none (c3W c1.w _ _)
  (by rw [g3]; exact c7V c1.w xs e t.sz n n (by rw [hxl, g3]) (Nat.le_refl _) (by simp only [maxLen]; omega))
  (by rw [List.take_of_length_le (by rw [hxl, g3]; exact Nat.le_refl _)]; exact a9E (fun x cs => h7 t x cs) l xs g2)
  (by rw [g3]; simp only [LIM]; omega) none (fun i h => by cases h) (fun r h => by cases h) (fun r h => by simp only [a3V, Option.some.injEq] at h; left; omega)
 refine a5L (c' := c2) ?_ (h4.trans k3) k4 (by rw [k2, h2, ← a5Y]; rfl) k5
 rw [k1, h1, c3P ho]
 have hsz : i.size = t.sz := by have := he.size; simp [Program.cellsOf, hi] at this; exact this
 have hzr : (zeroValue e).run P c.w = .ok (mkZ t) c.w := by simp [zeroValue, typeInfo, hi, hz]
 have hfill : Instr.fill (fun i => some (i * t.sz, t.sz)) ((b4L n (a4V t)).flatten).toArray (ps.map fun x => (x.1, a.eval x.2)).toList = some xs.toArray := by simpa using g1
 have hrun : (Instr.buildSlice id n (ps.map fun x => (x.1, a.eval x.2))).run P c.w = .ok (.slice (some ⟨c.w.heap.size, 0, none⟩) n n) (c.w.alloc (.cells xs.toArray e)) := by
  unfold Instr.buildSlice
  simp only [Sem.run_bind, run_underlying hu, Result.andThen_ok, he.run_size]
  rw [if_neg (by simp; omega)]
  by_cases h0 : n * t.sz = 0
  ·
   have hfl0 : (b4L n (a4V t)).flatten = [] := List.eq_nil_of_length_eq_zero (by rw [b8B, a3T]; exact h0)
   have hr0 : Array.range 0 = #[] := rfl
   rw [hfl0] at hfill
   rw [if_pos h0, h0, hr0]
   simp only [Sem.run_pure, Sem.run_bind, Result.andThen_ok, Array.map_empty, hfill]
   simp [newRow]
  ·
   rw [if_neg h0]
   rw [← c8K, a3T] at hfill
   simp only [Sem.run_bind, hzr, Result.andThen_ok, Sem.run_pure, hzc, hfill]
   simp [newRow]
 simp only [Sem.run_bind, hrun, Result.andThen_ok, Sem.run_pure]
theorem run_append_room' (w : World) (t ty e e' : TypeId) (i : TypeInfo) (ht : P.underlying t = some (.slice e)) (hi : P.info? e = some i)
  (g sLen sCap : Nat) (cur : Array Value) (hg : w.heap[g]? = some (.cells cur e' (0, 0))) (x : Value) (m : Nat) (hm : Builtin.lenOf x = pure m) (news : List Value) (hnews : (Builtin.firstCells i.size m x).run P w = .ok news.toArray w) (h1 : ∀ u ∈ news, u.oneCell' = true)
  (hl : news.length = m * i.size) (hroom : sLen + m ≤ sCap) (hfit : sLen * i.size + news.length ≤ cur.size) :
  (Builtin.append_ #[t, t] ty #[.slice (some ⟨g, 0, none⟩) sLen sCap, x]).run P w =
   .ok (.slice (some ⟨g, 0, none⟩) (sLen + m) sCap) (w.setRow g (cur.toList.take (sLen * i.size) ++ news ++ cur.toList.drop (sLen * i.size + news.length)).toArray) := by
 have hst := run_storeCells_at P g (sLen * i.size) e' news 0 cur w hg (by simpa using hfit) h1
 simp only [Nat.add_zero] at hst
 simp [Builtin.append_, run_underlying ht, Go.sizeOf, typeInfo, hi, hm, hroom, hnews, add_lit, hst]
theorem run_append_grow' (w : World) (t ty e : TypeId) (i : TypeInfo) (z : Value) (ht : P.underlying t = some (.slice e)) (hi : P.info? e = some i) (hz : i.zero = some z)
  (b : Option Addr) (sLen sCap : Nat) (olds : List Value) (holds : (Builtin.firstCells i.size sLen (.slice b sLen sCap)).run P w.drew = .ok olds.toArray w.drew)
  (x : Value) (n : Nat) (hm : Builtin.lenOf x = pure n) (news : List Value) (hnews : (Builtin.firstCells i.size n x).run P w.drew = .ok news.toArray w.drew)
  (hg : sCap < sLen + n) (h63 : ((sLen + n : Nat) : Int) ≤ 9223372036854775807) (hfit : Builtin.nextslicecap (sLen + n) sCap * i.bytes ≤ 281474976710656) :
  (Builtin.append_ #[t, t] ty #[.slice b sLen sCap, x]).run P w =
   .ok (.slice (some ⟨w.heap.size, 0, none⟩) (sLen + n) (grownCap w (sLen + n) sCap e))
    (w.drew.alloc (.cells (olds ++ news ++ (Builtin.zeroCells z.cells (grownCap w (sLen + n) sCap e - (sLen + n))).toList).toArray e)) := by
 have hn : ¬ (sLen + n ≤ sCap) := by omega
 have h63' : ¬ (9223372036854775807 < ((sLen : Int) + (n : Int))) := by omega
 have h48' : ¬ (281474976710656 < Builtin.nextslicecap (sLen + n) sCap * i.bytes) := by omega
 simp [Builtin.append_, run_underlying ht, Go.sizeOf, typeInfo, zeroValue, hi, hz, hm, hn, h63', h48', Question.forced, hnews, holds, newRow, grownCap]
 congr 2
 apply Array.ext'
 simp [List.append_assoc]
theorem c5Z (a : Option Addr) (n cap : Nat) : Builtin.lenOf (.slice a n cap) = pure n := rfl
theorem d4G {n m : Nat} (h : a2P n = true) (h' : m ≤ n) : m ≤ 1073741824 := by simp only [a2P, decide_eq_true_eq] at h; omega
theorem b4U (w : World) {id e e' : TypeId} (ty : TypeId) {t : Ty} (hu : P.underlying id = some (.slice e)) (he : TOk P t e) {i : TypeInfo} (hi : P.info? e = some i) (hby : i.bytes ≤ 131072) (hz : i.zero = some (mkZ t)) (hsz : 1 ≤ t.sz)
  (hd : Value) (n : Nat) (xs : List Value) (ho : w.ownsRow 0 e' t.sz hd n xs) (x : Value) (m : Nat) (hm : Builtin.lenOf x = pure m) (news : List Value) (hl : news.length = m * t.sz)
  (hnews : ∀ w', (w' = w ∨ w' = w.drew) → (Builtin.firstCells t.sz m x).run P w' = .ok news.toArray w') (h1 : ∀ u ∈ news, u.oneCell' = true) (hlim : n + m ≤ 1073741824) :
  ∃ hd' w' e'', (Builtin.append_ #[id, id] ty #[hd, x]).run P w = .ok hd' w' ∧ w'.ownsRow 0 e'' t.sz hd' (n + m) (xs ++ news) ∧ w.grownBy w' (a3V hd) ∧ (∀ r, a3V hd' = some r → w.heap.size ≤ r ∨ a3V hd = some r) := by
 have hs : i.size = t.sz := by have := he.size; simp [Program.cellsOf, hi] at this; exact this
 have hzc : (mkZ t).cells = (a4V t).toArray := a6X (a3T t) (a9R t)
 have hlen : (xs ++ news).length = (n + m) * t.sz := by rw [List.length_append, ho.1, hl, Nat.add_mul]
 have hbytes : (n + m) * i.bytes ≤ 140737488355328 := Nat.le_trans (Nat.mul_le_mul hlim hby) (by decide)
 have grown : ∀ (b : Option Addr) (cap : Nat), cap < n + m → (Builtin.firstCells i.size n (.slice b n cap)).run P w.drew = .ok xs.toArray w.drew → ∃ hd' w' e'', (Builtin.append_ #[id, id] ty #[.slice b n cap, x]).run P w = .ok hd' w' ∧ w'.ownsRow 0 e'' t.sz hd' (n + m) (xs ++ news) ∧ w.grownBy w' (a3V (.slice b n cap)) ∧ (∀ r, a3V hd' = some r → w.heap.size ≤ r ∨ a3V (.slice b n cap) = some r) := by
  intro b cap hc holds
  have hrun := run_append_grow' (P := P) w id ty e i (mkZ t) hu hi hz b n cap xs holds x m hm news (by rw [hs]; exact hnews w.drew (.inr rfl)) hc (by omega) (growslice_fits hc hbytes)
  have hge := grownCap_ge w (n + m) cap e
  have hcm : grownCap w (n + m) cap e ≤ maxLen := grownCap_le_maxLen w (n + m) cap e (by simp only [maxLen]; omega)
  refine ⟨_, _, e, hrun, ⟨hlen, .inr ⟨w.heap.size, _, _, rfl, Nat.zero_le _, b8F w.drew _, hge, hcm, ?_, ?_⟩⟩, ⟨rfl, rfl, rfl, by simp, fun k hk _ => b6L w.drew _ hk⟩, fun r hr => ?_⟩
  ·
   simp only [List.size_toArray, List.length_append, Array.length_toList, size_zeroCells, hzc, a3T]
   rw [ho.1, hl, ← Nat.add_mul, ← Nat.add_mul]
   congr 1
   omega
  ·
   simp only [List.append_assoc]
   rw [← List.append_assoc, ← hlen]
   exact List.take_left
  ·
   simp only [a3V, Option.some.injEq] at hr; left; omega
 rcases a6W ho with ⟨e1, e2, e3⟩ | ⟨g, cap, cur, e1, e2, e3, e4, e5, e6, e7⟩
 ·
  subst e1 e2 e3
  by_cases h0 : m = 0
  ·
   subst h0
   have hn : news = [] := List.eq_nil_of_length_eq_zero (by rw [hl]; simp)
   subst hn
   refine ⟨.slice none 0 0, w, e, ?_, ⟨by simp, .inl ⟨rfl, rfl⟩⟩, ⟨rfl, rfl, rfl, Nat.le_refl _, fun _ _ _ => rfl⟩, fun r hr => by cases hr⟩
   have := hnews w (.inl rfl)
   simp [Builtin.append_, run_underlying hu, Go.sizeOf, typeInfo, hi, hs, hm, this]
  ·
   exact grown none 0 (by omega) (by simp [Builtin.firstCells])
 ·
  subst e1
  by_cases hroom : n + m ≤ cap
  ·
   have hfit : n * t.sz + news.length ≤ cur.size := by rw [hl, e5, ← Nat.add_mul]; exact Nat.mul_le_mul_right _ hroom
   have hrun := run_append_room' (P := P) w id ty e e' i hu hi g n cap cur e2 x m hm news (by rw [hs]; exact hnews w (.inl rfl)) h1 (by rw [hs]; exact hl) hroom (by rw [hs]; exact hfit)
   rw [hs] at hrun
   refine ⟨_, _, e', hrun, ⟨hlen, .inr ⟨g, cap, _, rfl, Nat.zero_le _, setRow_heap w g cur _ e' _ e2, hroom, e4, ?_, ?_⟩⟩, ⟨rfl, rfl, rfl, by simp, fun k _ hk => setRow_other w g k _ (fun e => hk (by simp [a3V, e]))⟩, fun r hr => .inr hr⟩
   ·
    simp only [List.size_toArray, List.length_append, List.length_take, List.length_drop, Array.length_toList]
    omega
   ·
    rw [e6, ← hlen]
    exact List.take_left
  ·
   refine grown (some ⟨g, 0, none⟩) cap (by omega) ?_
   rw [hs]
   refine run_firstCells_some (P := P) w.drew t.sz n ⟨g, 0, none⟩ n cap xs ho.1 fun j v hj => ?_
   rw [add_lit]
   have := e7 j v hj
   rw [World.cell?_drew]
   simp only [World.cell?, e2, Option.isSome_none, Bool.false_eq_true, if_false]
   exact this
theorem b2L {w : World} {G : Nat → Prop} {t : Ty} {ys : List t.D} {us : List Value} (h : Enc w G (.sl t) ys us) : ∃ ad cap news, us = [.slice ad ys.length cap] ∧ news.length = ys.length * t.sz ∧ b3K (Enc w G t) ys news ∧
  ∀ w', (∀ a, w'.cell? a = w.cell? a) → (Builtin.firstCells t.sz ys.length (.slice ad ys.length cap)).run P w' = .ok news.toArray w' := by
 obtain ⟨ad, cap, hus, hcap, hlim, hr⟩ := h
 have build : ∀ (l : List t.D) (r off : Nat), rowAt w (Enc w G t) t.sz r off l → ∃ news : List Value, news.length = l.length * t.sz ∧ b3K (Enc w G t) l news ∧ b5G w r off news := by
  intro l
  induction l with
  | nil => intro r off _; exact ⟨[], by simp, rfl, fun j d h => by simp at h⟩
  | cons y l ih =>
   intro r off hrow
   obtain ⟨ds, h1, h2⟩ := hrow 0 y rfl
   obtain ⟨news, k1, k2, k3⟩ := ih r (off + t.sz) (fun i x hi => by
    obtain ⟨ds, g1, g2⟩ := hrow (i + 1) x (by simpa using hi)
    exact ⟨ds, g1, by rw [Nat.succ_mul] at g2; rw [show off + t.sz + i * t.sz = off + (i * t.sz + t.sz) by omega]; exact g2⟩)
   have hl := a2L _ _ _ h1
   refine ⟨ds ++ news, by simp [hl, k1, Nat.succ_mul]; omega, ⟨ds, news, rfl, h1, k2⟩, fun j d hj => ?_⟩
   by_cases hjl : j < ds.length
   ·
    rw [List.getElem?_append_left hjl] at hj
    have := h2 j d hj
    simpa using this
   ·
    rw [List.getElem?_append_right (by omega)] at hj
    have := k3 _ d hj
    rw [show off + t.sz + (j - ds.length) = off + j by omega] at this
    exact this
 rcases hr with hr | ⟨⟨r, q, spot⟩, rfl, hsp, hG, hrow⟩
 ·
  have hr : ys = [] := hr
  subst hr
  refine ⟨ad, cap, [], hus, by simp, rfl, fun w' _ => ?_⟩
  cases ad with
  | none => simp [Builtin.firstCells]
  | some q => simp [Builtin.firstCells, loadCells, loadCellsFrom]
 ·
  simp only at hsp hG hrow
  subst hsp
  obtain ⟨news, k1, k2, k3⟩ := build ys r q hrow
  refine ⟨_, cap, news, hus, k1, k2, fun w' hw' => ?_⟩
  refine run_firstCells_some (P := P) w' t.sz ys.length ⟨r, q, none⟩ ys.length cap news k1 fun j v hj => ?_
  rw [add_lit, hw']
  exact k3 j v hj
theorem c0J {w : World} {G : Nat → Prop} {t : Ty} : ∀ (l : List t.D) (xs : List Value), b3K (Enc w G t) l xs → ∀ v ∈ xs, v.oneCell' = true
 | [], _, h, v, hv => by simp only [b3K] at h; subst h; simp at hv
 | x :: l, _, h, v, hv => by
  obtain ⟨c1, c2, rfl, h1, h2⟩ := h
  simp only [List.mem_append] at hv
  exact hv.elim (c4Z _ _ _ h1 v) (c0J l c2 h2 v)
theorem b6D {k : Call} {x y : Operand} (ho : o.op = .call k) (hk : k.callee = .builtin .append) (hargs : k.args = #[x, y]) : execOp a.eval o = (do pure (.value (← Builtin.append_ k.argTypes o.type #[a.eval x, a.eval y]))) := by
 obtain ⟨cs, h⟩ := b0Z (a := a) ho hk
 rw [h, hargs]
 simp only [builtin, List.map_toArray, List.map_cons, List.map_nil]
theorem c4T (hM : Mem base G0 own0 c) {k : Call} {x y : Operand} (ho : o.op = .call k) (hk : k.callee = .builtin .append) (hargs : k.args = #[x, y]) {id : TypeId} (hat : k.argTypes = #[id, id]) {t : Ty} (ht : TI P id (.sl t)) (hq : t.noOpq = true) (hsz : 1 ≤ t.sz)
  {py : PV} {ys : List t.D} {lent : List Nat} (hx : VOk c .nils (a.eval x)) (hy : VOk c py (a.eval y)) (hv : a3R c.H (.sl t) py = some (ys, lent)) (hfl : a2P ys.length = true) {nb : Nat} (hn : a0J c.H nb = .unborn) :
  a4B P base G0 own0 o a c (.whole nb) (kill (c2Y t lent) ++ [(nb, .row t ys)]) := by
 obtain ⟨e, hu, he, i, hi, hby, hz⟩ := ht.elem t rfl
 have hz := hz.resolve_right (by rintro rfl; cases hq)
 obtain ⟨us, _, hvu, hen⟩ := b7B hM hy hv
 obtain ⟨cs, hc, hxv⟩ := hx
 simp only [a1A] at hc
 subst hc
 have hxv : a.eval x = .slice none 0 0 := hxv
 obtain ⟨ad, cap, news, rfl, hnl, hne, hfc⟩ := b2L (P := P) hen
 have hyv : a.eval y = .slice ad ys.length cap := hvu
 have hlim : ys.length ≤ 1073741824 := d4G hfl (Nat.le_refl _)
 obtain ⟨hd', w', e'', hrun, hown, hg, hnew⟩ := b4U (P := P) c.w o.type hu he hi hby hz hsz (.slice none 0 0) 0 [] (e' := e) ⟨by simp, .inl ⟨rfl, rfl⟩⟩ (.slice ad ys.length cap) ys.length rfl news hnl
  (fun w' hw' => hfc w' (by rcases hw' with rfl | rfl <;> intro a <;> rfl)) (c0J ys news hne) (by omega)
 obtain ⟨c1, h1, h2, h3, h4, h5, h6, h7⟩ := f1J hM t lent (a9T _ _ _ _ _ hv)
 have hnl' : nb ∉ lent := fun h => by have := a9T _ _ _ _ _ hv nb h; rw [hn] at this; cases this
 rw [← h1] at hg hnew
 rw [Nat.zero_add, List.nil_append] at hown
 obtain ⟨c2, k1, k2, k3, k4, k5⟩ := mem_row h5 ((h6 nb hnl').trans hn) (t := t) (l := ys) none (by simpa [a3V] using hg) hown (a9E (fun x cs => h7 x cs) ys news hne) (by simp only [LIM]; omega) none (fun i h => by cases h) (fun r h => by cases h)
  (fun r h => by rcases hnew r h with h' | h'; exact .inl h'; cases h')
 refine a5L (c' := c2) ?_ (h4.trans k3) k4 (by rw [k2, h2, ← a5Y]; rfl) k5
 rw [k1, b6D ho hk hargs, hat, hxv, hyv]
 simp only [Sem.run_bind, hrun, Result.andThen_ok, Sem.run_pure]
theorem c6S (hM : Mem base G0 own0 c) {k : Call} {x y : Operand} (ho : o.op = .call k) (hk : k.callee = .builtin .append) (hargs : k.args = #[x, y]) {id : TypeId} (hat : k.argTypes = #[id, id]) {t : Ty} (ht : TI P id (.sl t)) (hq : t.noOpq = true) (hsz : 1 ≤ t.sz)
  {py : PV} {ys : List t.D} {lent : List Nat} {b : Nat} {l : List t.D} (hb : a0J c.H b = .row t l) (hnb : b ∉ lent) (hx : VOk c (.whole b) (a.eval x)) (hy : VOk c py (a.eval y)) (hv : a3R c.H (.sl t) py = some (ys, lent)) (hfl : a2P (l ++ ys).length = true) {nb : Nat} (hn : a0J c.H nb = .unborn) :
  a4B P base G0 own0 o a c (.whole nb) (kill (c2Y t lent) ++ [(b, .dead), (nb, .row t (l ++ ys))]) := by
 obtain ⟨e, hu, he, i, hi, hby, hz⟩ := ht.elem t rfl
 have hz := hz.resolve_right (by rintro rfl; cases hq)
 obtain ⟨us, _, hvu, hen⟩ := b7B hM hy hv
 obtain ⟨ad, cap, news, rfl, hnl, hne, hfc⟩ := b2L (P := P) hen
 have hyv : a.eval y = .slice ad ys.length cap := hvu
 obtain ⟨c1, h1, h2, h3, h4, h5, h6, h7⟩ := f1J hM t lent (a9T _ _ _ _ _ hv)
 have hx1 := c5N h4 hx
 have hb1 := (h6 b hnb).trans hb
 obtain ⟨cs, ⟨v, rfl, _, hw⟩, hxv⟩ := hx1
 have hB := h5.blk b
 unfold a8I at hw
 unfold BlkOk at hB
 simp only [hb1] at hw hB
 obtain ⟨hlim0, e0, xs, hown0, hx0⟩ := hB
 have hxv : a.eval x = c1.ρ b := by rw [← hw]; exact hxv
 have hlim : l.length + ys.length ≤ 1073741824 := by rw [← List.length_append]; exact d4G hfl (Nat.le_refl _)
 have hne1 := a9E (fun x cs => h7 x cs) ys news hne
 obtain ⟨hd', w', e'', hrun, hown, hg, hnew⟩ := b4U (P := P) c1.w o.type hu he hi hby hz hsz (c1.ρ b) l.length xs hown0 (.slice ad ys.length cap) ys.length rfl news hnl
  (fun w' hw' => hfc w' (by rcases hw' with rfl | rfl <;> intro a <;> first | (rw [h1]; done) | (rw [h1]; rfl))) (c0J ys news hne) hlim
 have hbn : b ≠ nb := by rintro rfl; rw [hb] at hn; cases hn
 have hnl' : nb ∉ lent := fun h => by have := a9T _ _ _ _ _ hv nb h; rw [hn] at this; cases this
 obtain ⟨c2, k1, k2, k3, k4, k5⟩ := mem_row h5 ((h6 nb hnl').trans hn) (t := t) (l := l ++ ys) (a3V (c1.ρ b)) hg (by rw [List.length_append]; exact hown) (c1B l ys xs news hx0 hne1) (by rw [List.length_append]; simp only [LIM]; omega) (some b)
  (fun i h => by cases h; exact ⟨by rw [hb1]; rfl, hbn⟩) (fun r h _ => ⟨b, rfl, h⟩) (fun r h => (hnew r h).imp _root_.id fun h => ⟨b, rfl, h⟩)
 refine a5L (c' := c2) ?_ (h4.trans k3) k4 (by rw [k2, h2, ← a5Y]; rfl) k5
 rw [k1, b6D ho hk hargs, hat, hxv, hyv, ← h1]
 simp only [Sem.run_bind, hrun, Result.andThen_ok, Sem.run_pure]
end
end Sym

/- The laws of single operations, eleventh part: copy of a part of an array of whole numbers over a whole one. -/
namespace Sym
open Go
variable {P : Program} {base : World} {G0 own0 : Nat → Prop} {c : Cx} {a : Act} {o : Oper}
theorem c7Y {X : Type} {E : X → List Value → Prop} (h1 : ∀ x cs, E x cs → cs.length = 1) : ∀ (n : Nat) (l : List X) (cs : List Value), b3K E l cs → b3K E (l.drop n) (cs.drop n)
 | 0, _, _, h => h
 | n + 1, [], cs, h => by simp only [b3K] at h; subst h; rfl
 | n + 1, x :: l, cs, h => by
  obtain ⟨c1, c2, rfl, e1, e2⟩ := h
  have := h1 _ _ e1
  match c1, this with
  | [v], _ => exact c7Y h1 n l c2 e2
theorem c7Z {X : Type} {E : X → List Value → Prop} (h1 : ∀ x cs, E x cs → cs.length = 1) : ∀ (n : Nat) (l : List X) (cs : List Value), b3K E l cs → b3K E (l.take n) (cs.take n)
 | 0, _, _, h => rfl
 | n + 1, [], cs, h => by simp only [b3K] at h; subst h; rfl
 | n + 1, x :: l, cs, h => by
  obtain ⟨c1, c2, rfl, e1, e2⟩ := h
  have := h1 _ _ e1
  match c1, this, e1 with
  | [v], _, e1 => exact ⟨[v], c2.take n, rfl, e1, c7Z h1 n l c2 e2⟩
theorem c0R {X : Type} {E : X → List Value → Prop} (d : X) : ∀ (n : Nat) (l : List X) (cs : List Value), l.length = n → b3K E l cs → b0H E n (Arr.ofList d n l) cs
 | 0, l, cs, hl, h => by
  match l, hl with
  | [], _ => exact h
 | n + 1, x :: l, cs, hl, h => by
  obtain ⟨c1, c2, e, e1, e2⟩ := h
  exact ⟨c1, c2, e, e1, c0R d n l c2 (by simpa using hl) e2⟩
 | n + 1, [], cs, hl, h => by simp at hl
theorem d7J {w : World} {G : Nat → Prop} {k : IntKind} (x : (Ty.int k).D) (cs : List Value) (h : Enc w G (.int k) x cs) : cs.length = 1 := by
 simp only [Enc] at h; subst h; rfl
theorem c5P {w : World} {G : Nat → Prop} {k : IntKind} : ∀ (l : List (I k)) (cs : List Value), b3K (Enc w G (.int k)) l cs → ∀ v ∈ cs, v.oneCell' = true
 | [], cs, h => by simp only [b3K] at h; subst h; simp
 | x :: l, cs, h => by
  obtain ⟨c1, c2, rfl, e1, e2⟩ := h
  simp only [Enc] at e1
  subst e1
  intro v hv
  simp only [List.cons_append, List.nil_append, List.mem_cons] at hv
  rcases hv with rfl | hv
  ·
   rfl
  ·
   exact c5P l c2 e2 v hv
theorem e2A {k : Call} {x y : Operand} (ho : o.op = .call k) (hk : k.callee = .builtin .copy) (hargs : k.args = #[x, y]) : execOp a.eval o = (do pure (.value (← Builtin.copy_ k.argTypes o.type #[a.eval x, a.eval y]))) := by
 obtain ⟨cs, h⟩ := b0Z (a := a) ho hk
 rw [h, hargs]
 simp only [builtin, List.map_toArray, List.map_cons, List.map_nil]
theorem add_plain (b o j : Nat) : (⟨b, o, none⟩ : Addr).add j = ⟨b, o + j, none⟩ := by unfold Addr.add; split <;> simp_all
theorem e4G (hM : Mem base G0 own0 c) {k : Call} {x y : Operand} (ho : o.op = .call k) (hk : k.callee = .builtin .copy) (hargs : k.args = #[x, y]) {id id2 : TypeId} (hat : k.argTypes = #[id, id2]) {kd : IntKind} (ht : TI P id (.sl (.int kd)))
  {b b2 m m2 lo : Nat} {v : PV} {s : Ty} {z : (Ty.arr m2 (.int kd)).D} (hx : VOk c (.aview b [] 0 m) (a.eval x)) (hy : VOk c (.aview b2 [] lo m) (a.eval y)) (hb : a0J c.H b = .box (.arr m (.int kd)) v) (hb2 : a0J c.H b2 = .box s (.val (.arr m2 (.int kd)) z)) (hm : 1 ≤ m) (hm2 : m ≤ 1048576) :
  a4B P base G0 own0 o a c (.val (.int .i64) (I.ofNat .i64 m)) [(b, .box (.arr m (.int kd)) (.val (.arr m (.int kd)) (Arr.ofList (I.of kd 0) m (a6E (Arr.list m2 z) lo m))))] := by
 obtain ⟨e, hu, he, i, hi, hby, hz⟩ := ht.elem (.int kd) rfl
 have hs : (P.info? e).map (·.size) = some 1 := by
  have := he.size
  simp [Program.cellsOf, hi] at this
  rw [hi]
  exact congrArg some this
 obtain ⟨_, ⟨xv, rfl, _, hxa⟩, hxe⟩ := hx
 obtain ⟨_, ⟨yv, rfl, _, hya⟩, hye⟩ := hy
 have hxe : a.eval x = xv := hxe
 have hye : a.eval y = yv := hye
 have hB := hM.blk b
 have hB2 := hM.blk b2
 unfold b5D at hxa hya
 unfold BlkOk at hB hB2
 simp only [hb] at hxa hB
 simp only [hb2] at hya hB2
 obtain ⟨r, o1, m1, u1, hρ, hoff, hle, _, hsl⟩ := hxa
 obtain ⟨r', cs, ty, hρ', hh, hc, hf⟩ := hB
 obtain ⟨r2, o2, m3, u3, hρ2, hoff2, hle2, _, hsl2⟩ := hya
 obtain ⟨r2', cs2, ty2, hρ2', hh2, hc2, hf2⟩ := hB2
 have hρ0 := hρ'
 rw [hρ'] at hρ
 simp only [Value.pointer.injEq, Option.some.injEq, Addr.mk.injEq] at hρ
 obtain ⟨rfl, _, _⟩ := hρ
 rw [hρ2'] at hρ2
 simp only [Value.pointer.injEq, Option.some.injEq, Addr.mk.injEq] at hρ2
 obtain ⟨rfl, _, _⟩ := hρ2
 have hse := Ty.beq_eq hf2
 subst hse
 simp only [a2C, Option.some.injEq, Prod.mk.injEq, Ty.arr.injEq] at hoff hoff2
 obtain ⟨rfl, rfl, rfl⟩ := hoff
 obtain ⟨rfl, rfl, rfl⟩ := hoff2
 have hcl : cs.length = m := by
  have := a4Z _ _ _ hc hf
  simpa [Ty.sz] using this
 have hEL := b9V m2 z cs2 hc2
 have hcl2 : cs2.length = m2 := by
  have := a4Z _ _ _ hc2 hf2
  simpa [Ty.sz] using this
 rcases hsl with ⟨h0, _⟩ | ⟨cap, rfl, hcap, _⟩
 ·
  omega
 rcases hsl2 with ⟨h0, _⟩ | ⟨cap2, rfl, hcap2, _⟩
 ·
  omega
 have hsub : b3K (Enc c.w c.G (.int kd)) (a6E (Arr.list m2 z) lo m) ((cs2.drop lo).take m) := by
  have := c7Z (d7J (w := c.w) (G := c.G) (k := kd)) m _ _ (c7Y (d7J (w := c.w) (G := c.G) (k := kd)) lo _ _ hEL)
  exact this
 have hsl : (a6E (Arr.list m2 z) lo m).length = m := by
  have hll : (Arr.list m2 z).length = m2 := Arr.list_len m2 z
  show (((Arr.list m2 z).drop lo).take m).length = m
  rw [List.length_take, List.length_drop, hll]
  omega
 have hnew : a1A c (.val (.arr m (.int kd)) (Arr.ofList (I.of kd 0) m (a6E (Arr.list m2 z) lo m))) ((cs2.drop lo).take m) := c0R _ _ _ _ hsl hsub
 have hlen : ((cs2.drop lo).take m).length = m := by
  simp only [List.length_take, List.length_drop]
  omega
 obtain ⟨c', h1, h2, h3, h4⟩ := d0U hM hb hρ0 hh hnew (Ty.beq_refl _)
 refine a5L (c' := c') (v := goInt m) ?_ h3 h4 h2 ?_
 ·
  have hrun := run_copy_row (P := P) c.w id id2 o.type e r' 0 m cap ⟨r2', 0 + lo * (Ty.int kd).sz, none⟩ m cap2 cs.toArray ty ((cs2.drop lo).take m) hu hs hh (by rw [hlen]; simp) (fun j d hj => ?_) (by rw [hlen]; simp; omega) (c5P _ _ hsub)
  ·
   have hset : (cs.toArray.toList.take 0 ++ (cs2.drop lo).take m ++ cs.toArray.toList.drop (0 + ((cs2.drop lo).take m).length)).toArray = ((cs2.drop lo).take m).toArray := by
    rw [hlen]
    simp [hcl]
   rw [hset, hlen] at hrun
   rw [h1, e2A ho hk hargs, hat, hxe, hye]
   have e0 : (0 : Nat) + 0 * (Ty.int kd).sz = 0 := by simp
   rw [e0]
   simp only [Sem.run_bind, hrun, Result.andThen_ok, Sem.run_pure]
  ·
   rw [List.getElem?_take] at hj
   split at hj
   ·
    rw [List.getElem?_drop] at hj
    have hz1 : (Ty.int kd).sz = 1 := rfl
    have hlt : lo + j < cs2.length := (List.getElem?_eq_some_iff.1 hj).1
    have ha : (⟨r2', 0 + lo * (Ty.int kd).sz, none⟩ : Addr).add j = ⟨r2', lo + j, none⟩ := by
     rw [add_plain, hz1]
     simp
    rw [ha]
    simp [World.cell?, hh2, hj]
   ·
    cases hj
 ·
  have hv : (I.ofNat .i64 m).val = m := by
   show IntKind.i64.wrap (m : Int) = m
   refine a5Z ⟨?_, ?_⟩
   ·
    have : IntKind.i64.min = -9223372036854775808 := by decide
    omega
   ·
    have : IntKind.i64.max = 9223372036854775807 := by decide
    omega
  have := ok_int (c := c') (I.ofNat .i64 m)
  rw [hv] at this
  exact this
end Sym

/- Laws: interfaces, closures, slices held against nil, rows cut short. -/
namespace Sym
open Go
section
variable {P : Program} {base : World} {G0 own0 : Nat → Prop} {o : Oper} {a : Act} {c : Cx}
theorem plain_cells' {pv : PV} {v : Value} (h : VOk c pv v) (hp : b5Z pv = true) : ∃ cs, a1A c pv cs ∧ v = mkV (a3L pv) cs := by
 cases pv with
 | tup a => cases hp
 | undef => cases hp
 | _ => exact h
theorem c5D {pv : PV} {cs : List Value} (h : a1A c pv cs) : VOk c pv (mkV (a3L pv) cs) := by
 cases pv with
 | tup a => exact h.elim
 | undef => exact h.elim
 | _ => exact ⟨cs, h, rfl⟩
theorem TOk.not_iface {t : Ty} {id : TypeId} (h : TOk P t id) : ∃ d, P.underlying id = some d ∧ ∀ ms, d ≠ .interface ms := by
 cases t with
 | int k => exact ⟨_, h.2, by simp⟩
 | bool => exact ⟨_, h.2, by simp⟩
 | str => exact ⟨_, h.2, by simp⟩
 | nil => exact ⟨_, h.2, by simp⟩
 | cons a b => obtain ⟨_, fs, f, r, h1, _⟩ := h; exact ⟨_, h1, by simp⟩
 | arr n t => obtain ⟨_, e, h1, _⟩ := h; exact ⟨_, h1, by simp⟩
 | sl t => obtain ⟨_, e, h1, _⟩ := h; exact ⟨_, h1, by simp⟩
 | opq =>
  obtain ⟨_, d, h1, h2⟩ := h
  refine ⟨d, h1, ?_⟩
  rintro ms rfl
  cases h2
theorem c1R (hM : Mem base G0 own0 c) {id : TypeId} {x : Operand} (ho : o.op = .makeInterface id x) {t : Ty} (ht : TOk P t id) {px : PV} (hp : b5Z px = true) (hx : VOk c px (a.eval x)) : a4B P base G0 own0 o a c (.iface id px) [] := by
 obtain ⟨cs, h1, h2⟩ := plain_cells' hx hp
 obtain ⟨d, hd, hne⟩ := ht.not_iface
 refine a1F hM (v := .iface id (a.eval x)) ?_ ⟨[.iface id (a.eval x)], ⟨cs, by rw [h2], h1⟩, rfl⟩
 simp only [execOp, ho, Instr.makeInterface, Sem.run_bind, run_underlying hd, Result.andThen_ok]
 cases d <;> first | rfl | exact absurd rfl (hne _)
theorem b9C (hM : Mem base G0 own0 c) {x : Operand} {xt id : TypeId} {ok : Bool} (ho : o.op = .typeAssert x xt id ok) {t : Ty} (ht : TOk P t id) {px : PV} (hx : VOk c (.iface id px) (a.eval x)) :
  a4B P base G0 own0 o a c (match ok with | true => .tup (.pair px (.pair (.val .bool true) (.val .nil ()))) | false => px) [] := by
 obtain ⟨cs, ⟨ds, h1, h2⟩, h3⟩ := hx
 subst h1
 have h3 : a.eval x = .iface id (mkV (a3L px) ds) := h3
 obtain ⟨d, hd, hne⟩ := ht.not_iface
 have hr : (Instr.typeAssert (.iface id (mkV (a3L px) ds)) xt id ok).run P c.w = .ok (if ok then .tuple #[mkV (a3L px) ds, .bool true] else mkV (a3L px) ds) c.w := by
  simp only [Instr.typeAssert, Sem.run_bind, run_underlying hd, Result.andThen_ok]
  cases d <;> first | (simp; done) | exact absurd rfl (hne _)
 cases ok with
 | true =>
  refine a1F hM (v := .tuple #[mkV (a3L px) ds, .bool true]) ?_ ⟨[mkV (a3L px) ds, .bool true], rfl, ⟨ds, [.bool true], rfl, h2, ⟨[.bool true], [], rfl, rfl, rfl⟩⟩⟩
  simp only [execOp, ho, h3, Sem.run_bind, hr, Result.andThen_ok]
  rfl
 | false =>
  refine a1F hM (v := mkV (a3L px) ds) ?_ (c5D h2)
  simp only [execOp, ho, h3, Sem.run_bind, hr, Result.andThen_ok]
  rfl
theorem d1B : ∀ (l : List PV) (us : List Value), l.all f1M = true → All2 (VOk c) l us → a1A c (l.foldr .pair (.val .nil ())) us
 | [], [], _, _ => rfl
 | p :: l, u :: us, h, ha => by
  simp only [List.all_cons, Bool.and_eq_true] at h
  have hu : a1A c p [u] := by
   have h1 := h.1
   cases p with
   | tup _ => cases h1
   | undef => cases h1
   | pair _ _ => cases h1
   | val t x =>
    obtain ⟨cs, k1, k2⟩ := ha.1
    simp only [f1M, Bool.not_eq_true'] at h1
    have hl := a2L _ _ _ k1
    have hs : t.sz = 1 := by cases t <;> first | rfl | cases h1
    have : cs = [u] := by
     match cs, hl with
     | [w], _ => rw [k2]; simp only [a3L, h1]; rfl
     | [], hl => simp [hs] at hl
     | _ :: _ :: _, hl => simp [hs] at hl
    rw [← this]; exact k1
   | nils => obtain ⟨cs, k1, k2⟩ := ha.1; simp only [a1A] at k1; subst k1; rw [k2]; rfl
   | npt => obtain ⟨cs, k1, k2⟩ := ha.1; simp only [a1A] at k1; subst k1; rw [k2]; rfl
   | fn f => obtain ⟨cs, k1, k2⟩ := ha.1; simp only [a1A] at k1; subst k1; rw [k2]; rfl
   | ptr b q => obtain ⟨cs, ⟨v, k1, k3⟩, k2⟩ := ha.1; subst k1; rw [k2]; exact ⟨v, rfl, k3⟩
   | bptr t x => obtain ⟨cs, ⟨ad, ds, k1, k3⟩, k2⟩ := ha.1; subst k1; rw [k2]; exact ⟨ad, ds, rfl, k3⟩
   | whole b => obtain ⟨cs, ⟨v, k1, k3⟩, k2⟩ := ha.1; subst k1; rw [k2]; exact ⟨v, rfl, k3⟩
   | row b lo n => obtain ⟨cs, ⟨v, k1, k3⟩, k2⟩ := ha.1; subst k1; rw [k2]; exact ⟨v, rfl, k3⟩
   | aview b q lo n => obtain ⟨cs, ⟨v, k1, k3⟩, k2⟩ := ha.1; subst k1; rw [k2]; exact ⟨v, rfl, k3⟩
   | cut b k => obtain ⟨cs, ⟨v, k1, k3⟩, k2⟩ := ha.1; subst k1; rw [k2]; exact ⟨v, rfl, k3⟩
   | iface t v => obtain ⟨cs, ⟨ds, k1, k3⟩, k2⟩ := ha.1; subst k1; rw [k2]; exact ⟨ds, rfl, k3⟩
   | clo f v => obtain ⟨cs, ⟨us, k1, k3⟩, k2⟩ := ha.1; subst k1; rw [k2]; exact ⟨us, rfl, k3⟩
  exact ⟨[u], us, rfl, hu, d1B l us h.2 ha.2⟩
 | [], _ :: _, _, h => h.elim
 | _ :: _, [], _, h => h.elim
theorem e3U {p : PV} {cs : List Value} (h : f1M p = true) (hc : a1A c p cs) : ∃ u, cs = [u] ∧ VOk c p u := by
 cases p with
 | tup _ => cases h
 | undef => cases h
 | pair _ _ => cases h
 | val t x =>
  simp only [f1M, Bool.not_eq_true'] at h
  have hl := a2L _ _ _ hc
  have hs : t.sz = 1 := by cases t <;> first | rfl | cases h
  match cs, hl, hc with
  | [w], _, hc => exact ⟨w, rfl, [w], hc, by simp only [a3L, h]; rfl⟩
  | [], hl, _ => simp [hs] at hl
  | _ :: _ :: _, hl, _ => simp [hs] at hl
 | nils => have k1 := hc; simp only [a1A] at k1; subst k1; exact ⟨_, rfl, _, hc, rfl⟩
 | npt => have k1 := hc; simp only [a1A] at k1; subst k1; exact ⟨_, rfl, _, hc, rfl⟩
 | fn f => have k1 := hc; simp only [a1A] at k1; subst k1; exact ⟨_, rfl, _, hc, rfl⟩
 | ptr b q => obtain ⟨v, k1, _⟩ := id hc; subst k1; exact ⟨v, rfl, _, hc, rfl⟩
 | bptr t x => obtain ⟨ad, ds, k1, _⟩ := id hc; subst k1; exact ⟨_, rfl, _, hc, rfl⟩
 | whole b => obtain ⟨v, k1, _⟩ := id hc; subst k1; exact ⟨v, rfl, _, hc, rfl⟩
 | row b lo n => obtain ⟨v, k1, _⟩ := id hc; subst k1; exact ⟨v, rfl, _, hc, rfl⟩
 | aview b q lo n => obtain ⟨v, k1, _⟩ := id hc; subst k1; exact ⟨v, rfl, _, hc, rfl⟩
 | cut b k => obtain ⟨v, k1, _⟩ := id hc; subst k1; exact ⟨v, rfl, _, hc, rfl⟩
 | iface t v => obtain ⟨ds, k1, _⟩ := id hc; subst k1; exact ⟨_, rfl, _, hc, rfl⟩
 | clo f v => obtain ⟨us, k1, _⟩ := id hc; subst k1; exact ⟨_, rfl, _, hc, rfl⟩
theorem d5Y : ∀ (cap : PV) (us : List Value), e5B cap = true → a1A c cap us → All2 (VOk c) (d5J cap) us
 | .pair p r, us, h, hc => by
  simp only [e5B, Bool.and_eq_true] at h
  obtain ⟨c1, c2, e, h1, h2⟩ := hc
  obtain ⟨u, e1, hu⟩ := e3U h.1 h1
  subst e1 e
  exact ⟨hu, d5Y r c2 h.2 h2⟩
 | .val .nil _, us, _, hc => by
  have : us = [] := hc
  subst this; exact trivial
 | .val (.int _) _, _, h, _ => by cases h
 | .val .bool _, _, h, _ => by cases h
 | .val .str _, _, h, _ => by cases h
 | .val (.cons _ _) _, _, h, _ => by cases h
 | .val (.arr _ _) _, _, h, _ => by cases h
 | .val (.sl _) _, _, h, _ => by cases h
 | .val .opq _, _, h, _ => by cases h
 | .nils, _, h, _ => by cases h
 | .tup _, _, h, _ => by cases h
 | .ptr _ _, _, h, _ => by cases h
 | .bptr _ _, _, h, _ => by cases h
 | .npt, _, h, _ => by cases h
 | .whole _, _, h, _ => by cases h
 | .row _ _ _, _, h, _ => by cases h
 | .aview _ _ _ _, _, h, _ => by cases h
 | .fn _, _, h, _ => by cases h
 | .iface _ _, _, h, _ => by cases h
 | .clo _ _, _, h, _ => by cases h
 | .cut _ _, _, h, _ => by cases h
 | .undef, _, h, _ => by cases h
theorem d1U (hM : Mem base G0 own0 c) {f : FuncId} {first caps : Array Operand} (ho : o.op = .makeFunc (.func f) first caps) (h0 : first.size = 0) {args : List PV} (h1 : args.all f1M = true) (ha : All2 (VOk c) args ((first ++ caps).toList.map a.eval)) :
  a4B P base G0 own0 o a c (f7D f args) [] := by
 have hf : first = #[] := Array.eq_empty_of_size_eq_zero h0
 subst hf
 simp only [Array.empty_append] at ha
 have hr : (execOp a.eval o).run P c.w = .ok (.value (.func (.func f) #[] (caps.toList.map a.eval).toArray)) c.w := by
  have hc : caps.map a.eval = (caps.toList.map a.eval).toArray := by apply Array.ext'; simp
  simp [execOp, ho, Instr.makeFunc, Sem.run_bind, Sem.run_pure, Result.andThen_ok, hc]
 refine a1F hM hr ?_
 cases args with
 | nil =>
  cases hc : caps.toList.map a.eval with
  | nil => exact ⟨_, rfl, rfl⟩
  | cons u us => rw [hc] at ha; exact ha.elim
 | cons p l => exact ⟨_, ⟨_, rfl, d1B (p :: l) _ h1 ha⟩, rfl⟩
theorem d3Q (hM : Mem base G0 own0 c) {x : PV} (hs : b4Z x = false) {n : Nat} (hl : a7B c.H x = some n) {v : Value} (hv : VOk c x v) : ∃ ad cap, v = .slice ad n cap ∧ (n ≠ 0 → ad ≠ none) := by
 cases x with
 | nils =>
  simp only [a7B, Option.some.injEq] at hl
  subst hl
  obtain ⟨cs, h1, h2⟩ := hv
  simp only [a1A] at h1
  subst h1
  exact ⟨none, 0, h2, fun h => absurd rfl h⟩
 | val t y =>
  cases t with
  | sl t =>
   simp only [a7B, Option.some.injEq] at hl
   subst hl
   obtain ⟨cs, ⟨ad, cap, rfl, hcap, hlim, hr⟩, hv⟩ := hv
   refine ⟨ad, cap, hv, fun hne => ?_⟩
   rcases hr with hr | ⟨q, rfl, _⟩
   ·
    have hr : (show List t.D from y) = [] := hr
    exact absurd (by show List.length (show List t.D from y) = 0; rw [hr]; rfl) hne
   ·
    simp
  | str => cases hs
  | _ => simp [a7B] at hl
 | whole b =>
  obtain ⟨cs, ⟨u, rfl, _, hw⟩, hv⟩ := hv
  have hB := hM.blk b
  simp only [a7B] at hl
  unfold a8I at hw
  unfold BlkOk at hB
  cases hb : a0J c.H b with
  | row t l =>
   simp only [hb, Option.some.injEq, a0O] at hl hw hB
   subst hl
   obtain ⟨hlim, e, xs, hown, _⟩ := hB
   have hv : v = u := hv
   rcases a6W hown with ⟨e1, e2, _⟩ | ⟨g, cap, cur, e1, e2, e3, _⟩
   ·
    exact ⟨none, 0, by rw [hv, hw, e1, e2], fun h => absurd e2 h⟩
   ·
    exact ⟨_, cap, by rw [hv, hw, e1], fun _ => by simp⟩
  | _ => simp [hb] at hl
 | row b lo m =>
  obtain ⟨cs, ⟨u, rfl, _, hw⟩, hv⟩ := hv
  simp only [a7B] at hl
  unfold c0P at hw
  cases hb : a0J c.H b with
  | row t l =>
   simp only [hb, Option.some.injEq] at hl hw
   subst hl
   have hv : v = u := hv
   obtain ⟨hle, ⟨rfl, ad, cap, rfl⟩ | ⟨r, cap, cap', _, rfl, hn⟩⟩ := hw
   ·
    exact ⟨ad, cap, hv, fun h => absurd rfl h⟩
   ·
    exact ⟨_, cap', hv, fun _ => by simp⟩
  | _ => simp [hb] at hl
 | aview b p lo m =>
  obtain ⟨cs, ⟨u, rfl, _, hw⟩, hv⟩ := hv
  simp only [a7B] at hl
  unfold b5D at hw
  cases hb : a0J c.H b with
  | box t l =>
   simp only [hb, Option.some.injEq] at hl hw
   subst hl
   have hv : v = u := hv
   obtain ⟨r, off, k, t', _, _, hle, hlim, ⟨rfl, ad, cap, rfl⟩ | ⟨cap, rfl, hn, _⟩⟩ := hw
   ·
    exact ⟨ad, cap, hv, fun h => absurd rfl h⟩
   ·
    exact ⟨_, cap, hv, fun _ => by simp⟩
  | _ => simp [hb] at hl
 | _ => simp [a7B] at hl
def d0H (op : BinOp) (b : Bool) : Bool := match op with | .eql => b | _ => !b
theorem c4B {id e : TypeId} (hu : P.underlying id = some (.slice e)) (d : Nat) (ad : Option Addr) (n cap : Nat) (w : World) : (Op.equalIn (d + 1) id (.slice ad n cap) (.slice none 0 0)).run P w = .ok ad.isNone w := by
 simp only [Op.equalIn, Sem.run_bind, run_underlying hu, Result.andThen_ok]
 cases ad <;> rfl
theorem d8M {op : BinOp} {id : TypeId} {e : TypeId} (hu : P.underlying id = some (.slice e)) {x y : Operand} {yt : TypeId} (ho : o.op = .binOp op id x y yt) (hop : op = .eql ∨ op = .neq) {ad : Option Addr} {n cap : Nat} (hx : a.eval x = .slice ad n cap) (hy : a.eval y = .slice none 0 0) (w : World) :
  (execOp a.eval o).run P w = .ok (.value (.bool (d0H op ad.isNone))) w := by
 have he : (Op.equal id (.slice ad n cap) (.slice none 0 0)).run P w = .ok ad.isNone w := by
  exact c4B hu 9999 ad n cap w
 rcases hop with rfl | rfl
 ·
  have : (binOp .eql id (.slice ad n cap) (.slice none 0 0)).run P w = .ok (.bool ad.isNone) w := by
   show (do pure (.bool (← Op.equal id (.slice ad n cap) (.slice none 0 0))) : Sem Value).run P w = _
   simp only [Sem.run_bind, he, Result.andThen_ok, Sem.run_pure]
  simp only [execOp, ho, hx, hy, Sem.run_bind]
  simp [eqGuard, this, d0H]
 ·
  have : (binOp .neq id (.slice ad n cap) (.slice none 0 0)).run P w = .ok (.bool (!ad.isNone)) w := by
   show (do pure (.bool (!(← Op.equal id (.slice ad n cap) (.slice none 0 0)))) : Sem Value).run P w = _
   simp only [Sem.run_bind, he, Result.andThen_ok, Sem.run_pure]
  simp only [execOp, ho, hx, hy, Sem.run_bind]
  simp [eqGuard, this, d0H]
theorem g2O {R : Type} {T : R → Prop} {fail : R} (hf : ¬ T fail) (hM : Mem base G0 own0 c) {op : BinOp} {x : PV} {K : PV → R} (h : T (e0S fail op c.H x K)) {v : Value} (hv : VOk c x v) :
  (op = .eql ∨ op = .neq) ∧ ∃ ad n cap, v = .slice ad n cap ∧ T (K (.val .bool (d0H op ad.isNone))) := by
 have hno : ∀ {p : Prop}, T fail → p := fun h => absurd h hf
 have brn_ok : ∀ {b : Bool} {p q : R}, T (brn b p q) → (b = true ∧ T p) ∨ (b = false ∧ T q) := by
  intro b p q h
  cases b
  ·
   exact .inr ⟨rfl, h⟩
  ·
   exact .inl ⟨rfl, h⟩
 have key : ∀ (n : Nat) (r1 r2 : Bool), b4Z x = false → a7B c.H x = some n → T (brn (c2R n) (both fail (K (.val .bool r1)) (K (.val .bool r2))) (K (.val .bool r2))) → ∃ ad n cap, v = .slice ad n cap ∧ T (K (.val .bool r2)) ∧ (ad.isNone = true → T (K (.val .bool r1))) := by
  intro n r1 r2 hs hl h
  obtain ⟨ad, cap, hva, hne⟩ := d3Q hM hs hl hv
  rcases brn_ok h with ⟨h0, h⟩ | ⟨h0, h⟩
  ·
   obtain ⟨k1, k2⟩ := f2R hf h
   exact ⟨ad, n, cap, hva, k2, fun _ => k1⟩
  ·
   refine ⟨ad, n, cap, hva, h, fun hn => ?_⟩
   have : n ≠ 0 := fun e => by subst e; cases h0
   have := hne this
   cases ad with
   | none => exact absurd rfl this
   | some _ => cases hn
 have nils : x = .nils → v = .slice none 0 0 := by
  rintro rfl
  obtain ⟨cs, h1, h2⟩ := hv
  simp only [a1A] at h1
  subst h1; exact h2
 unfold e0S at h
 cases op with
 | eql =>
  refine ⟨.inl rfl, ?_⟩
  simp only at h
  split at h
  ·
   exact ⟨none, 0, 0, nils rfl, h⟩
  ·
   cases hs : b4Z x with
   | true => simp only [hs] at h; exact hno h
   | false =>
    simp only [hs] at h
    cases hl : a7B c.H x with
    | some n =>
     simp only [hl] at h
     obtain ⟨ad, n, cap, e, k1, k2⟩ := key n true false hs hl h
     refine ⟨ad, n, cap, e, ?_⟩
     cases ad with
     | none => exact k2 rfl
     | some _ => exact k1
    | none => simp only [hl] at h; exact hno h
 | neq =>
  refine ⟨.inr rfl, ?_⟩
  simp only at h
  split at h
  ·
   exact ⟨none, 0, 0, nils rfl, h⟩
  ·
   cases hs : b4Z x with
   | true => simp only [hs] at h; exact hno h
   | false =>
    simp only [hs] at h
    cases hl : a7B c.H x with
    | some n =>
     simp only [hl] at h
     obtain ⟨ad, n, cap, e, k1, k2⟩ := key n false true hs hl h
     refine ⟨ad, n, cap, e, ?_⟩
     cases ad with
     | none => exact k2 rfl
     | some _ => exact k1
    | none => simp only [hl] at h; exact hno h
 | _ => exact hno h
theorem f1V {b k : Nat} {v : Value} (h : VOk c (.cut b k) v) : VOk c (.row b 0 k) v := by
 obtain ⟨cs, ⟨u, e, h1, hw⟩, h2⟩ := h
 subst e
 have h2 : v = u := h2
 subst h2
 refine ⟨[v], ⟨v, rfl, h1, ?_⟩, rfl⟩
 unfold c9T at hw
 unfold c0P
 cases hb : a0J c.H b with
 | row t l =>
  simp only [hb] at hw ⊢
  obtain ⟨hk, ad, hv, hr⟩ := hw
  refine ⟨by omega, ?_⟩
  rcases hr with rfl | ⟨r, cap, e1, rfl⟩
  ·
   exact .inl ⟨rfl, ad, 0, hv⟩
  ·
   exact .inr ⟨r, cap, k, e1, by rw [hv, Nat.zero_mul], Nat.le_refl _⟩
 | dead => trivial
 | unborn => simp [hb] at hw
 | box t l => simp [hb] at hw
theorem d0E (hM : Mem base G0 own0 c) {id : TypeId} {x hi mx : Operand} (ho : o.op = .slice id x none (some hi) (some mx)) {t : Ty} (ht : TOk P (.sl t) id) {b : Nat} {l : List t.D} (hbl : a0J c.H b = .row t l) {k k' : IntKind} {i : I k} {j : I k'}
  (h1 : inB' i l.length = true) (h2 : i.val = j.val) (hx : VOk c (.whole b) (a.eval x)) (hh : VOk c (.val (.int k) i) (a.eval hi)) (hm : VOk c (.val (.int k') j) (a.eval mx)) : a4B P base G0 own0 o a c (.cut b i.nat) [] := by
 obtain ⟨cs, ⟨u, rfl, _, hw⟩, hv⟩ := hx
 have hB := hM.blk b
 unfold a8I at hw
 unfold BlkOk at hB
 simp only [hbl] at hw hB
 obtain ⟨hlim, e, xs, hown, _⟩ := hB
 have hv : a.eval x = u := hv
 have hh := b1E hh
 have hm := b1E hm
 obtain ⟨q1, q2, q3, q4⟩ := inB'_iff h1
 have hj : inB' j l.length = true := by simp only [inB', Bool.and_eq_true, decide_eq_true_eq]; omega
 have hji : inB' i j.nat = true := by have := inB'_iff hj; simp only [inB', Bool.and_eq_true, decide_eq_true_eq]; omega
 have hjn : j.nat = i.nat := by have := inB'_iff hj; omega
 obtain ⟨_, e', hu, he⟩ := ht
 have run : ∀ (ad : Option Addr) (cap : Nat), l.length ≤ cap → (Instr.sliceAt id (.slice ad l.length cap) none (some (.int k i.val)) (some (.int k' j.val))).run P c.w = .ok (.slice (if i.nat = 0 then ad else ad.map (·.add 0)) i.nat i.nat) c.w := by
  intro ad cap hcap
  have hb : (Instr.sliceBounds true l.length cap none (some (.int k i.val)) (some (.int k' j.val))).run P c.w = .ok (0, i.nat, i.nat) c.w := by
   have r1 := b5W (P := P) hj hcap .slice3Acap c.w
   have r2 := b5W (P := P) hji (Nat.le_refl _) .slice3B c.w
   rw [hjn] at r2
   simp only [Instr.sliceBounds, Sem.run_bind, if_true, r1, Result.andThen_ok, r2, Sem.run_pure, hjn]
  unfold Instr.sliceAt
  rw [Sem.run_bind, run_underlying hu, Result.andThen_ok]
  unfold Instr.slice
  simp only [Sem.run_bind, run_underlying hu, Result.andThen_ok, hb, he.run_size, Sem.run_pure, Nat.sub_zero, Nat.zero_mul]
 have fin : ∀ (ad : Option Addr) (cap : Nat), a.eval x = .slice ad l.length cap → l.length ≤ cap → (i.nat = 0 ∨ ∃ r, ad = some ⟨r, 0, none⟩ ∧ c.ρ b = .slice (some ⟨r, 0, none⟩) l.length cap) → a4B P base G0 own0 o a c (.cut b i.nat) [] := by
  intro ad cap hva hcap hr
  refine a1F hM (v := .slice (if i.nat = 0 then ad else ad.map (·.add 0)) i.nat i.nat) ?_ ⟨[_], ⟨_, rfl, rfl, ?_⟩, rfl⟩
  ·
   simp only [execOp, ho, hva, Option.map_none, Option.map_some, hh, hm, Sem.run_bind, run ad cap hcap, Result.andThen_ok, Sem.run_pure]
  ·
   unfold c9T
   simp only [hbl]
   refine ⟨q3, _, rfl, ?_⟩
   rcases hr with h0 | ⟨r, rfl, hρ⟩
   ·
    exact .inl h0
   ·
    by_cases h0 : i.nat = 0
    ·
     exact .inl h0
    ·
     exact .inr ⟨r, cap, hρ, by rw [if_neg h0]; simp [add_lit]⟩
 rcases a6W hown with ⟨e1, e2, _⟩ | ⟨g, cap, cur, e1, e2, e3, _⟩
 ·
  exact fin none 0 (by rw [hv, hw, e1, e2]) (by omega) (.inl (by omega))
 ·
  exact fin _ cap (by rw [hv, hw, e1]) e3 (.inr ⟨g, rfl, e1⟩)
end
end Sym

/- Laws: slices of nothing told as rows of the call's own; append to a row cut short; methods of interfaces. -/
namespace Sym
open Go
theorem b6E : ∀ (δ : List (Nat × Blk)) (H : List Blk) (j : Nat), (∀ p ∈ δ, p.1 ≠ j) → a0J (a2B H δ) j = a0J H j
 | [], _, _, _ => rfl
 | (i, b) :: δ, H, j, h => by
  simp only [a2B]
  rw [b6E δ _ j fun p hp => h p (by simp [hp]), a4Q, if_neg]
  intro e
  exact h (i, b) (by simp) e.symm
theorem c0Z : ∀ (t : Ty) (v : PV) (nb : Nat), ∀ p ∈ (a3A t v nb).2, nb ≤ p.1 ∧ p.1 < nb + (a3A t v nb).2.length := by
 intro t
 induction t with
 | cons a b iha ihb =>
  intro v nb p hp
  cases v with
  | pair x y =>
   simp only [a3A, List.mem_append, List.length_append] at hp ⊢
   rcases hp with hp | hp
   ·
    have := iha x nb p hp; omega
   ·
    have := ihb y _ p hp; omega
  | _ => simp [a3A] at hp
 | sl t _ =>
  intro v nb p hp
  cases v with
  | nils => simp only [a3A, List.mem_singleton] at hp; subst hp; simp [a3A]
  | _ => simp [a3A] at hp
 | _ => intro v nb p hp; cases v <;> simp [a3A] at hp
theorem e4T : ∀ (t : Ty) (v : PV) (nb : Nat), fits v t = true → fits (a3A t v nb).1 t = true := by
 intro t
 induction t with
 | cons a b iha ihb =>
  intro v nb h
  cases v with
  | pair x y =>
   simp only [fits, Bool.and_eq_true] at h
   simp only [a3A, fits, Bool.and_eq_true]
   exact ⟨iha x _ h.1, ihb y _ h.2⟩
  | _ => exact h
 | sl t _ =>
  intro v nb h
  cases v with
  | nils => rfl
  | _ => exact h
 | _ => intro v nb h; cases v <;> exact h
theorem d9W : ∀ (t : Ty) (v : PV) (nb : Nat), a3L (a3A t v nb).1 = a3L v := by
 intro t v nb
 cases t <;> cases v <;> rfl
section
variable {P : Program} {base : World} {G0 own0 : Nat → Prop} {o : Oper} {a : Act}
theorem d5M : ∀ (t : Ty) (v : PV) (nb : Nat) (c : Cx) (cs : List Value), Mem base G0 own0 c → (∀ p ∈ (a3A t v nb).2, a0J c.H p.1 = .unborn) → a1A c v cs →
  ∃ c', c'.w = c.w ∧ c'.H = a2B c.H (a3A t v nb).2 ∧ Ext c c' ∧ Mem base G0 own0 c' ∧ a1A c' (a3A t v nb).1 cs := by
 intro t
 have triv : ∀ (v : PV) (c : Cx) (cs : List Value), Mem base G0 own0 c → a1A c v cs → ∃ c', c'.w = c.w ∧ c'.H = a2B c.H [] ∧ Ext c c' ∧ Mem base G0 own0 c' ∧ a1A c' v cs := fun v c cs hM h => ⟨c, rfl, rfl, Ext.refl c, hM, h⟩
 induction t with
 | cons x y ihx ihy =>
  intro v nb c cs hM hn hc
  cases v with
  | pair p q =>
   obtain ⟨c1, c2, e, h1, h2⟩ := hc
   subst e
   simp only [a3A] at hn ⊢
   obtain ⟨d1, w1, H1, E1, M1, k1⟩ := ihx p nb c c1 hM (fun r hr => hn r (by simp [hr])) h1
   obtain ⟨d2, w2, H2, E2, M2, k2⟩ := ihy q (nb + (a3A x p nb).2.length) d1 c2 M1 (fun r hr => by
    have hk := c0Z y q _ r hr
    rw [H1, b6E _ _ _ fun p' hp' => ?_]
    ·
     exact hn r (by simp [hr])
    ·
     have := c0Z x p nb p' hp'; omega) (b3Z E1 _ _ h2)
   exact ⟨d2, w2.trans w1, by rw [H2, H1, a5Y], E1.trans E2, M2, c1, c2, rfl, b3Z E2 _ _ k1, k2⟩
  | _ => exact triv _ c cs hM hc
 | sl t _ =>
  intro v nb c cs hM hn hc
  cases v with
  | nils =>
   have hc : cs = [.slice none 0 0] := hc
   subst hc
   obtain ⟨c', h1, h2, h3, h4, h5⟩ := mem_row hM (hn (nb, .row t []) (List.mem_singleton.2 rfl)) (w' := c.w) (hd := .slice none 0 0) (t := t) (l := []) (e := 0) (xs := []) none ⟨rfl, rfl, rfl, Nat.le_refl _, fun _ _ _ => rfl⟩
    ⟨by simp, .inl ⟨rfl, rfl⟩⟩ rfl (Nat.zero_le _) none (fun i h => by cases h) (fun r h => by cases h) (fun r h => by cases h)
   refine ⟨c', h1, h2, h3, h4, ?_⟩
   obtain ⟨cs', k1, k2⟩ := h5
   obtain ⟨u, e, k3⟩ := k1
   subst e
   have k2 : (Value.slice none 0 0) = u := k2
   subst k2
   exact ⟨_, rfl, k3⟩
  | _ => exact triv _ c cs hM hc
 | _ => intro v nb c cs hM hn hc; cases v <;> exact triv _ c cs hM hc
variable {c : Cx}
theorem e0I (t : Ty) {pv : PV} {nb : Nat} (hp : b5Z pv = true) (hn : ∀ p ∈ (a3A t pv nb).2, a0J c.H p.1 = .unborn) (h : a4B P base G0 own0 o a c pv []) : a4B P base G0 own0 o a c (a3A t pv nb).1 (a3A t pv nb).2 := by
 intro K Q hK
 refine h K Q fun v c' hE hM' hH hv => ?_
 obtain ⟨cs, k1, k2⟩ := plain_cells' hv hp
 obtain ⟨c2, g1, g2, g3, g4, g5⟩ := d5M t pv nb c' cs hM' (by rw [show c'.H = c.H from hH]; exact hn) k1
 have := hK v c2 (hE.trans g3) g4 (by rw [g2, hH]; rfl) (by rw [k2, ← d9W t pv nb]; exact c5D g5)
 rw [g1] at this
 exact this
theorem c9C (hM : Mem base G0 own0 c) {id : TypeId} (ho : o.op = .alloc id) {t : Ty} (ht : TI P id t) (hz : t.zOk = true) (hq : t ≠ .opq) {nb : Nat} (hn : ∀ p ∈ (a3A t (b0J t) nb).2, a0J c.H p.1 = .unborn) (hn2 : a0J c.H (nb + (a3A t (b0J t) nb).2.length) = .unborn) :
  a4B P base G0 own0 o a c (.ptr (nb + (a3A t (b0J t) nb).2.length) []) ((a3A t (b0J t) nb).2 ++ [(nb + (a3A t (b0J t) nb).2.length, .box t (a3A t (b0J t) nb).1)]) := by
 obtain ⟨c1, g1, g2, g3, g4, g5⟩ := d5M t (b0J t) nb c _ hM hn (b7R (c := c) t hz).1
 have hn3 : a0J c1.H (nb + (a3A t (b0J t) nb).2.length) = .unborn := by
  rw [g2, b6E _ _ _ fun p hp => ?_]
  ·
   exact hn2
  ·
   have := c0Z _ _ _ p hp; omega
 obtain ⟨c', h1, h2, h3, h4, h5⟩ := d4L g4 hn3 id g5 (e4T _ _ _ (b7R (c := c) t hz).2)
 rw [g1] at h1 h5
 refine a5L (c' := c') ?_ (g3.trans h3) h4 (by rw [h2, g2, a5Y]) h5
 rw [h1]
 have := a6X (a3T t) (a9R t)
 have hr := ht.run_zero hq c.w
 simp [execOp, ho, Instr.alloc, hr, newVar, newRow, mkZ, this]
theorem c9E (hM : Mem base G0 own0 c) {id : TypeId} {x : Operand} {hi : Option Operand} (ho : o.op = .slice id x none hi none) {t : Ty} (ht : TOk P (.sl t) id) {bs : List PV} (ha : All2 (VOk c) bs (([] : List Value) ++ hi.toList.map a.eval))
  {b : Nat} {l : List t.D} (hbl : a0J c.H b = .row t l) {n : Nat} {b1 b2 : Bool × Nat} (hb : a8B (a7B c.H (.whole b)) false hi.isSome bs = some (n, b1, b2)) (h1 : b1.1 = true) (h2 : b2.1 = true) (hx : VOk c (.whole b) (a.eval x)) {nb : Nat} (hn : a0J c.H nb = .unborn) :
  a4B P base G0 own0 o a c (.whole nb) [(b, .dead), (nb, .row t (a6E l 0 b2.2))] := by
 obtain ⟨cs, ⟨u, rfl, _, hw⟩, hv⟩ := hx
 have hB := hM.blk b
 unfold a8I at hw
 unfold BlkOk at hB
 simp only [hbl] at hw hB
 obtain ⟨hlim, e, xs, hown, hxs⟩ := hB
 have hl0 := b7W (fun x cs => a2L t x cs) l xs hxs
 have hbn := (a5K (P := P) none hi bs ha hb h1 h2 true n (Nat.le_refl _) c.w).2.2.2
 simp only [a7B, hbl, Option.some.injEq, a0O] at hbn
 have hv : a.eval x = u := hv
 have hb10 : b1.2 = 0 := by
  unfold a8B at hb
  split at hb
  ·
   cases hb
  ·
   cases hhi : hi.isSome <;> rw [hhi] at hb <;> (split at hb <;> first | (simp only [Option.some.injEq, Prod.mk.injEq] at hb; obtain ⟨_, rfl, _⟩ := hb; rfl) | contradiction | (exact absurd hb (by simp)))
 have hbnb : b ≠ nb := by rintro rfl; rw [hbl] at hn; cases hn
 have hsub : a6E l 0 b2.2 = l.take b2.2 := by simp [a6E]
 have fin : ∀ (ad : Option Addr) (cap : Nat), a.eval x = .slice ad l.length cap → c.ρ b = .slice ad l.length cap → l.length ≤ cap → ((ad = none ∧ cap = 0) ∨ ∃ g cur, ad = some ⟨g, 0, none⟩ ∧ c.w.heap[g]? = some (.cells cur e (0, 0)) ∧ cap ≤ maxLen ∧ cur.size = cap * t.sz ∧ cur.toList.take (l.length * t.sz) = xs) → a4B P base G0 own0 o a c (.whole nb) [(b, .dead), (nb, .row t (a6E l 0 b2.2))] := by
  intro ad cap hva hρ hcap hr
  obtain ⟨hr1, hle, hle', _⟩ := a5K (P := P) none hi bs ha hb h1 h2 true cap (by omega) c.w
  rw [hb10] at hr1
  have hrun := b0F ht ad l.length cap 0 b2.2 none (hi.map a.eval) c.w (by rw [hbn]; exact hr1)
  have hval : (Value.slice (if cap = 0 then ad else ad.map (·.add (0 * t.sz))) (b2.2 - 0) (cap - 0)) = .slice ad b2.2 cap := by
   rcases hr with ⟨rfl, rfl⟩ | ⟨g, cur, rfl, _⟩
   ·
    rfl
   ·
    by_cases h0 : cap = 0
    ·
     rw [if_pos h0]; rfl
    ·
     rw [if_neg h0, Nat.zero_mul]; simp [add_lit]
  rw [hval] at hrun
  have hlen : (l.take b2.2).length = b2.2 := by rw [List.length_take]; omega
  have hxt : b3K (Enc c.w c.G t) (l.take b2.2) (xs.take (b2.2 * t.sz)) := by
   have : ∀ (n : Nat) (l : List t.D) (xs : List Value), b3K (Enc c.w c.G t) l xs → b3K (Enc c.w c.G t) (l.take n) (xs.take (n * t.sz)) := by
    intro n
    induction n with
    | zero => intro l xs _; simp [b3K]
    | succ n ih =>
     intro l xs h
     cases l with
     | nil => simp only [b3K] at h; subst h; simp [b3K]
     | cons y l =>
      obtain ⟨c1, c2, rfl, k1, k2⟩ := h
      have hs := a2L _ _ _ k1
      refine ⟨c1, c2.take (n * t.sz), ?_, k1, ih l c2 k2⟩
      rw [Nat.succ_mul, List.take_append, List.take_of_length_le (by omega), show n * t.sz + t.sz - c1.length = n * t.sz by omega]
   exact this _ l xs hxs
  have hown' : c.w.ownsRow 0 e t.sz (.slice ad b2.2 cap) (l.take b2.2).length (xs.take (b2.2 * t.sz)) := by
   rw [hlen]
   refine ⟨by rw [List.length_take, hl0]; exact Nat.min_eq_left (Nat.mul_le_mul_right _ (by omega)), ?_⟩
   rcases hr with ⟨rfl, rfl⟩ | ⟨g, cur, rfl, k1, k2, k3, k4⟩
   ·
    left; have : b2.2 = 0 := by omega
    rw [this]; exact ⟨rfl, rfl⟩
   ·
    right
    refine ⟨g, cap, cur, rfl, Nat.zero_le _, k1, by omega, k2, k3, ?_⟩
    rw [← k4, List.take_take, Nat.min_eq_left (Nat.mul_le_mul_right _ (by omega))]
  obtain ⟨c', q1, q2, q3, q4, q5⟩ := mem_row hM hn (w' := c.w) (hd := .slice ad b2.2 cap) (t := t) (l := l.take b2.2) none ⟨rfl, rfl, rfl, Nat.le_refl _, fun _ _ _ => rfl⟩ hown' hxt (by omega) (some b)
   (fun i h => by cases h; exact ⟨by rw [hbl]; rfl, hbnb⟩) (fun r h => by cases h) (fun r h => .inr ⟨b, rfl, by
    rw [hρ]
    rcases hr with ⟨rfl, rfl⟩ | ⟨g, cur, rfl, _⟩
    ·
     cases h
    ·
     exact h⟩)
  rw [hsub]
  refine a5L (c' := c') ?_ q3 q4 q2 q5
  rw [q1, b1Z ho, hva]
  simp only [Sem.run_bind]
  rw [show (none : Option Operand).map a.eval = none from rfl, hrun]
  rfl
 rcases a6W hown with ⟨e1, e2, _⟩ | ⟨g, cap, cur, e1, e2, e3, e4, e5, e6, _⟩
 ·
  exact fin none 0 (by rw [hv, hw, e1, e2]) (by rw [e1, e2]) (by omega) (.inl ⟨rfl, rfl⟩)
 ·
  exact fin _ cap (by rw [hv, hw, e1]) e1 e3 (.inr ⟨g, cur, rfl, e2, e4, e5, e6⟩)
theorem c5E (hM : Mem base G0 own0 c) {k : Call} {x y : Operand} (ho : o.op = .call k) (hk : k.callee = .builtin .append) (hargs : k.args = #[x, y]) {id : TypeId} (hat : k.argTypes = #[id, id]) {t : Ty} (ht : TI P id (.sl t))
  {py : PV} {ys : List t.D} {lent : List Nat} {b n : Nat} {l : List t.D} (hb : a0J c.H b = .row t l) (hx : VOk c (.cut b n) (a.eval x)) (hy : VOk c py (a.eval y)) (hv : a3R c.H (.sl t) py = some (ys, lent)) (h0 : ys.length = 0) :
  a4B P base G0 own0 o a c (.row b 0 n) [] := by
 obtain ⟨e, hu, he, i, hi, hby, hz⟩ := ht.elem t rfl
 obtain ⟨us, _, hvu, hen⟩ := b7B hM hy hv
 obtain ⟨ad, cap, news, rfl, hnl, hne1, hfc⟩ := b2L (P := P) hen
 have hyv : a.eval y = .slice ad ys.length cap := hvu
 have hr := f1V hx
 obtain ⟨cs, ⟨v, rfl, _, hw⟩, hxv⟩ := hx
 have hB := hM.blk b
 unfold BlkOk at hB
 unfold c9T at hw
 simp only [hb] at hw hB
 obtain ⟨_, e0, xs, hown0, _⟩ := hB
 obtain ⟨hnl2, ad2, hv3, had⟩ := hw
 have hxv : a.eval x = .slice ad2 n n := by rw [← hv3]; exact hxv
 have hs : i.size = t.sz := by have := he.size; simp [Program.cellsOf, hi] at this; exact this
 have hnews : news = [] := List.eq_nil_of_length_eq_zero (by rw [hnl, h0]; simp)
 subst hnews
 have hf := hfc c.w (fun _ => rfl)
 rw [h0] at hf hyv
 refine a1F hM (v := a.eval x) ?_ hr
 rw [b6D ho hk hargs, hat, hxv, hyv]
 cases ad2 with
 | none => simp [Builtin.append_, run_underlying hu, Go.sizeOf, typeInfo, hi, hs, c5Z, hf]
 | some q => simp [Builtin.append_, run_underlying hu, Go.sizeOf, typeInfo, hi, hs, c5Z, hf, storeCells]
theorem c6N (hM : Mem base G0 own0 c) {k : Call} {x y : Operand} (ho : o.op = .call k) (hk : k.callee = .builtin .append) (hargs : k.args = #[x, y]) {id : TypeId} (hat : k.argTypes = #[id, id]) {t : Ty} (ht : TI P id (.sl t)) (hq : t.noOpq = true) (hsz : 1 ≤ t.sz)
  {py : PV} {ys : List t.D} {lent : List Nat} {b n : Nat} {l : List t.D} (hb : a0J c.H b = .row t l) (hnb : b ∉ lent) (hx : VOk c (.cut b n) (a.eval x)) (hy : VOk c py (a.eval y)) (hv : a3R c.H (.sl t) py = some (ys, lent)) (hne : ys.length ≠ 0) (hfl : a2P (l.take n ++ ys).length = true) {nb : Nat} (hn : a0J c.H nb = .unborn) :
  a4B P base G0 own0 o a c (.whole nb) (kill (c2Y t lent) ++ [(nb, .row t (l.take n ++ ys))]) := by
 obtain ⟨e, hu, he, i, hi, hby, hz⟩ := ht.elem t rfl
 have hz := hz.resolve_right (by rintro rfl; cases hq)
 obtain ⟨us, _, hvu, hen⟩ := b7B hM hy hv
 obtain ⟨ad, cap, news, rfl, hnl, hne1, hfc⟩ := b2L (P := P) hen
 have hyv : a.eval y = .slice ad ys.length cap := hvu
 obtain ⟨c1, h1, h2, h3, h4, h5, h6, h7⟩ := f1J hM t lent (a9T _ _ _ _ _ hv)
 have hx1 := c5N h4 hx
 have hb1 := (h6 b hnb).trans hb
 obtain ⟨cs, ⟨v, rfl, _, hw⟩, hxv2⟩ := hx1
 unfold c9T at hw
 simp only [hb1] at hw
 obtain ⟨hnl2, ad2, hv3, had⟩ := hw
 have hxv : a.eval x = .slice ad2 n n := by rw [← hv3]; exact hxv2
 have hB := h5.blk b
 unfold BlkOk at hB
 simp only [hb1] at hB
 obtain ⟨_, e0, xs, hown0, hxs⟩ := hB
 obtain ⟨olds, hol0⟩ : ∃ olds, olds = xs.take (n * t.sz) := ⟨_, rfl⟩
 have hol : olds.length = n * t.sz := by rw [hol0, List.length_take, hown0.1]; exact Nat.min_eq_left (Nat.mul_le_mul_right _ (by omega))
 have hofc : (Builtin.firstCells t.sz n (.slice ad2 n n)).run P c1.w.drew = .ok olds.toArray c1.w.drew := by
  rcases Nat.eq_zero_or_pos n with h0 | h0
  ·
   subst h0
   have : olds = [] := List.eq_nil_of_length_eq_zero (by rw [hol]; simp)
   subst this
   cases ad2 with
   | none => simp [Builtin.firstCells]
   | some q => simp [Builtin.firstCells, loadCells, loadCellsFrom]
  ·
   rcases had with h | ⟨r, cap0, e1, e2⟩
   ·
    omega
   ·
    subst e2
    rcases a6W hown0 with ⟨e3, _⟩ | ⟨g, cap1, cur, e3, e4, e5, e6, e7, e8, e9⟩
    ·
     rw [e3] at e1; cases e1
    ·
     rw [e3] at e1
     injection e1 with e1 _ _
     injection e1 with e1
     injection e1 with e1 _ _
     subst e1
     refine run_firstCells_some (P := P) c1.w.drew t.sz n ⟨g, 0, none⟩ n n olds hol fun j v hj => ?_
     rw [hol0, List.getElem?_take] at hj
     split at hj
     ·
      rw [add_lit]
      have := e9 j v hj
      rw [World.cell?_drew]
      simp only [World.cell?, e4, Option.isSome_none, Bool.false_eq_true, if_false]
      exact this
     ·
      cases hj
 have hxt : b3K (Enc c1.w c1.G t) (l.take n) olds := by
  have : ∀ (n : Nat) (l : List t.D) (xs : List Value), b3K (Enc c1.w c1.G t) l xs → b3K (Enc c1.w c1.G t) (l.take n) (xs.take (n * t.sz)) := by
   intro n
   induction n with
   | zero => intro l xs _; simp [b3K]
   | succ n ih =>
    intro l xs h
    cases l with
    | nil => simp only [b3K] at h; subst h; simp [b3K]
    | cons y l =>
     obtain ⟨c1', c2', rfl, k1, k2⟩ := h
     have hs := a2L _ _ _ k1
     refine ⟨c1', c2'.take (n * t.sz), ?_, k1, ih l c2' k2⟩
     rw [Nat.succ_mul, List.take_append, List.take_of_length_le (by omega), show n * t.sz + t.sz - c1'.length = n * t.sz by omega]
  rw [hol0]
  exact this _ l xs hxs
 have hlim : n + ys.length ≤ 1073741824 := by have := d4G hfl (Nat.le_refl _); rw [List.length_append, List.length_take, Nat.min_eq_left hnl2] at this; exact this
 have hs : i.size = t.sz := by have := he.size; simp [Program.cellsOf, hi] at this; exact this
 have hzc : (mkZ t).cells = (a4V t).toArray := a6X (a3T t) (a9R t)
 have hbytes : (n + ys.length) * i.bytes ≤ 140737488355328 := Nat.le_trans (Nat.mul_le_mul hlim hby) (by decide)
 have hrun := run_append_grow' (P := P) c1.w id o.type e i (mkZ t) hu hi hz ad2 n n olds (by rw [hs]; exact hofc) (.slice ad ys.length cap) ys.length rfl news (by rw [hs]; exact hfc c1.w.drew (fun a => by rw [h1]; rfl)) (by omega) (by omega) (growslice_fits (by omega) hbytes)
 have hge := grownCap_ge c1.w (n + ys.length) n e
 have hcm : grownCap c1.w (n + ys.length) n e ≤ maxLen := grownCap_le_maxLen c1.w (n + ys.length) n e (by simp only [maxLen]; omega)
 have hnl' : nb ∉ lent := fun h => by have := a9T _ _ _ _ _ hv nb h; rw [hn] at this; cases this
 have hlen2 : (olds ++ news).length = (n + ys.length) * t.sz := by rw [List.length_append, hol, hnl, Nat.add_mul]
 obtain ⟨c2, k1, k2, k3, k4, k5⟩ := mem_row h5 ((h6 nb hnl').trans hn) (w' := c1.w.drew.alloc (.cells (olds ++ news ++ (Builtin.zeroCells (mkZ t).cells (grownCap c1.w (n + ys.length) n e - (n + ys.length))).toList).toArray e)) (t := t) (l := l.take n ++ ys) (e := e) (xs := olds ++ news) none ⟨rfl, rfl, rfl, by simp, fun k hk _ => b6L c1.w.drew _ hk⟩
  (hd := .slice (some ⟨c1.w.heap.size, 0, none⟩) (n + ys.length) (grownCap c1.w (n + ys.length) n e))
  (by
   rw [List.length_append, List.length_take, Nat.min_eq_left hnl2]
   refine ⟨hlen2, .inr ⟨c1.w.heap.size, _, _, rfl, Nat.zero_le _, b8F c1.w.drew _, hge, hcm, ?_, ?_⟩⟩
   ·
    simp only [List.size_toArray, List.length_append, Array.length_toList, size_zeroCells, hzc, a3T]
    rw [hol, hnl, ← Nat.add_mul, ← Nat.add_mul]
    congr 1
    omega
   ·
    simp only [List.append_assoc]
    rw [← List.append_assoc, ← hlen2]
    exact List.take_left)
  (c1B _ _ _ _ hxt (a9E (fun x cs => h7 x cs) ys news hne1)) (by rw [List.length_append, List.length_take]; simp only [LIM]; omega) none (fun i h => by cases h) (fun r h => by cases h)
  (fun r h => by simp only [a3V, Option.some.injEq] at h; left; omega)
 refine a5L (c' := c2) ?_ (h4.trans k3) k4 (by rw [k2, h2, ← a5Y]; rfl) k5
 rw [k1, b6D ho hk hargs, hat, hxv, hyv, ← h1]
 simp only [Sem.run_bind, hrun, Result.andThen_ok, Sem.run_pure]
end
end Sym

/- Calls of closures and of interfaces' methods: which function, with which arguments. -/
namespace Sym
open Go
def c2W (P : Program) (t : TypeId) (name : String) (f : FuncId) (d : Option Nat) : Prop :=
 ∃ i m e, P.info? t = some i ∧ i.methods.find? (fun x => x.name == name) = some m ∧ m.path = #[] ∧ P.underlying t = some (.pointer e) ∧
  match d with
  | none => m.func = some (f, true)
  | some e' => m.func = some (f, false) ∧ e' = e
def e1P (P : Program) (t : TypeId) (name : String) (f : FuncId) (d : Option Nat) : Bool :=
 match P.info? t, P.underlying t with
 | some i, some (.pointer e) => match i.methods.find? (fun x => x.name == name) with
  | some m => match m.path.toList, m.func, d with
   | [], some (g, true), none => Nat.beq g f
   | [], some (g, false), some e' => Nat.beq g f && Nat.beq e' e
   | _, _, _ => false
  | none => false
 | _, _ => false
theorem f3R {P : Program} {t : TypeId} {name : String} {f : FuncId} {d : Option Nat} (h : e1P P t name f d = true) : c2W P t name f d := by
 unfold e1P at h
 split at h
 ·
  rename_i i e hi hu
  split at h
  ·
   rename_i m hm
   split at h
   ·
    rename_i g hp hf
    have h := Nat.eq_of_beq_eq_true h
    subst h
    exact ⟨i, m, e, hi, hm, by apply Array.ext'; simpa using hp, hu, hf⟩
   ·
    rename_i g e' hp hf
    simp only [Bool.and_eq_true] at h
    have h1 := Nat.eq_of_beq_eq_true h.1
    have h2 := Nat.eq_of_beq_eq_true h.2
    subst h1
    exact ⟨i, m, e, hi, hm, by apply Array.ext'; simpa using hp, hu, hf, h2⟩
   ·
    cases h
  ·
   cases h
 ·
  cases h
section
variable {P : Program} {base : World} {G0 own0 : Nat → Prop} {o : Oper} {a : Act} {c : Cx}
theorem d1V (P : Program) : ∃ n, P.types.size + Made.depth = n + 1 := ⟨P.types.size + 99, rfl⟩
theorem d6T {t : TypeId} {i : TypeInfo} (h : P.info? t = some i) (w : World) : (typeInfo t).run P w = .ok i w := by
 simp [typeInfo, h]
theorem c6J {t : TypeId} {name : String} {f : FuncId} (h : c2W P t name f none) (v : Value) (w : World) : (method (P.types.size + Made.depth) t v name).run P w = .ok (f, v) w := by
 obtain ⟨n, hn⟩ := d1V P
 obtain ⟨i, m, e, hi, hm, hp, hu, hf⟩ := h
 rw [hn]
 simp only [method, Sem.run_bind, d6T hi, Result.andThen_ok, hm, hp, follow, Sem.run_pure, hf, receiverAt, run_underlying hu, Place.get]
theorem c6T {t e : TypeId} {name : String} {f : FuncId} (h : c2W P t name f (some e)) (ad : Addr) (u : Value) (w : World) (hl : (loadVar e ad).run P w = .ok u w) : (method (P.types.size + Made.depth) t (.pointer (some ad)) name).run P w = .ok (f, u) w := by
 obtain ⟨n, hn⟩ := d1V P
 obtain ⟨i, m, e', hi, hm, hp, hu, hf, rfl⟩ := h
 rw [hn]
 have hw : ∀ s, (Builtin.ssaWrapNilChk_ #[t] t #[.pointer (some ad), strVal "", strVal s]).run P w = .ok (.pointer (some ad)) w := fun s => rfl
 simp only [method, Sem.run_bind, d6T hi, Result.andThen_ok, hm, hp, follow, Sem.run_pure, hf, receiverAt, run_underlying hu, Place.get, Array.isEmpty_empty, if_true, hw, asAddr, hl]
theorem c9F {k : Call} (ho : o.op = .call k) {fo : Operand} (hk : k.callee = .value fo) {f : FuncId} {us : List Value} (hf : a.eval fo = .func (.func f) #[] us.toArray) (w : World) : (execOp a.eval o).run P w = (callFunc f (k.args.toList.map a.eval ++ us).toArray).run P w := by
 have : k.args.map a.eval ++ us.toArray = (k.args.toList.map a.eval ++ us).toArray := by apply Array.ext'; simp
 simp only [execOp, ho, resolve, hk, hf, Deferred.ofValue, Sem.run_bind, Sem.run_pure, Result.andThen_ok, invoke, Array.empty_append, this]
theorem c5A {k : Call} (ho : o.op = .call k) {r : Operand} {name : String} (hk : k.callee = .invoke r name) {t : TypeId} {v u : Value} (hr : a.eval r = .iface t v) {f : FuncId} (w : World) (hm : (method (P.types.size + Made.depth) t v name).run P w = .ok (f, u) w) :
  (execOp a.eval o).run P w = (callFunc f (u :: k.args.toList.map a.eval).toArray).run P w := by
 have h1 : (#[a.eval r] ++ k.args.map a.eval)[0]? = some (a.eval r) := by rw [Array.getElem?_append_left (by simp)]; rfl
 have h2 : (#[a.eval r] ++ k.args.map a.eval).extract 1 (#[a.eval r] ++ k.args.map a.eval).size = k.args.map a.eval := by
  apply Array.ext'
  simp
  exact List.take_of_length_le (by simp)
 have h3 : #[u] ++ k.args.map a.eval = (u :: k.args.toList.map a.eval).toArray := by apply Array.ext'; simp
 have hp : (program : Sem Program).run P w = .ok P w := rfl
 rw [hr] at h1 h2
 simp only [execOp, ho, resolve, hk, hr, Sem.run_bind, Sem.run_pure, Result.andThen_ok, invoke, h1, h2, callMethod, hp, hm, h3]
theorem f2X (hM : Mem base G0 own0 c) {id : TypeId} {t s : Ty} (ht : TOk P t id) {b : Nat} {p : List Step} {v u : PV} {x : Value} (hx : VOk c (.ptr b p) x)
  (hb : a0J c.H b = .box s v) (hti : d3G s p t = true) (hg : b1J v p = some u) : ∃ ad v', x = .pointer (some ad) ∧ (loadVar id ad).run P c.w = .ok v' c.w ∧ fits u t = true ∧ ∃ cs, a1A c u cs ∧ v' = mkV (a3L u) cs := by
 have hp := c6M hx
 have hB := hM.blk b
 unfold PtrOk at hp
 unfold BlkOk at hB
 simp only [hb] at hp hB
 obtain ⟨r, off, u', hρ, hoff, hv⟩ := hp
 obtain ⟨r', cs, e, hρ', hh, hc, hfs⟩ := hB
 rw [hρ'] at hρ
 simp only [Value.pointer.injEq, Option.some.injEq, Addr.mk.injEq] at hρ
 obtain ⟨rfl, _, _⟩ := hρ
 have := b3Q hti hoff
 subst this
 obtain ⟨hf, hcu⟩ := b5U v s cs p off u' u hc hfs hoff hg
 have hl := a4Z _ _ _ hcu hf
 exact ⟨_, _, hv, b4K ht c.w r' off _ hl (c1G hh), hf, _, hcu, by rw [b8K hf]⟩
theorem c6E {X Y : Type} {R : X → Y → Prop} : ∀ {l : List X} {r : List Y} {l' : List X} {r' : List Y}, All2 R l r → All2 R l' r' → All2 R (l ++ l') (r ++ r')
 | [], [], _, _, _, h => h
 | _ :: _, _ :: _, _, _, h, h' => ⟨h.1, c6E h.2 h'⟩
 | [], _ :: _, _, _, h, _ => h.elim
 | _ :: _, [], _, _, h, _ => h.elim
theorem d1K {E : Env} (hT : ∀ id t, E.ty id = some t → TOk E.P t id) (hmeth : ∀ t name f d, E.meth t name = some (f, d) → c2W E.P t name f d) (hM : Mem base G0 own0 c) {f : FuncId} {vs args : List PV} (h : target E c.H o args = some (f, vs)) (ha : All2 (VOk c) args (o.op.operands.toList.map a.eval)) :
  ∃ us, All2 (VOk c) vs us ∧ (execOp a.eval o).run E.P c.w = (callFunc f us.toArray).run E.P c.w := by
 unfold target at h
 split at h
 ·
  rename_i k hop
  split at h
  ·
   rename_i fo hk
   split at h
   ·
    rename_i g ws
    simp only [Option.some.injEq, Prod.mk.injEq] at h
    obtain ⟨rfl, rfl⟩ := h
    have ha' : All2 (VOk c) (.fn g :: ws) (a.eval fo :: k.args.toList.map a.eval) := by
     rw [hop] at ha
     simp only [Op.operands, Call.operands, hk] at ha
     simpa using ha
    have hfv : a.eval fo = .func (.func g) #[] ([] : List Value).toArray := by
     obtain ⟨cs, h1, h2⟩ := ha'.1
     simp only [a1A] at h1
     subst h1; exact h2
    refine ⟨_, ha'.2, ?_⟩
    have := c9F (P := E.P) hop hk hfv c.w
    simpa using this
   ·
    rename_i g cap ws
    split at h
    ·
     rename_i hcap
     simp only [Option.some.injEq, Prod.mk.injEq] at h
     obtain ⟨rfl, rfl⟩ := h
     have ha' : All2 (VOk c) (.clo g cap :: ws) (a.eval fo :: k.args.toList.map a.eval) := by
      rw [hop] at ha
      simp only [Op.operands, Call.operands, hk] at ha
      simpa using ha
     obtain ⟨cs, ⟨us, e, h1⟩, h2⟩ := ha'.1
     subst e
     have h2 : a.eval fo = .func (.func g) #[] us.toArray := h2
     exact ⟨_, c6E ha'.2 (d5Y cap us hcap h1), c9F hop hk h2 c.w⟩
    ·
     cases h
   ·
    cases h
  ·
   rename_i r name hk
   split at h
   ·
    rename_i t v ws
    have ha' : All2 (VOk c) (.iface t v :: ws) (a.eval r :: k.args.toList.map a.eval) := by
     rw [hop] at ha
     simp only [Op.operands, Call.operands, hk] at ha
     simpa using ha
    obtain ⟨cs, ⟨ds, e, h1⟩, h2⟩ := ha'.1
    subst e
    have h2 : a.eval r = .iface t (mkV (a3L v) ds) := h2
    split at h
    ·
     rename_i g hm
     simp only [Option.some.injEq, Prod.mk.injEq] at h
     obtain ⟨rfl, rfl⟩ := h
     exact ⟨mkV (a3L v) ds :: k.args.toList.map a.eval, ⟨c5D h1, ha'.2⟩, c5A hop hk h2 c.w (c6J (hmeth _ _ _ _ hm) _ c.w)⟩
    ·
     rename_i g e hm
     cases v with
     | ptr b p =>
      split at h
      ·
       rename_i u b' p' hu hbp
       injection hbp with e1 e2
       subst e1 e2
       split at h
       ·
        rename_i s x hb
        split at h
        ·
         rename_i y hti hg
         simp only [Option.some.injEq, Prod.mk.injEq] at h
         obtain ⟨rfl, rfl⟩ := h
         obtain ⟨ad, v', e1, e2, _, cs', e3, e4⟩ := f2X (P := E.P) hM (hT _ _ hu) (c5D h1) hb hti hg
         rw [e1] at h2
         exact ⟨v' :: k.args.toList.map a.eval, ⟨by rw [e4]; exact c5D e3, ha'.2⟩, c5A hop hk h2 c.w (c6T (hmeth _ _ _ _ hm) ad v' c.w e2)⟩
        ·
         cases h
       ·
        cases h
      ·
       cases h
     | _ => split at h <;> first | cases h | (rename_i hx; cases hx)
    ·
     cases h
   ·
    cases h
  ·
   cases h
 ·
  cases h
theorem e5O {E : Env} (hT : ∀ id t, E.ty id = some t → TOk E.P t id) (hmeth : ∀ t name f d, E.meth t name = some (f, d) → c2W E.P t name f d) (hM : Mem base G0 own0 c) {f : FuncId} {vs args : List PV} (h : f3Y E c.H o args = some (f, vs)) (ha : All2 (VOk c) args (o.op.operands.toList.map a.eval)) :
  E.how f = some .inl ∧ ∃ us, All2 (VOk c) vs us ∧ (execOp a.eval o).run E.P c.w = (callFunc f us.toArray).run E.P c.w := by
 unfold f3Y at h
 split at h
 ·
  rename_i g ws ht
  split at h
  ·
   rename_i hh
   simp only [Option.some.injEq, Prod.mk.injEq] at h
   obtain ⟨rfl, rfl⟩ := h
   exact ⟨hh, d1K hT hmeth hM ht ha⟩
  ·
   cases h
 ·
  cases h
theorem e4D {E : Env} (hT : ∀ id t, E.ty id = some t → TOk E.P t id) (hmeth : ∀ t name f d, E.meth t name = some (f, d) → c2W E.P t name f d) (hM : Mem base G0 own0 c) {f : FuncId} {C : Con} {vs args : List PV} (h : f2Z E c.H o args = some (f, C, vs)) (ha : All2 (VOk c) args (o.op.operands.toList.map a.eval)) :
  E.how f = some (.con C) ∧ ∃ us, All2 (VOk c) vs us ∧ (execOp a.eval o).run E.P c.w = (callFunc f us.toArray).run E.P c.w := by
 unfold f2Z at h
 split at h
 ·
  cases h
 ·
  split at h
  ·
   rename_i g ws ht
   split at h
   ·
    rename_i D hh
    simp only [Option.some.injEq, Prod.mk.injEq] at h
    obtain ⟨rfl, rfl, rfl⟩ := h
    exact ⟨hh, d1K hT hmeth hM ht ha⟩
   ·
    cases h
  ·
   cases h
end
end Sym

/- Shapes: what is taken out of a state stands for the same values. -/
namespace Sym
open Go
def b3L : Blk → Blk → Prop
 | .box t _, .box u _ => t = u
 | .row t l, .row u r => ∃ e : t = u, (e ▸ l) = r
 | _, _ => False
structure Part (cc c : Cx) (σ : Sub) (lent : List Nat) : Prop where
 w : cc.w = c.w
 blk : ∀ i j, σ.get i = some j → cc.ρ i = c.ρ j ∧ b3L (a0J cc.H i) (a0J c.H j)
 G : ∀ r, a9A c lent r → cc.G r
theorem e6Q {cc c : Cx} {σ : Sub} {lent : List Nat} (h : Part cc c σ lent) {i j : Nat} (hij : σ.get i = some j) {p : List Step} {v : Value} (hv : PtrOk c j p v) : PtrOk cc i p v := by
 obtain ⟨hρ, hb⟩ := h.blk i j hij
 unfold PtrOk at *
 unfold b3L at hb
 rw [hρ]
 cases h1 : a0J cc.H i <;> cases h2 : a0J c.H j <;> simp only [h1, h2] at hb hv ⊢
 ·
  subst hb; exact hv
 ·
  obtain ⟨e, hb⟩ := hb; subst e; subst hb; exact hv
theorem d8V {cc c : Cx} {σ : Sub} {lent : List Nat} (h : Part cc c σ lent) {i j : Nat} (hij : σ.get i = some j) {v : Value} (hv : a8I c j v) : a8I cc i v := by
 obtain ⟨hρ, hb⟩ := h.blk i j hij
 unfold a8I at *
 unfold b3L at hb
 rw [hρ]
 cases h1 : a0J cc.H i <;> cases h2 : a0J c.H j <;> simp only [h1, h2] at hb hv ⊢
 exact hv
theorem c0V {σ σ' : Sub} {i j : Nat} (h : σ.bind i j = some σ') : σ'.get i = some j ∧ (∀ k l, σ.get k = some l → σ'.get k = some l) := by
 unfold Sub.bind at h
 split at h
 ·
  rename_i j' hj
  split at h
  ·
   rename_i hb
   have hb := Nat.eq_of_beq_eq_true hb
   simp only [Option.some.injEq] at h
   subst h; subst hb
   exact ⟨hj, fun k l hk => hk⟩
  ·
   cases h
 ·
  rename_i hn
  split at h
  ·
   cases h
  ·
   simp only [Option.some.injEq] at h
   subst h
   refine ⟨by simp [Sub.get, Nat.beq_refl], fun k l hk => ?_⟩
   simp only [Sub.get]
   split
   ·
    rename_i hb
    have hb := Nat.eq_of_beq_eq_true hb
    subst hb
    rw [hn] at hk; cases hk
   ·
    exact hk
def Mle (m m' : Mt) : Prop := (∀ k l, m.σ.get k = some l → m'.σ.get k = some l) ∧ ∀ b, b ∈ m.lent → b ∈ m'.lent
theorem Mle.refl (m : Mt) : Mle m m := ⟨fun _ _ h => h, fun _ h => h⟩
theorem Mle.trans {a b c : Mt} (h : Mle a b) (h' : Mle b c) : Mle a c := ⟨fun k l hk => h'.1 k l (h.1 k l hk), fun x hx => h'.2 x (h.2 x hx)⟩
theorem Part.le {cc c : Cx} {m m' : Mt} (h : Part cc c m'.σ m'.lent) (hle : Mle m m') : Part cc c m.σ m.lent :=
 ⟨h.w, fun i j hij => h.blk i j (hle.1 i j hij), fun r hr => h.G r (b3W hle.2 r hr)⟩
theorem d5X : ∀ {p q : List Step}, c8A p q = true → p = q
 | [], [], _ => rfl
 | a :: p, b :: q, h => by
  simp only [c8A, Bool.and_eq_true] at h
  have : a = b := by
   cases a <;> cases b <;> simp only [e7L] at h <;> first | (have := Nat.eq_of_beq_eq_true h.1; rw [this]) | (cases h.1)
  rw [this, d5X h.2]
 | [], _ :: _, h => by simp [c8A] at h
 | _ :: _, [], h => by simp [c8A] at h
theorem e1E {c : Cx} (hB : ∀ b, BlkOk c b) : ∀ (s : Sh) (v : PV) (m m' : Mt) (x : s.D), s.ext c.H v m = some (x, m') → Mle m m' ∧
  ∀ (cc : Cx) (cs : List Value), Part cc c m'.σ m'.lent → a1A c v cs → a1A cc (s.mk x) cs ∧ a3L (s.mk x) = a3L v := by
 intro s
 induction s with
 | pl t =>
  intro v m m' x h
  have h : (match a3R c.H t v with | some (x, l) => some (x, (⟨m.σ, l ++ m.lent⟩ : Mt)) | none => none) = some (x, m') := h
  split at h
  ·
   rename_i y l hy
   have h := Option.some.inj h
   obtain ⟨rfl, rfl⟩ := Prod.mk.inj h
   refine ⟨⟨fun k l h => h, fun b hb => by simp [hb]⟩, fun cc cs hp hc => ⟨?_, ?_⟩⟩
   ·
    have := c3L hB t v cs y l hc hy
    show Enc cc.w cc.G t y cs
    rw [hp.w]
    exact b8Q (fun r hr => hp.G r (b3W (fun b hb => by simp [hb]) r hr)) this
   ·
    show t.isAgg = _
    cases v with
    | val u z =>
     have : (match Ty.cast u t z with | some y => some (y, ([] : List Nat)) | none => none) = some (y, l) := by cases t <;> exact hy
     split at this
     ·
      rename_i hz
      obtain ⟨e, _⟩ := a6P hz
      subst e; rfl
     ·
      cases this
    | pair p q => cases t <;> first | rfl | (simp [a3R] at hy)
    | tup p => exact hc.elim
    | undef => exact hc.elim
    | _ => cases t <;> first | rfl | (simp [a3R] at hy)
  ·
   cases h
 | bp t =>
  intro v m m' x h
  cases v with
  | bptr u y =>
   have h : (match Ty.cast u t y with | some y => some (y, m) | none => none) = some (x, m') := h
   split at h
   ·
    rename_i z hz
    obtain ⟨e, rfl⟩ := a6P hz
    subst e
    have h := Option.some.inj h
    obtain ⟨rfl, rfl⟩ := Prod.mk.inj h
    refine ⟨Mle.refl _, fun cc cs hp hc => ⟨?_, rfl⟩⟩
    obtain ⟨ad, ds, h1, h2, h3, h4, h5⟩ := hc
    refine ⟨ad, ds, h1, h2, hp.G _ (.inl h3), ?_, ?_⟩
    ·
     rw [hp.w]; exact b8Q (fun r hr => hp.G r (.inl hr)) h4
    ·
     rw [hp.w]; exact h5
   ·
    cases h
  | _ => simp [Sh.ext] at h
 | ptr b p =>
  intro v m m' x h
  cases v with
  | ptr b' q =>
   simp only [Sh.ext] at h
   split at h
   ·
    rename_i hpq
    have := d5X hpq
    subst this
    split at h
    ·
     rename_i σ' hσ
     have h := Option.some.inj h
     obtain ⟨rfl, rfl⟩ := Prod.mk.inj h
     obtain ⟨g1, g2⟩ := c0V hσ
     refine ⟨⟨g2, fun b hb => hb⟩, fun cc cs hp hc => ⟨?_, rfl⟩⟩
     obtain ⟨v, e, h1, h2⟩ := hc
     exact ⟨v, e, h1, e6Q hp g1 h2⟩
    ·
     cases h
   ·
    cases h
  | _ => simp [Sh.ext] at h
 | npt =>
  intro v m m' x h
  cases v with
  | npt =>
   simp only [Sh.ext] at h
   have h := Option.some.inj h
   obtain ⟨rfl, rfl⟩ := Prod.mk.inj h
   exact ⟨Mle.refl _, fun cc cs hp hc => ⟨hc, rfl⟩⟩
  | _ => simp [Sh.ext] at h
 | whole b =>
  intro v m m' x h
  cases v with
  | whole b' =>
   simp only [Sh.ext] at h
   split at h
   ·
    rename_i σ' hσ
    have h := Option.some.inj h
    obtain ⟨rfl, rfl⟩ := Prod.mk.inj h
    obtain ⟨g1, g2⟩ := c0V hσ
    refine ⟨⟨g2, fun b hb => hb⟩, fun cc cs hp hc => ⟨?_, rfl⟩⟩
    obtain ⟨v, e, h1, h2⟩ := hc
    exact ⟨v, e, h1, d8V hp g1 h2⟩
   ·
    cases h
  | _ => simp [Sh.ext] at h
 | pair p q ihp ihq =>
  intro v m m' x h
  cases v with
  | pair u w =>
   simp only [Sh.ext] at h
   split at h
   ·
    rename_i y m1 hy
    split at h
    ·
     rename_i z m2 hz
     have h := Option.some.inj h
     obtain ⟨rfl, rfl⟩ := Prod.mk.inj h
     obtain ⟨l1, r1⟩ := ihp u m m1 y hy
     obtain ⟨l2, r2⟩ := ihq w m1 m2 z hz
     refine ⟨l1.trans l2, fun cc cs hp hc => ⟨?_, rfl⟩⟩
     obtain ⟨c1, c2, e, h1, h2⟩ := hc
     exact ⟨c1, c2, e, (r1 cc c1 (hp.le l2) h1).1, (r2 cc c2 hp h2).1⟩
    ·
     cases h
   ·
    cases h
  | _ => simp [Sh.ext] at h
 | fn f =>
  intro v m m' x h
  cases v with
  | fn g =>
   simp only [Sh.ext] at h
   split at h
   ·
    rename_i hb
    have := Nat.eq_of_beq_eq_true hb
    subst this
    have h := Option.some.inj h
    obtain ⟨rfl, rfl⟩ := Prod.mk.inj h
    exact ⟨Mle.refl _, fun cc cs hp hc => ⟨hc, rfl⟩⟩
   ·
    cases h
  | _ => simp [Sh.ext] at h
 | iface t s ih =>
  intro v m m' x h
  cases v with
  | iface u w =>
   simp only [Sh.ext] at h
   split at h
   ·
    rename_i hb
    have := Nat.eq_of_beq_eq_true hb
    subst this
    obtain ⟨l1, r1⟩ := ih w m m' x h
    refine ⟨l1, fun cc cs hp hc => ⟨?_, rfl⟩⟩
    obtain ⟨ds, e, h1⟩ := hc
    obtain ⟨k1, k2⟩ := r1 cc ds hp h1
    exact ⟨ds, by rw [k2]; exact e, k1⟩
   ·
    cases h
  | _ => simp [Sh.ext] at h
 | clo f s ih =>
  intro v m m' x h
  cases v with
  | clo g w =>
   simp only [Sh.ext] at h
   split at h
   ·
    rename_i hb
    have := Nat.eq_of_beq_eq_true hb
    subst this
    obtain ⟨l1, r1⟩ := ih w m m' x h
    refine ⟨l1, fun cc cs hp hc => ⟨?_, rfl⟩⟩
    obtain ⟨us, e, h1⟩ := hc
    exact ⟨us, e, (r1 cc us hp h1).1⟩
   ·
    cases h
  | _ => simp [Sh.ext] at h
 | dead => intro v m m' x h; cases v <;> simp [Sh.ext] at h
theorem e4E {c : Cx} (hB : ∀ b, BlkOk c b) {s : Sh} {v : PV} {m m' : Mt} {x : s.D} (h : s.ext c.H v m = some (x, m')) : Mle m m' ∧
  ∀ (cc : Cx) (u : Value), Part cc c m'.σ m'.lent → VOk c v u → VOk cc (s.mk x) u := by
 obtain ⟨h1, h2⟩ := e1E hB s v m m' x h
 refine ⟨h1, fun cc u hp hv => ?_⟩
 cases v with
 | tup p => cases s <;> first | (simp [Sh.ext] at h; done) | (rename_i t; cases t <;> simp [Sh.ext, a3R] at h)
 | undef => cases s <;> first | (simp [Sh.ext] at h; done) | (rename_i t; cases t <;> simp [Sh.ext, a3R] at h)
 | _ =>
  obtain ⟨cs, hc, hu⟩ := hv
  obtain ⟨k1, k2⟩ := h2 cc cs hp hc
  rw [← k2] at hu
  generalize s.mk x = pv at k1 hu
  cases pv <;> first | exact k1.elim | exact ⟨cs, k1, hu⟩
theorem d3S {c : Cx} (hB : ∀ b, BlkOk c b) : ∀ (l : List Sh) (vs : List PV) (m m' : Mt) (x : ShD l), a5O c.H l vs m = some (x, m') → Mle m m' ∧
  ∀ (cc : Cx) (us : List Value), Part cc c m'.σ m'.lent → All2 (VOk c) vs us → ∃ us', us = us' ++ us.drop l.length ∧ us'.length = l.length ∧ All2 (VOk cc) (a1O l x) us' := by
 intro l
 induction l with
 | nil =>
  intro vs m m' x h
  simp only [a5O, Option.some.injEq, Prod.mk.injEq] at h
  obtain ⟨_, rfl⟩ := h
  exact ⟨Mle.refl _, fun cc us _ _ => ⟨[], by simp, rfl, trivial⟩⟩
 | cons s l ih =>
  intro vs m m' x h
  cases vs with
  | nil => simp [a5O] at h
  | cons v vs =>
   simp only [a5O] at h
   split at h
   ·
    rename_i y m1 hy
    split at h
    ·
     rename_i z m2 hz
     have h := Option.some.inj h
     obtain ⟨rfl, rfl⟩ := Prod.mk.inj h
     obtain ⟨l2, r2⟩ := ih vs m1 m2 z hz
     have hmk : a1O (s :: l) (ShD.cons s l y z) = s.mk y :: a1O l z := by cases s <;> rfl
     have hstep : Mle m m1 ∧ ∀ (cc : Cx) (u : Value), Part cc c m1.σ m1.lent → VOk c v u → VOk cc (s.mk y) u := by
      cases s with
      | dead =>
       simp only [Sh.ext', Option.some.injEq, Prod.mk.injEq] at hy
       obtain ⟨_, rfl⟩ := hy
       exact ⟨Mle.refl _, fun _ _ _ _ => trivial⟩
      | _ => exact e4E hB hy
     obtain ⟨l1, r1⟩ := hstep
     refine ⟨l1.trans l2, fun cc us hp ha => ?_⟩
     cases us with
     | nil => exact ha.elim
     | cons u us =>
      obtain ⟨hu, ha⟩ := ha
      obtain ⟨us', e, hl, ha'⟩ := r2 cc us hp ha
      refine ⟨u :: us', by simp only [List.length_cons, List.drop_succ_cons, List.cons_append]; rw [← e], by simp [hl], ?_⟩
      rw [hmk]
      exact ⟨r1 cc u (hp.le l2) hu, ha'⟩
    ·
     cases h
   ·
    cases h
end Sym

/- Shapes: a whole state's part. -/
namespace Sym
open Go
theorem e6R {c : Cx} (hB : ∀ b, BlkOk c b) {b : BSh} {B : Blk} {m m' : Mt} {x : b.D} (h : b.ext c.H B m = some (x, m')) : Mle m m' ∧ b3L (b.mk x) B := by
 cases b with
 | box t s =>
  cases B with
  | box u v =>
   simp only [BSh.ext] at h
   split at h
   ·
    rename_i htu
    split at h
    ·
     rename_i y m1 hy
     split at h
     ·
      have h := Option.some.inj h
      obtain ⟨rfl, rfl⟩ := Prod.mk.inj h
      exact ⟨(e1E hB s v m m1 y hy).1, Ty.beq_eq htu⟩
     ·
      cases h
    ·
     cases h
   ·
    cases h
  | _ => simp [BSh.ext] at h
 | row t =>
  cases B with
  | row u l =>
   simp only [BSh.ext] at h
   split at h
   ·
    rename_i y hy
    obtain ⟨e, rfl⟩ := a6P hy
    injection e with e
    subst e
    have h := Option.some.inj h
    obtain ⟨rfl, rfl⟩ := Prod.mk.inj h
    exact ⟨Mle.refl _, rfl, rfl⟩
   ·
    cases h
  | _ => simp [BSh.ext] at h
theorem f3S {c : Cx} (hB : ∀ b, BlkOk c b) {b : BSh} {j : Nat} {m m' : Mt} {x : b.D} (h : b.ext c.H (a0J c.H j) m = some (x, m')) {cc : Cx} (hp : Part cc c m'.σ m'.lent) {i : Nat} (hij : m'.σ.get i = some j) (hi : a0J cc.H i = b.mk x) : BlkOk cc i := by
 have hb := hB j
 obtain ⟨hρ, _⟩ := hp.blk i j hij
 unfold BlkOk at hb ⊢
 rw [hi]
 cases b with
 | box t s =>
  cases hB2 : a0J c.H j with
  | box u v =>
   rw [hB2] at h
   simp only [hB2] at hb
   simp only [BSh.ext] at h
   split at h
   ·
    split at h
    ·
     rename_i y m1 hy
     split at h
     ·
      rename_i hfit
      have h := Option.some.inj h
      obtain ⟨rfl, rfl⟩ := Prod.mk.inj h
      obtain ⟨r, cs, ty, e1, e2, e3, e4⟩ := hb
      exact ⟨r, cs, ty, hρ.trans e1, by rw [hp.w]; exact e2, ((e1E hB s v m m1 y hy).2 cc cs hp e3).1, hfit⟩
     ·
      cases h
    ·
     cases h
   ·
    cases h
  | _ => rw [hB2] at h; simp [BSh.ext] at h
 | row t =>
  cases hB2 : a0J c.H j with
  | row u l =>
   rw [hB2] at h
   simp only [hB2] at hb
   simp only [BSh.ext] at h
   split at h
   ·
    rename_i y hy
    obtain ⟨e, rfl⟩ := a6P hy
    injection e with e
    subst e
    have h := Option.some.inj h
    obtain ⟨rfl, rfl⟩ := Prod.mk.inj h
    obtain ⟨hl, e, xs, ho, hx⟩ := hb
    refine ⟨hl, e, xs, ?_, a9E (fun x cs he => ?_) _ xs hx⟩
    ·
     show cc.w.ownsRow 0 e _ (cc.ρ i) _ xs
     rw [hρ, hp.w]; exact ho
    ·
     rw [hp.w]; exact b8Q (fun r hr => hp.G r (.inl hr)) he
   ·
    cases h
  | _ => rw [hB2] at h; simp [BSh.ext] at h
theorem d8P {c : Cx} (hB : ∀ b, BlkOk c b) : ∀ (l : List BSh) (i0 : Nat) (m m' : Mt) (y : d7T l), b2F c.H l i0 m = some (y, m') → Mle m m' ∧
  (∀ k, k < l.length → ∃ j, m'.σ.get (i0 + k) = some j ∧ b3L (a0J (a2V l y) k) (a0J c.H j)) ∧
  ∀ cc, Part cc c m'.σ m'.lent → (∀ k, k < l.length → a0J cc.H (i0 + k) = a0J (a2V l y) k) → ∀ k, k < l.length → BlkOk cc (i0 + k) := by
 intro l
 induction l with
 | nil =>
  intro i0 m m' y h
  simp only [b2F, Option.some.injEq, Prod.mk.injEq] at h
  obtain ⟨_, rfl⟩ := h
  exact ⟨Mle.refl _, fun k hk => by simp at hk, fun cc _ _ k hk => by simp at hk⟩
 | cons b l ih =>
  intro i0 m m' y h
  simp only [b2F] at h
  split at h
  ·
   rename_i j hj
   split at h
   ·
    rename_i x m1 hx
    split at h
    ·
     rename_i z m2 hz
     have h := Option.some.inj h
     obtain ⟨rfl, rfl⟩ := Prod.mk.inj h
     obtain ⟨l1, s1⟩ := e6R hB hx
     obtain ⟨l2, s2, r2⟩ := ih (i0 + 1) m1 m2 z hz
     refine ⟨l1.trans l2, fun k hk => ?_, fun cc hp hH k hk => ?_⟩
     ·
      cases k with
      | zero => exact ⟨j, l2.1 _ _ (l1.1 _ _ hj), s1⟩
      | succ k =>
       obtain ⟨j', g1, g2⟩ := s2 k (by simpa using hk)
       exact ⟨j', by rw [show i0 + (k + 1) = i0 + 1 + k by omega]; exact g1, g2⟩
     ·
      cases k with
      | zero => exact f3S hB hx (hp.le l2) (l1.1 _ _ hj) (hH 0 (by simp))
      | succ k =>
       have := r2 cc hp (fun k hk => by have := hH (k + 1) (by simpa using hk); rw [show i0 + 1 + k = i0 + (k + 1) by omega]; exact this) k (by simpa using hk)
       rw [show i0 + (k + 1) = i0 + 1 + k by omega]
       exact this
    ·
     cases h
   ·
    cases h
  ·
   cases h
theorem b1I : ∀ (H : List Blk) (i : Nat), H.length ≤ i → a0J H i = .unborn
 | [], _, _ => rfl
 | _ :: H, 0, h => by simp at h
 | _ :: H, i + 1, h => b1I H i (by simpa using h)
theorem a7X : ∀ (l : List BSh) (y : d7T l), (a2V l y).length = l.length
 | [], _ => rfl
 | _ :: l, y => by simp [a2V, a7X l y.2]
theorem c8Z : ∀ (σ : Sub) (n : Nat), σ.keys n = true → ∀ i j, σ.get i = some j → i < n
 | [], _, _, i, j, h => by cases h
 | (k, l) :: σ, n, hk, i, j, h => by
  simp only [Sub.keys, Bool.and_eq_true] at hk
  simp only [Sub.get] at h
  split at h
  ·
   rename_i hb
   have := Nat.eq_of_beq_eq_true hb
   have := Nat.le_of_ble_eq_true hk.1
   omega
  ·
   exact c8Z σ n hk.2 i j h
theorem b3V : ∀ (σ : Sub) (i j : Nat), σ.get i = some j → σ.inv j = true
 | [], _, _, h => by cases h
 | (k, l) :: σ, i, j, h => by
  simp only [Sub.get] at h
  simp only [Sub.inv, Bool.or_eq_true]
  split at h
  ·
   left; simp only [Option.some.injEq] at h; rw [h]; exact Nat.beq_refl j
  ·
   right; exact b3V σ i j h
theorem f0T : ∀ (σ : Sub), σ.inj = true → ∀ i i' j, σ.get i = some j → σ.get i' = some j → i = i'
 | [], _, i, i', j, h, _ => by cases h
 | (k, l) :: σ, hk, i, i', j, h, h' => by
  simp only [Sub.inj, Bool.and_eq_true, Bool.not_eq_true'] at hk
  simp only [Sub.get] at h h'
  split at h
  ·
   rename_i hb
   have e1 := Nat.eq_of_beq_eq_true hb
   simp only [Option.some.injEq] at h
   split at h'
   ·
    rename_i hb'
    have e2 := Nat.eq_of_beq_eq_true hb'
    omega
   ·
    have := b3V σ i' j h'
    rw [← h] at this
    rw [hk.1] at this; cases this
  ·
   split at h'
   ·
    simp only [Option.some.injEq] at h'
    have := b3V σ i j h
    rw [← h'] at this
    rw [hk.1] at this; cases this
   ·
    exact f0T σ hk.2 i i' j h h'
def a8Z (c : Cx) (τ : Tm) (x : τ.D) (m : Mt) (G : Nat → Prop) : Cx :=
 ⟨c.w, G, fun i => match m.σ.get i with | some j => c.ρ j | none => .bool false, a2V τ.heap x.2⟩
theorem e2Q {c : Cx} (hB : ∀ b, BlkOk c b) {τ : Tm} {vs : List PV} {x : τ.D} {m0 m : Mt} (h : τ.extF m0 vs c.H = some (x, m)) :
  Mle m0 m ∧ (∀ b, b ∈ m.lent → m.σ.inv b = false ∧ live (a0J c.H b) = true) ∧ (∀ i j, m.σ.get i = some j → i < τ.heap.length) ∧ (∀ i, i < τ.heap.length → ∃ j, m.σ.get i = some j) ∧ (∀ i i' j, m.σ.get i = some j → m.σ.get i' = some j → i = i') ∧
  (∀ i j, m.σ.get i = some j → b3L (a0J (a2V τ.heap x.2) i) (a0J c.H j)) ∧
  ∀ (G : Nat → Prop), (∀ r, a9A c m.lent r → G r) → (∀ i, BlkOk (a8Z c τ x m G) i) ∧
   ∀ us, All2 (VOk c) vs us → ∃ us', us = us' ++ us.drop τ.slots.length ∧ us'.length = τ.slots.length ∧ All2 (VOk (a8Z c τ x m G)) (a1O τ.slots x.1) us' := by
 unfold Tm.extF at h
 split at h
 ·
  rename_i y m1 hy
  split at h
  ·
   rename_i z m2 hz
   split at h
   ·
    rename_i hok
    have h := Option.some.inj h
    obtain ⟨rfl, rfl⟩ := Prod.mk.inj h
    simp only [Mt.okb, Bool.and_eq_true, List.all_eq_true, Bool.not_eq_true'] at hok
    obtain ⟨k1, k2, k3⟩ := hok
    obtain ⟨l1, r1⟩ := d3S hB τ.slots vs m0 m1 y hy
    obtain ⟨l2, s2, r2⟩ := d8P hB τ.heap 0 m1 m2 z hz
    simp only [Nat.zero_add] at s2 r2
    have hsim : ∀ i j, m2.σ.get i = some j → b3L (a0J (a2V τ.heap z) i) (a0J c.H j) := by
     intro i j hij
     obtain ⟨j', g1, g2⟩ := s2 i (c8Z _ _ k2 i j hij)
     rw [hij] at g1
     simp only [Option.some.injEq] at g1
     subst g1
     exact g2
    refine ⟨l1.trans l2, k1, c8Z _ _ k2, fun i hi => (s2 i hi).imp fun j hj => hj.1, f0T _ k3, hsim, fun G hG => ?_⟩
    have hp : Part (a8Z c τ (y, z) m2 G) c m2.σ m2.lent := ⟨rfl, fun i j hij => ⟨by simp [a8Z, hij], hsim i j hij⟩, hG⟩
    refine ⟨fun i => ?_, fun us ha => r1 _ us (hp.le l2) ha⟩
    by_cases hi : i < τ.heap.length
    ·
     exact r2 _ hp (fun k _ => rfl) i hi
    ·
     unfold BlkOk
     rw [show a0J (a8Z c τ (y, z) m2 G).H i = .unborn from b1I _ _ (by rw [show (a8Z c τ (y, z) m2 G).H = a2V τ.heap z from rfl, a7X]; omega)]
     trivial
   ·
    cases h
  ·
   cases h
 ·
  cases h
theorem e2N {c : Cx} (hB : ∀ b, BlkOk c b) {τ : Tm} {vs : List PV} {x : τ.D} {m : Mt} (h : τ.ext vs c.H = some (x, m)) :
  (∀ b, b ∈ m.lent → m.σ.inv b = false ∧ live (a0J c.H b) = true) ∧ (∀ i j, m.σ.get i = some j → i < τ.heap.length) ∧ (∀ i, i < τ.heap.length → ∃ j, m.σ.get i = some j) ∧ (∀ i i' j, m.σ.get i = some j → m.σ.get i' = some j → i = i') ∧
  (∀ i j, m.σ.get i = some j → b3L (a0J (a2V τ.heap x.2) i) (a0J c.H j)) ∧
  ∀ (G : Nat → Prop), (∀ r, a9A c m.lent r → G r) → (∀ i, BlkOk (a8Z c τ x m G) i) ∧
   ∀ us, All2 (VOk c) vs us → ∃ us', us = us' ++ us.drop τ.slots.length ∧ us'.length = τ.slots.length ∧ All2 (VOk (a8Z c τ x m G)) (a1O τ.slots x.1) us' := (e2Q hB h).2
theorem d7D : ∀ (l : List PV) (i : Nat) (σ σ' : Sub), b5H l i σ = some σ' → (∀ k v, σ.get k = some v → σ'.get k = some v) ∧ ∀ j, j < l.length → ∃ b, l[j]? = some (.ptr b []) ∧ σ'.get (i + j) = some b
 | [], i, σ, σ', h => by
  simp only [b5H, Option.some.injEq] at h
  subst h
  exact ⟨fun k v h => h, fun j h => by simp at h⟩
 | .ptr b [] :: l, i, σ, σ', h => by
  simp only [b5H] at h
  split at h
  ·
   rename_i σ1 h1
   obtain ⟨g1, g2⟩ := c0V h1
   obtain ⟨k1, k2⟩ := d7D l (i + 1) σ1 σ' h
   refine ⟨fun k v hk => k1 k v (g2 k v hk), fun j hj => ?_⟩
   cases j with
   | zero => exact ⟨b, rfl, k1 _ _ g1⟩
   | succ j =>
    obtain ⟨b', q1, q2⟩ := k2 j (by simpa using hj)
    exact ⟨b', by simpa using q1, by rw [show i + (j + 1) = i + 1 + j by omega]; exact q2⟩
  ·
   cases h
 | .ptr b (s :: p) :: l, i, σ, σ', h => by simp [b5H] at h
 | .val _ _ :: _, _, _, _, h => by simp [b5H] at h
 | .nils :: _, _, _, _, h => by simp [b5H] at h
 | .pair _ _ :: _, _, _, _, h => by simp [b5H] at h
 | .tup _ :: _, _, _, _, h => by simp [b5H] at h
 | .bptr _ _ :: _, _, _, _, h => by simp [b5H] at h
 | .npt :: _, _, _, _, h => by simp [b5H] at h
 | .whole _ :: _, _, _, _, h => by simp [b5H] at h
 | .row _ _ _ :: _, _, _, _, h => by simp [b5H] at h
 | .aview _ _ _ _ :: _, _, _, _, h => by simp [b5H] at h
 | .fn _ :: _, _, _, _, h => by simp [b5H] at h
 | .iface _ _ :: _, _, _, _, h => by simp [b5H] at h
 | .clo _ _ :: _, _, _, _, h => by simp [b5H] at h
 | .cut _ _ :: _, _, _, _, h => by simp [b5H] at h
 | .undef :: _, _, _, _, h => by simp [b5H] at h
end Sym

/- Calls by contract. -/
namespace Sym
open Go
structure Start (c : Cx) : Prop where
 blk : ∀ b, BlkOk c b
 inj : ∀ b b' r, live (a0J c.H b) = true → live (a0J c.H b') = true → a3V (c.ρ b) = some r → a3V (c.ρ b') = some r → b = b'
 G : ∀ r, c.G r → r < c.w.heap.size ∧ ∀ b, live (a0J c.H b) = true → a3V (c.ρ b) ≠ some r
def c0Q (c : Cx) : Nat → Prop := fun r => ∃ b, live (a0J c.H b) = true ∧ a3V (c.ρ b) = some r
def e3Y (c : Cx) : Nat → Prop := fun r => c.G r ∨ c0Q c r
theorem Start.mem {c : Cx} (h : Start c) : Mem c.w (e3Y c) (c0Q c) c := by
 refine ⟨rfl, rfl, rfl, Nat.le_refl _, fun _ _ _ => rfl, h.blk, h.inj, fun b r hl he => .inl ⟨b, hl, he⟩, ?_, fun r hr => .inr hr⟩
 funext r
 refine propext ⟨fun hr => ⟨.inl (.inl hr), h.G r hr⟩, fun hr => ?_⟩
 obtain ⟨h1, h2, h3⟩ := hr
 rcases h1 with (h1 | ⟨b, hl, he⟩) | h1
 ·
  exact h1
 ·
  exact absurd he (h3 b hl)
 ·
  omega
def e8L (P : Program) (f : FuncId) (args : Array Value) (w : World) (R : Value → World → Prop) : Prop :=
 (∃ v w', (callFunc f args).run P w = .ok (.value v) w' ∧ R v w') ∨
 ((callFunc f args).run P w = .ok (.enter f args) w ∧ Calls P f args w fun e w' => ∃ v, e = .returned v ∧ R v w')
def a1K (P : Program) (f : FuncId) (C : Con) : Prop :=
 ∀ x y, C.F x = some y → ∀ (c : Cx) (vals : List Value), Start c → c.H = a2V C.In.heap x.2 → All2 (VOk c) (a1O C.In.slots x.1) vals →
  e8L P f vals.toArray c.w fun v w' => ∃ c', c'.w = w' ∧ c'.H = a2V C.Out.heap y.2 ∧ VOk c' (tuple (a1O C.Out.slots y.1)) v ∧ Mem c.w (e3Y c) (c0Q c) c' ∧ ∀ i, i < a8A C.In.heap → c'.ρ i = c.ρ i
def b1C : PV → Bool
 | .val t _ => !t.hasSl
 | .pair a b => b1C a && b1C b
 | .tup a => b1C a
 | .bptr _ _ => false
 | .iface _ v => b1C v
 | .clo _ v => b1C v
 | _ => true
theorem b9T : ∀ (s : Sh) (x : s.D), s.hasSl = false → b1C (s.mk x) = true := by
 intro s
 induction s with
 | pl t => intro x h; simp only [Sh.hasSl] at h; simp [Sh.mk, b1C, h]
 | pair a b iha ihb => intro x h; simp only [Sh.hasSl, Bool.or_eq_false_iff] at h; simp [Sh.mk, b1C, iha _ h.1, ihb _ h.2]
 | iface t s ih => intro x h; exact ih x h
 | clo f s ih => intro x h; exact ih x h
 | bp t => intro x h; simp [Sh.hasSl] at h
 | _ => intro x _; rfl
structure Ren (c1 c2 : Cx) (f : Nat → Nat) : Prop where
 w : c2.w = c1.w
 blk : ∀ i, a0J c1.H i ≠ .unborn → a0J c2.H (f i) = a8Y f (a0J c1.H i) ∧ c2.ρ (f i) = c1.ρ i
theorem f3P {c1 c2 : Cx} {f : Nat → Nat} (h : Ren c1 c2 f) {b : Nat} {p : List Step} {v : Value} (hv : PtrOk c1 b p v) : PtrOk c2 (f b) p v := by
 unfold PtrOk at *
 cases hb : a0J c1.H b with
 | unborn => simp [hb] at hv
 | dead => have := (h.blk b (by simp [hb])).1; simp only [hb, a8Y] at hv this; simp only [this]; exact hv
 | box t u => obtain ⟨e1, e2⟩ := h.blk b (by simp [hb]); simp only [hb, a8Y] at hv e1; simp only [e1, e2]; exact hv
 | row t l => obtain ⟨e1, e2⟩ := h.blk b (by simp [hb]); simp only [hb, a8Y] at hv e1; simp only [e1, e2]; exact hv
theorem d2T (f : Nat → Nat) (v : PV) : a3L (b6Z f v) = a3L v := by cases v <;> rfl
theorem b9X {c1 c2 : Cx} {f : Nat → Nat} (h : Ren c1 c2 f) : ∀ (v : PV) (cs : List Value), ((∀ r, c1.G r → c2.G r) ∨ b1C v = true) → a1A c1 v cs → a1A c2 (b6Z f v) cs := by
 intro v
 induction v with
 | val t x =>
  intro cs hG he
  show Enc c2.w c2.G t x cs
  rcases hG with hG | hG
  ·
   rw [h.w]; exact b8Q hG he
  ·
   exact b8H t (by simpa [b1C] using hG) x cs he
 | pair a b iha ihb =>
  intro cs hG he
  obtain ⟨d1, d2, e, h1, h2⟩ := he
  refine ⟨d1, d2, e, iha _ (hG.imp _root_.id fun h => ?_) h1, ihb _ (hG.imp _root_.id fun h => ?_) h2⟩ <;> simp only [b1C, Bool.and_eq_true] at h
  ·
   exact h.1
  ·
   exact h.2
 | ptr b p => intro cs hG he; obtain ⟨v, e, h1, h2⟩ := he; exact ⟨v, e, h1, f3P h h2⟩
 | bptr t x =>
  intro cs hG he
  obtain ⟨ad, ds, h1, h2, h3, h4, h5⟩ := he
  rcases hG with hG | hG
  ·
   exact ⟨ad, ds, h1, h2, hG _ h3, by rw [h.w]; exact b8Q hG h4, by rw [h.w]; exact h5⟩
  ·
   simp [b1C] at hG
 | whole b =>
  intro cs hG he
  obtain ⟨v, e, h1, h2⟩ := he
  refine ⟨v, e, h1, ?_⟩
  unfold a8I at *
  cases hb : a0J c1.H b with
  | unborn => simp [hb] at h2
  | dead => have := (h.blk b (by simp [hb])).1; simp only [hb, a8Y] at this; simp only [this]
  | box t u => simp [hb] at h2
  | row t l => obtain ⟨e1, e2⟩ := h.blk b (by simp [hb]); simp only [hb, a8Y] at h2 e1; simp only [e1, e2]; exact h2
 | row b lo n =>
  intro cs hG he
  obtain ⟨v, e, h1, h2⟩ := he
  refine ⟨v, e, h1, ?_⟩
  unfold c0P at *
  cases hb : a0J c1.H b with
  | unborn => simp [hb] at h2
  | dead => have := (h.blk b (by simp [hb])).1; simp only [hb, a8Y] at this; simp only [this]
  | box t u => simp [hb] at h2
  | row t l => obtain ⟨e1, e2⟩ := h.blk b (by simp [hb]); simp only [hb, a8Y] at h2 e1; simp only [e1, e2]; exact h2
 | aview b p lo n =>
  intro cs hG he
  obtain ⟨v, e, h1, h2⟩ := he
  refine ⟨v, e, h1, ?_⟩
  unfold b5D at *
  cases hb : a0J c1.H b with
  | unborn => simp [hb] at h2
  | dead => have := (h.blk b (by simp [hb])).1; simp only [hb, a8Y] at this; simp only [this]
  | row t u => simp [hb] at h2
  | box t l => obtain ⟨e1, e2⟩ := h.blk b (by simp [hb]); simp only [hb, a8Y] at h2 e1; simp only [e1, e2]; exact h2
 | cut b k =>
  intro cs hG he
  obtain ⟨v, e, h1, h2⟩ := he
  refine ⟨v, e, h1, ?_⟩
  unfold c9T at *
  cases hb : a0J c1.H b with
  | unborn => simp [hb] at h2
  | dead => have := (h.blk b (by simp [hb])).1; simp only [hb, a8Y] at this; simp only [this]
  | box t u => simp [hb] at h2
  | row t l => obtain ⟨e1, e2⟩ := h.blk b (by simp [hb]); simp only [hb, a8Y] at h2 e1; simp only [e1, e2]; exact h2
 | iface t v ih =>
  intro cs hG he
  obtain ⟨ds, e, h1⟩ := he
  exact ⟨ds, by rw [d2T]; exact e, ih ds hG h1⟩
 | clo g v ih =>
  intro cs hG he
  obtain ⟨us, e, h1⟩ := he
  exact ⟨us, e, ih us hG h1⟩
 | nils => intro cs _ he; exact he
 | npt => intro cs _ he; exact he
 | fn f => intro cs _ he; exact he
 | tup a => intro cs _ he; exact he
 | undef => intro cs _ he; exact he
theorem f3Q {c1 c2 : Cx} {f : Nat → Nat} (h : Ren c1 c2 f) : ∀ (v : PV) (vs : List Value), ((∀ r, c1.G r → c2.G r) ∨ b1C v = true) → c6H c1 v vs → c6H c2 (b6Z f v) vs := by
 intro v
 induction v with
 | pair a b iha ihb =>
  intro vs hG he
  obtain ⟨cs, vs', e, h1, h2⟩ := he
  refine ⟨cs, vs', by rw [d2T]; exact e, b9X h _ _ (hG.imp _root_.id fun h => ?_) h1, ihb _ (hG.imp _root_.id fun h => ?_) h2⟩ <;> simp only [b1C, Bool.and_eq_true] at h
  ·
   exact h.1
  ·
   exact h.2
 | val t x => intro vs hG he; cases t <;> first | exact he | exact he.elim
 | _ => intro vs hG he; exact he.elim
theorem f9O {c1 c2 : Cx} {f : Nat → Nat} (h : Ren c1 c2 f) {v : PV} {u : Value} (hG : (∀ r, c1.G r → c2.G r) ∨ b1C v = true) (hv : VOk c1 v u) : VOk c2 (b6Z f v) u := by
 cases v with
 | tup a => obtain ⟨vs, e, ht⟩ := hv; exact ⟨vs, e, f3Q h a vs hG ht⟩
 | undef => trivial
 | _ => obtain ⟨cs, h1, e⟩ := hv; have := b9X h _ cs hG h1; exact ⟨cs, this, e⟩
theorem c7I : ∀ (l : List Sh) (x : ShD l), l.any Sh.hasSl = false → b1C (tuple (a1O l x)) = true := by
 have hall : ∀ (l : List Sh) (x : ShD l), l.any Sh.hasSl = false → ∀ v ∈ a1O l x, b1C v = true := by
  intro l
  induction l with
  | nil => intro x _ v hv; simp [a1O] at hv
  | cons s l ih =>
   intro x h v hv
   simp only [List.any_cons, Bool.or_eq_false_iff] at h
   cases s with
   | pl t => simp only [a1O, List.mem_cons] at hv; rcases hv with rfl | hv; exact b9T (.pl t) x.1 h.1; exact ih _ h.2 v hv
   | bp t => simp only [a1O, List.mem_cons] at hv; rcases hv with rfl | hv; exact b9T (.bp t) x.1 h.1; exact ih _ h.2 v hv
   | pair p q => simp only [a1O, List.mem_cons] at hv; rcases hv with rfl | hv; exact b9T (.pair p q) x.1 h.1; exact ih _ h.2 v hv
   | iface t s => simp only [a1O, List.mem_cons] at hv; rcases hv with rfl | hv; exact b9T (.iface t s) x.1 h.1; exact ih _ h.2 v hv
   | clo f s => simp only [a1O, List.mem_cons] at hv; rcases hv with rfl | hv; exact b9T (.clo f s) x.1 h.1; exact ih _ h.2 v hv
   | _ => simp only [a1O, List.mem_cons] at hv; rcases hv with rfl | hv; rfl; exact ih _ h.2 v hv
 have hfold : ∀ (vs : List PV), (∀ v ∈ vs, b1C v = true) → b1C (vs.foldr .pair (.val .nil ())) = true := by
  intro vs
  induction vs with
  | nil => intro _; rfl
  | cons v vs ih => intro h; simp only [List.foldr_cons, b1C, Bool.and_eq_true]; exact ⟨h v (by simp), ih fun u hu => h u (by simp [hu])⟩
 intro l x h
 have := hall l x h
 generalize a1O l x = vs at this
 match vs, this with
 | [], _ => rfl
 | [v], h => exact h v (by simp)
 | v :: u :: r, h => exact hfold (v :: u :: r) h
theorem c6X (nb : Nat) : ∀ (B : List Blk) (i : Nat) (H : List Blk) (j : Nat), a0J (a2B H (b6H nb i B)) j = if nb + i ≤ j ∧ j < nb + i + B.length then a8Y (fun k => nb + k) (a0J B (j - (nb + i))) else a0J H j
 | [], i, H, j => by simp only [b6H, a2B, List.length_nil]; rw [if_neg (by omega)]
 | b :: B, i, H, j => by
  simp only [b6H, a2B]
  rw [c6X nb B (i + 1), a4Q]
  simp only [List.length_cons]
  by_cases h1 : j = nb + i
  ·
   subst h1
   rw [if_neg (by omega), if_pos rfl, if_pos (by omega), Nat.sub_self]
   rfl
  ·
   by_cases h2 : nb + (i + 1) ≤ j ∧ j < nb + (i + 1) + B.length
   ·
    rw [if_pos h2, if_pos (by omega), show j - (nb + i) = (j - (nb + (i + 1))) + 1 by omega]
    rfl
   ·
    rw [if_neg h2, if_neg h1, if_neg (by omega)]
theorem c0H (f : Nat → Nat) (b : Blk) : live (a8Y f b) = live b := by cases b <;> rfl
theorem b6I : ∀ (l : List BSh) (y : d7T l) (i : Nat), i < l.length → ∃ b, l[i]? = some b ∧ ∃ x : b.D, a0J (a2V l y) i = b.mk x
 | [], _, _, h => by simp at h
 | b :: l, y, 0, _ => ⟨b, rfl, y.1, rfl⟩
 | b :: l, y, i + 1, h => by
  obtain ⟨b', h1, x, h2⟩ := b6I l y.2 i (by simpa using h)
  exact ⟨b', by simpa using h1, x, h2⟩
section
variable {P : Program} {base : World} {G0 own0 : Nat → Prop} {o : Oper} {a : Act} {c : Cx}
theorem d6E (f : Nat → Nat) : ∀ (v : PV) (t : Ty), fits (b6Z f v) t = fits v t := by
 intro v
 induction v with
 | pair a b iha ihb => intro t; cases t <;> simp [b6Z, fits, iha, ihb]
 | _ => intro t; cases t <;> rfl
theorem e5V (hM : Mem base G0 own0 c) {f : FuncId} {us : List Value} (hex : (execOp a.eval o).run P c.w = (callFunc f us.toArray).run P c.w) {C : Con} (hC : a1K P f C) (hin : C.In.heap = []) {vs : List PV} (ha : All2 (VOk c) vs us) (hlen : vs.length = C.In.slots.length)
  {x : C.In.D} {m : Mt} (hx : C.In.ext vs c.H = some (x, m)) {y : C.Out.D} (hy : C.F x = some y) {nb : Nat} (hn : ∀ i, i < C.Out.heap.length → a0J c.H (nb + i) = .unborn) :
  a4B P base G0 own0 o a c (b6Z (fun k => nb + k) (tuple (a1O C.Out.slots y.1))) ((match C.Out.hasSl with | true => kill m.lent | false => []) ++ b6H nb 0 (a2V C.Out.heap y.2)) := by
 obtain ⟨t1, t2, t3, t4, t5, t6⟩ := e2N hM.blk hx
 obtain ⟨hblk, hargs⟩ := t6 (a9A c m.lent) (fun r h => h)
 obtain ⟨us', e1, e2, hargs⟩ := hargs _ ha
 have hll : us.length = C.In.slots.length := by
  rw [← hlen]
  have : ∀ (vs : List PV) (us : List Value), All2 (VOk c) vs us → us.length = vs.length := by
   intro vs
   induction vs with
   | nil => intro us h; cases us with | nil => rfl | cons _ _ => exact h.elim
   | cons v vs ih => intro us h; cases us with | nil => exact h.elim | cons u us => simp [ih us h.2]
  exact this vs _ ha
 have e1 : us = us' := by
  rw [List.drop_of_length_le (by omega)] at e1
  simpa using e1
 subst e1
 have hσ : ∀ i j, m.σ.get i = some j → False := fun i j h => by have := t2 i j h; rw [hin] at this; simp at this
 have hdead : ∀ b, a0J (a8Z c C.In x m (a9A c m.lent)).H b = .unborn := fun b => b1I _ _ (by show (a2V C.In.heap x.2).length ≤ b; rw [a7X, hin]; simp)
 have hGl : ∀ r, a9A c m.lent r → r < c.w.heap.size := by
  rintro r (h | ⟨b, hb, hl, he⟩)
  ·
   rw [hM.G] at h; exact h.2.1
  ·
   exact (hM.blk b).lt hl he
 have hS : Start (a8Z c C.In x m (a9A c m.lent)) := by
  refine ⟨hblk, fun b b' r h => (by rw [hdead b] at h; cases h), fun r hr => ⟨hGl r hr, fun b h => (by rw [hdead b] at h; cases h)⟩⟩
 have hcall := hC x y hy _ _ hS rfl hargs
 have after : ∀ v w', (∃ c' : Cx, c'.w = w' ∧ c'.H = a2V C.Out.heap y.2 ∧ VOk c' (tuple (a1O C.Out.slots y.1)) v ∧ Mem c.w (e3Y (a8Z c C.In x m (a9A c m.lent))) (c0Q (a8Z c C.In x m (a9A c m.lent))) c' ∧ ∀ i, i < a8A C.In.heap → c'.ρ i = (a8Z c C.In x m (a9A c m.lent)).ρ i) →
   ∃ c2 : Cx, c2.w = w' ∧ Ext c c2 ∧ Mem base G0 own0 c2 ∧ c2.H = a2B c.H ((match C.Out.hasSl with | true => kill m.lent | false => []) ++ b6H nb 0 (a2V C.Out.heap y.2)) ∧ VOk c2 (b6Z (fun k => nb + k) (tuple (a1O C.Out.slots y.1))) v := by
  rintro v w' ⟨c', rfl, hH', hv', hM', _⟩
  have hlc := a7X C.Out.heap y.2
  obtain ⟨c1, hw1, hH1, hρ1, hE1, hM1, hsame1, hG1⟩ : ∃ c1 : Cx, c1.w = c.w ∧ c1.H = a2B c.H (match C.Out.hasSl with | true => kill m.lent | false => []) ∧ c1.ρ = c.ρ ∧ Ext c c1 ∧ Mem base G0 own0 c1 ∧ (∀ i, i < C.Out.heap.length → a0J c1.H (nb + i) = .unborn) ∧
    (C.Out.hasSl = true → ∀ r, a9A c m.lent r → c1.G r) := by
   cases hsl : C.Out.hasSl with
   | false => exact ⟨c, rfl, rfl, rfl, Ext.refl c, hM, hn, fun h => by cases h⟩
   | true =>
    have hlive : ∀ b ∈ m.lent, live (a0J c.H b) = true := fun b hb => (t1 b hb).2
    obtain ⟨c1, h1, h2, h3, h4, h5, h6, h7⟩ := c9M hM m.lent hlive
    refine ⟨c1, h1, h2, h3, h4, h5, fun i hi => ?_, fun _ => h6⟩
    rw [h7 _ fun hmem => by have := hlive _ hmem; rw [hn i hi] at this; cases this]
    exact hn i hi
  let H2 := a2B c1.H (b6H nb 0 (a2V C.Out.heap y.2))
  let ρ2 : Nat → Value := fun j => if nb ≤ j ∧ j < nb + C.Out.heap.length then c'.ρ (j - nb) else c1.ρ j
  have hH2 : ∀ j, a0J H2 j = if nb ≤ j ∧ j < nb + C.Out.heap.length then a8Y (fun k => nb + k) (a0J (a2V C.Out.heap y.2) (j - nb)) else a0J c1.H j := by
   intro j
   have := c6X nb (a2V C.Out.heap y.2) 0 c1.H j
   simp only [Nat.add_zero, hlc] at this
   exact this
  have hnew : ∀ i r, live (a0J c'.H i) = true → a3V (c'.ρ i) = some r → c.w.heap.size ≤ r := by
   intro i r hl he
   rcases hM'.own i r hl he with ⟨b, hb, _⟩ | h
   ·
    rw [hdead b] at hb; cases hb
   ·
    exact h
  have hT : Turn base G0 own0 c1 (Cx.next base G0 c'.w ρ2 H2) (fun j => nb ≤ j ∧ j < nb + C.Out.heap.length) := by
   refine ⟨hM'.os.trans (by rw [hw1]), hM'.tape.trans (by rw [hw1]), hM'.output.trans (by rw [hw1]), by show c1.w.heap.size ≤ c'.w.heap.size; rw [hw1]; exact hM'.size, fun j hj => by simp [Cx.next, ρ2, hj], fun j hj => by simp only [Cx.next]; rw [hH2, if_neg hj], fun r hr _ => ?_, fun j hj => ?_, fun j r hj hl he => ?_, fun j j' r hj hj' hl hl' he he' => ?_, rfl⟩
   ·
    show c'.w.heap[r]? = c1.w.heap[r]?
    rw [hw1] at hr ⊢
    refine hM'.frame r hr fun ⟨b, hb, _⟩ => ?_
    rw [hdead b] at hb; cases hb
   ·
    unfold b7O
    have := hsame1 (j - nb) (by omega)
    rw [show nb + (j - nb) = j by omega] at this
    simp [this]
   ·
    left
    have hl : live (a0J H2 j) = true := hl
    have he : a3V (ρ2 j) = some r := he
    rw [hH2, if_pos hj, c0H] at hl
    simp only [ρ2, if_pos hj] at he
    rw [hw1]
    exact hnew (j - nb) r (by rw [hH']; exact hl) he
   ·
    have hl : live (a0J H2 j) = true := hl
    have he : a3V (ρ2 j) = some r := he
    have hl' : live (a0J H2 j') = true := hl'
    have he' : a3V (ρ2 j') = some r := he'
    rw [hH2, if_pos hj, c0H] at hl
    rw [hH2, if_pos hj', c0H] at hl'
    simp only [ρ2, if_pos hj] at he
    simp only [ρ2, if_pos hj'] at he'
    have := hM'.inj (j - nb) (j' - nb) r (by rw [hH']; exact hl) (by rw [hH']; exact hl') he he'
    omega
  have hE := hT.ext hM1
  have hren : Ren c' (Cx.next base G0 c'.w ρ2 H2) (fun k => nb + k) := by
   refine ⟨rfl, fun i hi => ?_⟩
   have hlt : i < C.Out.heap.length := by
    rcases Nat.lt_or_ge i C.Out.heap.length with h | h
    ·
     exact h
    ·
     exact absurd (b1I c'.H i (by rw [hH', hlc]; exact h)) hi
   simp only [Cx.next]
   rw [hH2, if_pos ⟨by omega, by omega⟩, show nb + i - nb = i by omega, hH']
   exact ⟨rfl, by simp only [ρ2]; rw [if_pos ⟨by omega, by omega⟩, show nb + i - nb = i by omega]⟩
  have hGG : C.Out.hasSl = true → ∀ r, c'.G r → (Cx.next base G0 c'.w ρ2 H2).G r := by
   intro hsl r hr
   rw [hM'.G] at hr
   obtain ⟨h1, h2, h3⟩ := hr
   have fresh : c.w.heap.size ≤ r → (Cx.next base G0 c'.w ρ2 H2).G r := by
    intro hge
    refine ⟨.inr (by have := hM.size; omega), h2, fun j hl he => ?_⟩
    have hl : live (a0J H2 j) = true := hl
    have he : a3V (ρ2 j) = some r := he
    rw [hH2] at hl
    split at hl
    ·
     rename_i hj
     rw [c0H] at hl
     simp only [ρ2, if_pos hj] at he
     exact h3 (j - nb) (by rw [hH']; exact hl) he
    ·
     rename_i hj
     simp only [ρ2, if_neg hj] at he
     have := (hM1.blk j).lt hl he
     rw [hw1] at this
     omega
   rcases h1 with (h1 | ⟨b, hb, _⟩) | h1
   ·
    exact (hE.G r (hG1 hsl r h1)).1
   ·
    rw [hdead b] at hb; cases hb
   ·
    exact fresh h1
  have hMem := hT.mem hM1 fun j hj => by
   have hb := hM'.blk (j - nb)
   obtain ⟨b, hbl, xb, hbk⟩ := b6I C.Out.heap y.2 (j - nb) (by omega)
   have hbh : C.Out.hasSl = false → b.hasSl = false := by
    intro hsl
    simp only [Tm.hasSl, Bool.or_eq_false_iff] at hsl
    have := hsl.2
    rw [List.any_eq_false] at this
    have := this b (List.mem_of_getElem? hbl)
    simpa using this
   unfold BlkOk at hb ⊢
   simp only [Cx.next]
   rw [hH2, if_pos hj, hbk]
   rw [hH', hbk] at hb
   cases b with
   | box t s =>
    simp only [BSh.mk, a8Y] at hb ⊢
    obtain ⟨r, cs, ty, k1, k2, k3, k4⟩ := hb
    refine ⟨r, cs, ty, by simp only [ρ2, if_pos hj]; exact k1, k2, b9X hren _ cs ?_ k3, by rw [d6E]; exact k4⟩
    cases hsl : C.Out.hasSl with
    | true => exact .inl (hGG hsl)
    | false => exact .inr (b9T s xb (by have := hbh hsl; simpa [BSh.hasSl] using this))
   | row t =>
    simp only [BSh.mk, a8Y] at hb ⊢
    obtain ⟨hl, e, xs, ho', hx'⟩ := hb
    refine ⟨hl, e, xs, by simp only [ρ2, if_pos hj]; exact ho', a9E (fun z cs hz => ?_) _ xs hx'⟩
    cases hsl : C.Out.hasSl with
    | true => exact b8Q (hGG hsl) hz
    | false => exact b8H t (by have := hbh hsl; simpa [BSh.hasSl] using this) z cs hz
  refine ⟨Cx.next base G0 c'.w ρ2 H2, rfl, hE1.trans hE, hMem, by show H2 = _; rw [a5Y, ← hH1], f9O hren ?_ hv'⟩
  cases hsl : C.Out.hasSl with
  | true => exact .inl (hGG hsl)
  | false => exact .inr (c7I _ _ (by simp only [Tm.hasSl, Bool.or_eq_false_iff] at hsl; exact hsl.1))
 intro K Q hK
 unfold Oper.wp
 rw [hex]
 rcases hcall with ⟨v, w', hr, hR⟩ | ⟨hr, hR⟩
 ·
  have hr : (callFunc f us.toArray).run P c.w = .ok (.value v) w' := hr
  rw [hr]
  obtain ⟨c2, rfl, g1, g2, g3, g4⟩ := after v w' hR
  exact hK v c2 g1 g2 g3 g4
 ·
  have hr : (callFunc f us.toArray).run P c.w = .ok (.enter f us.toArray) c.w := hr
  rw [hr]
  refine Calls.mono hR ?_
  rintro e w' ⟨v, rfl, hR⟩
  obtain ⟨c2, rfl, g1, g2, g3, g4⟩ := after v w' hR
  exact hK v c2 g1 g2 g3 g4
end
def b8Z (n : Nat) (v : Value) : Prop := ∀ ad l cap, v = .slice (some ad) l cap → l = 0 ∨ n ≤ ad.block
def d1D (n : Nat) (v : Value) : Prop := b8Z n v ∧ ∀ vs, v = .tuple vs → ∀ u ∈ vs.toList, b8Z n u
def b8I (P : Program) (f : FuncId) (C : Con) : Prop :=
 ∀ x y, C.F x = some y → ∀ (c : Cx) (vals : List Value), Start c → c.H = a2V C.In.heap x.2 → All2 (VOk c) (a1O C.In.slots x.1) vals →
  e8L P f vals.toArray c.w fun v w' => (∃ c', c'.w = w' ∧ c'.H = a2V C.Out.heap y.2 ∧ VOk c' (tuple (a1O C.Out.slots y.1)) v ∧ Mem c.w (e3Y c) (c0Q c) c') ∧ d1D c.w.heap.size v
theorem d2P {w : World} {G G' : Nat → Prop} {n : Nat} {t : Ty} (ht : b7H t = true) {x : t.D} {cs : List Value} (he : Enc w G t x cs) (hf : ∀ u ∈ cs, b8Z n u) (hG : ∀ r, G r → n ≤ r → G' r) : Enc w G' t x cs := by
 cases t with
 | sl t =>
  simp only [b7H, Bool.not_eq_true'] at ht
  obtain ⟨a, c, e, hc, hl, hx⟩ := he
  refine ⟨a, c, e, hc, hl, ?_⟩
  rcases hx with hx | ⟨ad, ha, hs, hg, hr⟩
  ·
   exact .inl hx
  ·
   by_cases h0 : (show List t.D from x) = []
   ·
    exact .inl h0
   ·
    right
    refine ⟨ad, ha, hs, hG _ hg ?_, fun i y hy => ?_⟩
    ·
     subst e ha
     rcases hf _ (List.mem_singleton_self _) ad _ _ rfl with h | h
     ·
      exact absurd (List.eq_nil_of_length_eq_zero h) h0
     ·
      exact h
    ·
     obtain ⟨ds, h1, h2⟩ := hr i y hy
     exact ⟨ds, b8H t ht y ds h1, h2⟩
 | _ => exact b8H _ (by simpa [b7H] using ht) x cs he
theorem c0C {w : World} {G : Nat → Prop} {n : Nat} {X : Type} {E : X → List Value → Prop} (h : ∀ x cs, E x cs → ∀ u ∈ cs, b8Z n u) : ∀ (k : Nat) (x : Arr X k) (cs : List Value), b0H E k x cs → ∀ u ∈ cs, b8Z n u
 | 0, _, cs, he, u, hu => by simp only [b0H] at he; subst he; simp at hu
 | k + 1, x, cs, he, u, hu => by
  obtain ⟨c1, c2, rfl, h1, h2⟩ := he
  rcases List.mem_append.1 hu with hu | hu
  ·
   exact h _ _ h1 u hu
  ·
   exact c0C (w := w) (G := G) h k x.2 c2 h2 u hu
theorem a8P {w : World} {G : Nat → Prop} {n : Nat} : ∀ (t : Ty), t.hasSl = false → ∀ {x : t.D} {cs : List Value}, Enc w G t x cs → ∀ u ∈ cs, b8Z n u := by
 intro t
 induction t with
 | int k => intro _ x cs h u hu; simp only [Enc] at h; subst h; simp only [List.mem_singleton] at hu; subst hu; intro ad l cap h; cases h
 | bool => intro _ x cs h u hu; simp only [Enc] at h; subst h; simp only [List.mem_singleton] at hu; subst hu; intro ad l cap h; cases h
 | str => intro _ x cs h u hu; obtain ⟨h, _⟩ := h; subst h; simp only [List.mem_singleton] at hu; subst hu; intro ad l cap h; cases h
 | nil => intro _ x cs h u hu; simp only [Enc] at h; subst h; simp at hu
 | opq => intro _ x cs h; exact h.elim
 | sl t _ => intro h; cases h
 | cons a b iha ihb =>
  intro hs x cs h u hu
  simp only [Ty.hasSl, Bool.or_eq_false_iff] at hs
  obtain ⟨c1, c2, rfl, h1, h2⟩ := h
  rcases List.mem_append.1 hu with hu | hu
  ·
   exact iha hs.1 h1 u hu
  ·
   exact ihb hs.2 h2 u hu
 | arr k t ih =>
  intro hs x cs h u hu
  exact c0C (w := w) (G := G) (fun x cs h => ih hs h) k x cs h u hu
theorem d1H {c1 c2 : Cx} {n : Nat} (hw : c2.w = c1.w) (hG : ∀ r, c1.G r → n ≤ r → c2.G r) : ∀ (l : List Sh) (x : ShD l) (vs : List Value), l.all a3O = true → c6H c1 ((a1O l x).foldr .pair (.val .nil ())) vs → (∀ u ∈ vs, b8Z n u) → c6H c2 ((a1O l x).foldr .pair (.val .nil ())) vs
 | [], _, vs, _, h, _ => h
 | .pl t :: l, x, vs, hl, h, hf => by
  simp only [List.all_cons, Bool.and_eq_true] at hl
  obtain ⟨cs, vs', e, h1, h2⟩ := h
  subst e
  refine ⟨cs, vs', rfl, ?_, d1H hw hG l x.2 vs' hl.2 h2 fun u hu => hf u (List.mem_cons_of_mem _ hu)⟩
  have hu := hf _ (List.mem_cons_self)
  show Enc c2.w c2.G t x.1 cs
  rw [hw]
  refine d2P hl.1 h1 (fun u hu' => ?_) hG
  cases t with
  | sl t =>
   obtain ⟨a, cp, e, _⟩ := h1
   subst e
   simp only [List.mem_singleton] at hu'
   subst hu'
   exact hu
  | int k => simp only [a1A, Enc] at h1; subst h1; simp only [List.mem_singleton] at hu'; subst hu'; intro ad l cap h; cases h
  | bool => simp only [a1A, Enc] at h1; subst h1; simp only [List.mem_singleton] at hu'; subst hu'; intro ad l cap h; cases h
  | str => obtain ⟨h1, _⟩ := h1; subst h1; simp only [List.mem_singleton] at hu'; subst hu'; intro ad l cap h; cases h
  | opq => exact h1.elim
  | nil => simp only [a1A, Enc] at h1; subst h1; simp at hu'
  | cons a b => exact a8P (.cons a b) (by simpa [a3O, b7H] using hl.1) h1 u hu'
  | arr k t => exact a8P (.arr k t) (by simpa [a3O, b7H] using hl.1) h1 u hu'
 | .bp _ :: _, _, _, hl, _, _ => by simp [a3O] at hl
 | .pair _ _ :: _, _, _, hl, _, _ => by simp [a3O] at hl
 | .ptr _ _ :: _, _, _, hl, _, _ => by simp [a3O] at hl
 | .npt :: _, _, _, hl, _, _ => by simp [a3O] at hl
 | .whole _ :: _, _, _, hl, _, _ => by simp [a3O] at hl
 | .fn _ :: _, _, _, hl, _, _ => by simp [a3O] at hl
 | .iface _ _ :: _, _, _, hl, _, _ => by simp [a3O] at hl
 | .clo _ _ :: _, _, _, hl, _, _ => by simp [a3O] at hl
 | .dead :: _, _, _, hl, _, _ => by simp [a3O] at hl
theorem f0W {c1 c2 : Cx} {n : Nat} (hw : c2.w = c1.w) (hG : ∀ r, c1.G r → n ≤ r → c2.G r) (l : List Sh) (x : ShD l) (hl : l.all a3O = true) {v : Value} (hv : VOk c1 (tuple (a1O l x)) v) (hf : d1D n v) : VOk c2 (tuple (a1O l x)) v := by
 match l, x, hl, hv with
 | [], _, _, hv => exact hv
 | [.pl t], x, hl, hv =>
  obtain ⟨cs, h1, e⟩ := hv
  refine ⟨cs, ?_, e⟩
  simp only [List.all_cons, Bool.and_eq_true] at hl
  show Enc c2.w c2.G t x.1 cs
  rw [hw]
  refine d2P hl.1 h1 (fun u hu => ?_) hG
  cases t with
  | sl t =>
   obtain ⟨a, cp, e', _⟩ := h1
   subst e'
   simp only [List.mem_singleton] at hu
   subst hu
   have e : v = .slice a _ cp := e
   subst e
   exact hf.1
  | int k => exact a8P (.int k) rfl h1 u hu
  | bool => exact a8P .bool rfl h1 u hu
  | str => exact a8P .str rfl h1 u hu
  | opq => exact h1.elim
  | nil => exact a8P .nil rfl h1 u hu
  | cons a b => exact a8P (.cons a b) (by simpa [a3O, b7H] using hl.1) h1 u hu
  | arr k t => exact a8P (.arr k t) (by simpa [a3O, b7H] using hl.1) h1 u hu
 | .pl t :: .pl u :: r, x, hl, hv =>
  obtain ⟨vs, e, h⟩ := hv
  exact ⟨vs, e, d1H hw hG (.pl t :: .pl u :: r) x vs hl h fun u hu => hf.2 _ e u (by simpa using hu)⟩
 | .bp _ :: _, _, hl, _ => simp [a3O] at hl
 | .pair _ _ :: _, _, hl, _ => simp [a3O] at hl
 | .ptr _ _ :: _, _, hl, _ => simp [a3O] at hl
 | .npt :: _, _, hl, _ => simp [a3O] at hl
 | .whole _ :: _, _, hl, _ => simp [a3O] at hl
 | .fn _ :: _, _, hl, _ => simp [a3O] at hl
 | .iface _ _ :: _, _, hl, _ => simp [a3O] at hl
 | .clo _ _ :: _, _, hl, _ => simp [a3O] at hl
 | .dead :: _, _, hl, _ => simp [a3O] at hl
 | .pl _ :: .bp _ :: _, _, hl, _ => simp [a3O] at hl
 | .pl _ :: .pair _ _ :: _, _, hl, _ => simp [a3O] at hl
 | .pl _ :: .ptr _ _ :: _, _, hl, _ => simp [a3O] at hl
 | .pl _ :: .npt :: _, _, hl, _ => simp [a3O] at hl
 | .pl _ :: .whole _ :: _, _, hl, _ => simp [a3O] at hl
 | .pl _ :: .fn _ :: _, _, hl, _ => simp [a3O] at hl
 | .pl _ :: .iface _ _ :: _, _, hl, _ => simp [a3O] at hl
 | .pl _ :: .clo _ _ :: _, _, hl, _ => simp [a3O] at hl
 | .pl _ :: .dead :: _, _, hl, _ => simp [a3O] at hl
section
variable {P : Program} {base : World} {G0 own0 : Nat → Prop} {o : Oper} {a : Act} {c : Cx}
theorem c9A (hM : Mem base G0 own0 c) {f : FuncId} {us : List Value} (hex : (execOp a.eval o).run P c.w = (callFunc f us.toArray).run P c.w) {C : Con} (hC : b8I P f C) (hin : C.In.heap = []) (hout : C.Out.heap = []) (hsh : C.Out.slots.all a3O = true)
  {vs : List PV} (ha : All2 (VOk c) vs us) (hlen : vs.length = C.In.slots.length)
  {x : C.In.D} {m : Mt} (hx : C.In.ext vs c.H = some (x, m)) {y : C.Out.D} (hy : C.F x = some y) :
  a4B P base G0 own0 o a c (tuple (a1O C.Out.slots y.1)) [] := by
 obtain ⟨t1, t2, t3, t4, t5, t6⟩ := e2N hM.blk hx
 obtain ⟨hblk, hargs⟩ := t6 (a9A c m.lent) (fun r h => h)
 obtain ⟨us', e1, e2, hargs⟩ := hargs _ ha
 have hll : us.length = C.In.slots.length := by
  rw [← hlen]
  have : ∀ (vs : List PV) (us : List Value), All2 (VOk c) vs us → us.length = vs.length := by
   intro vs
   induction vs with
   | nil => intro us h; cases us with | nil => rfl | cons _ _ => exact h.elim
   | cons v vs ih => intro us h; cases us with | nil => exact h.elim | cons u us => simp [ih us h.2]
  exact this vs _ ha
 have e1 : us = us' := by
  rw [List.drop_of_length_le (by omega)] at e1
  simpa using e1
 subst e1
 have hdead : ∀ b, a0J (a8Z c C.In x m (a9A c m.lent)).H b = .unborn := fun b => b1I _ _ (by show (a2V C.In.heap x.2).length ≤ b; rw [a7X, hin]; simp)
 have hGl : ∀ r, a9A c m.lent r → r < c.w.heap.size := by
  rintro r (h | ⟨b, hb, hl, he⟩)
  ·
   rw [hM.G] at h; exact h.2.1
  ·
   exact (hM.blk b).lt hl he
 have hS : Start (a8Z c C.In x m (a9A c m.lent)) := by
  refine ⟨hblk, fun b b' r h => (by rw [hdead b] at h; cases h), fun r hr => ⟨hGl r hr, fun b h => (by rw [hdead b] at h; cases h)⟩⟩
 have hcall := hC x y hy _ _ hS rfl hargs
 have after : ∀ v w', ((∃ c' : Cx, c'.w = w' ∧ c'.H = a2V C.Out.heap y.2 ∧ VOk c' (tuple (a1O C.Out.slots y.1)) v ∧ Mem c.w (e3Y (a8Z c C.In x m (a9A c m.lent))) (c0Q (a8Z c C.In x m (a9A c m.lent))) c') ∧ d1D c.w.heap.size v) →
   ∃ c2 : Cx, c2.w = w' ∧ Ext c c2 ∧ Mem base G0 own0 c2 ∧ c2.H = a2B c.H [] ∧ VOk c2 (tuple (a1O C.Out.slots y.1)) v := by
  rintro v w' ⟨⟨c', rfl, hH', hv', hM'⟩, hfr⟩
  have hT : Turn base G0 own0 c (Cx.next base G0 c'.w c.ρ c.H) (fun _ => False) := by
   refine ⟨hM'.os, hM'.tape, hM'.output, hM'.size, fun _ _ => rfl, fun _ _ => rfl, fun r hr _ => ?_, fun _ h => h.elim, fun _ _ h => h.elim, fun _ _ _ h => h.elim, rfl⟩
   refine hM'.frame r hr fun ⟨b, hb, _⟩ => ?_
   rw [hdead b] at hb; cases hb
  refine ⟨Cx.next base G0 c'.w c.ρ c.H, rfl, hT.ext hM, hT.mem hM fun _ h => h.elim, rfl, f0W (c1 := c') (c2 := Cx.next base G0 c'.w c.ρ c.H) rfl (fun r hr hge => ?_) _ _ hsh hv' hfr⟩
  rw [hM'.G] at hr
  refine ⟨.inr (by have := hM.size; omega), hr.2.1, fun j hl he => ?_⟩
  have hl : live (a0J c.H j) = true := hl
  have he : a3V (c.ρ j) = some r := he
  have := (hM.blk j).lt hl he
  omega
 intro K Q hK
 unfold Oper.wp
 rw [hex]
 rcases hcall with ⟨v, w', hr, hR⟩ | ⟨hr, hR⟩
 ·
  have hr : (callFunc f us.toArray).run P c.w = .ok (.value v) w' := hr
  rw [hr]
  obtain ⟨c2, rfl, g1, g2, g3, g4⟩ := after v w' hR
  exact hK v c2 g1 g2 g3 g4
 ·
  have hr : (callFunc f us.toArray).run P c.w = .ok (.enter f us.toArray) c.w := hr
  rw [hr]
  refine Calls.mono hR ?_
  rintro e w' ⟨v, rfl, hR⟩
  obtain ⟨c2, rfl, g1, g2, g3, g4⟩ := after v w' hR
  exact hK v c2 g1 g2 g3 g4
end
end Sym

/- What an operation reads of the heap: the blocks that its operands name. -/
namespace Sym
open Go
def Ag (H H' : List Blk) (l : List Nat) : Prop := ∀ b, b ∈ l → a0J H' b = a0J H b
theorem Ag.left {H H' : List Blk} {l r : List Nat} (h : Ag H H' (l ++ r)) : Ag H H' l := fun b hb => h b (by simp [hb])
theorem Ag.right {H H' : List Blk} {l r : List Nat} (h : Ag H H' (l ++ r)) : Ag H H' r := fun b hb => h b (by simp [hb])
theorem Ag.one {H H' : List Blk} {b : Nat} {r : List Nat} (h : Ag H H' (b :: r)) : a0J H' b = a0J H b := h b (by simp)
theorem b3M {H H' : List Blk} : ∀ (t : Ty) (v : PV), Ag H H' (b5T v) → a3R H' t v = a3R H t v := by
 intro t
 induction t with
 | cons a b iha ihb =>
  intro v h
  cases v with
  | pair p q => simp only [a3R]; rw [iha p (h.left), ihb q (h.right)]
  | _ => rfl
 | sl t _ =>
  intro v h
  cases v with
  | whole b => simp only [a3R]; rw [h.one]
  | row b lo n => simp only [a3R]; rw [h.one]
  | aview b p lo n => simp only [a3R]; rw [h.one]
  | _ => rfl
 | _ => intro v h; cases v <;> rfl
theorem c6K {H : List Blk} : ∀ (t : Ty) (v : PV) (x : t.D) (l : List Nat), a3R H t v = some (x, l) → ∀ b ∈ l, b ∈ b5T v := by
 intro t
 have cv : ∀ (t u : Ty) (y : u.D) (x : t.D) (l : List Nat), (match Ty.cast u t y with | some z => some (z, ([] : List Nat)) | none => none) = some (x, l) → l = [] := by
  intro t u y x l h
  split at h
  ·
   simp only [Option.some.injEq, Prod.mk.injEq] at h; exact h.2.symm
  ·
   cases h
 induction t with
 | cons a b iha ihb =>
  intro v x l h
  cases v with
  | pair p q =>
   simp only [a3R] at h
   split at h
   ·
    rename_i y z hy hz
    have h := Option.some.inj h
    obtain ⟨_, rfl⟩ := Prod.mk.inj h
    intro b hb
    simp only [List.mem_append, b5T] at hb ⊢
    exact hb.imp (iha p y.1 y.2 hy b) (ihb q z.1 z.2 hz b)
   ·
    cases h
  | val u y => simp only [a3R] at h; rw [cv _ _ _ _ _ h]; simp
  | _ => simp [a3R] at h
 | sl t _ =>
  intro v x l h
  cases v with
  | val u y => simp only [a3R] at h; rw [cv _ _ _ _ _ h]; simp
  | nils => simp only [a3R, Option.some.injEq, Prod.mk.injEq] at h; obtain ⟨_, rfl⟩ := h; simp
  | whole b =>
   simp only [a3R] at h
   split at h
   ·
    split at h
    ·
     have h := Option.some.inj h; obtain ⟨_, rfl⟩ := Prod.mk.inj h; simp [b5T]
    ·
     cases h
   ·
    cases h
  | row b lo n =>
   simp only [a3R] at h
   split at h
   ·
    split at h
    ·
     have h := Option.some.inj h; obtain ⟨_, rfl⟩ := Prod.mk.inj h; simp [b5T]
    ·
     cases h
   ·
    cases h
  | aview b p lo n =>
   simp only [a3R] at h
   split at h
   ·
    split at h
    ·
     split at h
     ·
      have h := Option.some.inj h; obtain ⟨_, rfl⟩ := Prod.mk.inj h; simp [b5T]
     ·
      cases h
    ·
     cases h
   ·
    cases h
  | _ => simp [a3R] at h
 | _ =>
  intro v x l h
  cases v with
  | val u y => simp only [a3R] at h; rw [cv _ _ _ _ _ h]; simp
  | _ => simp [a3R] at h
theorem d5V {H H' : List Blk} (v : PV) (h : Ag H H' (b5T v)) : a7B H' v = a7B H v := by
 cases v with
 | whole b => simp only [a7B]; rw [h.one]
 | row b lo n => simp only [a7B]; rw [h.one]
 | aview b p lo n => simp only [a7B]; rw [h.one]
 | val t x => cases t <;> rfl
 | _ => rfl
theorem d0D {H H' : List Blk} {b : Nat} (h : a0J H' b = a0J H b) (p : List Step) (t : Ty) : c3C H' b p t = c3C H b p t := by
 unfold c3C; rw [h]
theorem c7E {H H' : List Blk} (t : Ty) : ∀ (r : List (Nat × PV)) (l : List t.D), (∀ p ∈ r, Ag H H' (b5T p.2)) → b3B H' t l r = b3B H t l r
 | [], _, _ => rfl
 | (i, u) :: r, l, h => by
  simp only [b3B]
  rw [b3M t u (h (i, u) (by simp))]
  split
  ·
   split
   ·
    rename_i x b _
    rw [c7E t r (setAt l i x) fun p hp => h p (by simp [hp])]
   ·
    rfl
  ·
   rfl
theorem c7A {H H' : List Blk} (t : Ty) {n : Nat} : ∀ (r : List (Nat × PV)) (l : Arr t.D n), (∀ p ∈ r, Ag H H' (b5T p.2)) → b3G H' t n l r = b3G H t n l r
 | [], _, _ => rfl
 | (i, u) :: r, l, h => by
  simp only [b3G]
  rw [b3M t u (h (i, u) (by simp))]
  split
  ·
   split
   ·
    rename_i x b _
    rw [c7A t r (Arr.upd n l i x) fun p hp => h p (by simp [hp])]
   ·
    rfl
  ·
   rfl
theorem e1I {H H' : List Blk} : ∀ (is : List Nat) (vs : List PV), Ag H H' (a8T vs) → ∀ p ∈ b1A is vs, Ag H H' (b5T p.2)
 | [], _, _, p, hp => by simp [b1A] at hp
 | _ :: _, [], _, p, hp => by simp [b1A] at hp
 | i :: is, v :: vs, h, p, hp => by
  simp only [b1A, List.mem_cons] at hp
  rcases hp with rfl | hp
  ·
   exact h.left
  ·
   exact e1I is vs h.right p hp
theorem e6M {H H' : List Blk} : ∀ (s : Sh) (v : PV) (m : Mt), Ag H H' (b5T v) → s.ext H' v m = s.ext H v m := by
 intro s
 induction s with
 | pl t => intro v m h; simp only [Sh.ext]; rw [b3M t v h]
 | pair a b iha ihb =>
  intro v m h
  cases v with
  | pair p q =>
   simp only [Sh.ext]
   rw [iha p m h.left]
   split
   ·
    rename_i x m1 _; rw [ihb q m1 h.right]
   ·
    rfl
  | _ => rfl
 | iface t s ih =>
  intro v m h
  cases v with
  | iface u w => simp only [Sh.ext]; rw [ih w m h]
  | _ => rfl
 | clo f s ih =>
  intro v m h
  cases v with
  | clo g w => simp only [Sh.ext]; rw [ih w m h]
  | _ => rfl
 | _ => intro v m h; cases v <;> rfl
theorem c5Y {H H' : List Blk} : ∀ (l : List Sh) (vs : List PV) (m : Mt), Ag H H' (a8T vs) → a5O H' l vs m = a5O H l vs m
 | [], _, _, _ => rfl
 | _ :: _, [], _, _ => rfl
 | s :: l, v :: vs, m, h => by
  simp only [a5O]
  have : s.ext' H' v m = s.ext' H v m := by
   cases s <;> first | rfl | exact e6M _ v m h.left
  rw [this]
  split
  ·
   rename_i x m1 _; rw [c5Y l vs m1 h.right]
  ·
   rfl
theorem e5U {H : List Blk} : ∀ (s : Sh) (v : PV) (m : Mt) (x : s.D) (m' : Mt), s.ext H v m = some (x, m') → ∀ b ∈ m'.lent, b ∈ m.lent ∨ b ∈ b5T v := by
 intro s
 induction s with
 | pl t =>
  intro v m x m' h
  simp only [Sh.ext] at h
  split at h
  ·
   rename_i y l hy
   have h := Option.some.inj h
   obtain ⟨_, rfl⟩ := Prod.mk.inj h
   intro b hb
   simp only [List.mem_append] at hb
   exact hb.symm.imp id (c6K t v y l hy b)
  ·
   cases h
 | bp t =>
  intro v m x m' h
  cases v with
  | bptr u y =>
   simp only [Sh.ext] at h
   split at h
   ·
    have h := Option.some.inj h; obtain ⟨_, rfl⟩ := Prod.mk.inj h; intro b hb; exact .inl hb
   ·
    cases h
  | _ => simp [Sh.ext] at h
 | pair a c iha ihb =>
  intro v m x m' h
  cases v with
  | pair p q =>
   simp only [Sh.ext] at h
   split at h
   ·
    rename_i y m1 hy
    split at h
    ·
     rename_i z m2 hz
     have h := Option.some.inj h
     obtain ⟨_, rfl⟩ := Prod.mk.inj h
     intro b hb
     simp only [b5T, List.mem_append]
     rcases ihb q m1 z m2 hz b hb with h | h
     ·
      exact (iha p m y m1 hy b h).imp id .inl
     ·
      exact .inr (.inr h)
    ·
     cases h
   ·
    cases h
  | _ => simp [Sh.ext] at h
 | ptr b0 p =>
  intro v m x m' h
  cases v with
  | ptr c q =>
   simp only [Sh.ext] at h
   split at h
   ·
    split at h
    ·
     have h := Option.some.inj h; obtain ⟨_, rfl⟩ := Prod.mk.inj h; intro b hb; exact .inl hb
    ·
     cases h
   ·
    cases h
  | _ => simp [Sh.ext] at h
 | npt =>
  intro v m x m' h
  cases v with
  | npt => simp only [Sh.ext] at h; have h := Option.some.inj h; obtain ⟨_, rfl⟩ := Prod.mk.inj h; intro b hb; exact .inl hb
  | _ => simp [Sh.ext] at h
 | whole b0 =>
  intro v m x m' h
  cases v with
  | whole c =>
   simp only [Sh.ext] at h
   split at h
   ·
    have h := Option.some.inj h; obtain ⟨_, rfl⟩ := Prod.mk.inj h; intro b hb; exact .inl hb
   ·
    cases h
  | _ => simp [Sh.ext] at h
 | fn f =>
  intro v m x m' h
  cases v with
  | fn g =>
   simp only [Sh.ext] at h
   split at h
   ·
    have h := Option.some.inj h; obtain ⟨_, rfl⟩ := Prod.mk.inj h; intro b hb; exact .inl hb
   ·
    cases h
  | _ => simp [Sh.ext] at h
 | iface t s ih =>
  intro v m x m' h
  cases v with
  | iface u w =>
   simp only [Sh.ext] at h
   split at h
   ·
    exact ih w m x m' h
   ·
    cases h
  | _ => simp [Sh.ext] at h
 | clo f s ih =>
  intro v m x m' h
  cases v with
  | clo g w =>
   simp only [Sh.ext] at h
   split at h
   ·
    exact ih w m x m' h
   ·
    cases h
  | _ => simp [Sh.ext] at h
 | dead => intro v m x m' h; cases v <;> simp [Sh.ext] at h
theorem b8X {H : List Blk} : ∀ (l : List Sh) (vs : List PV) (m : Mt) (x : ShD l) (m' : Mt), a5O H l vs m = some (x, m') → ∀ b ∈ m'.lent, b ∈ m.lent ∨ b ∈ a8T vs
 | [], vs, m, x, m', h, b, hb => by
  simp only [a5O, Option.some.injEq, Prod.mk.injEq] at h
  obtain ⟨_, rfl⟩ := h
  exact .inl hb
 | _ :: _, [], _, _, _, h, _, _ => by simp [a5O] at h
 | s :: l, v :: vs, m, x, m', h, b, hb => by
  simp only [a5O] at h
  split at h
  ·
   rename_i y m1 hy
   split at h
   ·
    rename_i z m2 hz
    have h := Option.some.inj h
    obtain ⟨_, rfl⟩ := Prod.mk.inj h
    simp only [a8T, List.mem_append]
    rcases b8X l vs m1 z m2 hz b hb with h1 | h1
    ·
     have : b ∈ m.lent ∨ b ∈ b5T v := by
      cases s with
      | dead => simp only [Sh.ext', Option.some.injEq, Prod.mk.injEq] at hy; obtain ⟨_, rfl⟩ := hy; exact .inl h1
      | _ => exact e5U _ v m y m1 hy b h1
     exact this.imp id .inl
    ·
     exact .inr (.inr h1)
   ·
    cases h
  ·
   cases h
theorem d6U {H H' : List Blk} {τ : Tm} (hin : τ.heap = []) (vs : List PV) (h : Ag H H' (a8T vs)) : τ.ext vs H' = τ.ext vs H := by
 obtain ⟨ss, hs⟩ := τ
 simp only at hin
 subst hin
 unfold Tm.ext Tm.extF
 simp only
 rw [c5Y ss vs _ h]
 split
 ·
  rename_i x m1 hx
  simp only [b2F]
  have : m1.okb H' 0 = m1.okb H 0 := by
   unfold Mt.okb
   congr 1
   have : ∀ b ∈ m1.lent, a0J H' b = a0J H b := fun b hb => h b ((b8X ss vs _ x m1 hx b hb).resolve_left (by simp))
   generalize m1.lent = l at this
   induction l with
   | nil => rfl
   | cons b l ih => simp only [List.all_cons]; rw [this b (by simp), ih fun c hc => this c (by simp [hc])]
  simp only [List.length_nil]
  rw [this]
 ·
  rfl
end Sym

/- Calls by contract whose arguments point to blocks of the caller's own. -/
namespace Sym
open Go
theorem e6N {H H' : List Blk} : ∀ (t : Ty) (v : PV) (x : t.D) (l : List Nat), a3R H t v = some (x, l) → (∀ b ∈ l, a0J H' b = a0J H b) → a3R H' t v = some (x, l) := by
 intro t
 induction t with
 | cons a b iha ihb =>
  intro v x l h hl
  cases v with
  | pair p q =>
   simp only [a3R] at h ⊢
   split at h
   ·
    rename_i y z hy hz
    have h := Option.some.inj h
    obtain ⟨rfl, rfl⟩ := Prod.mk.inj h
    rw [iha p y.1 y.2 hy fun b hb => hl b (by simp [hb]), ihb q z.1 z.2 hz fun b hb => hl b (by simp [hb])]
   ·
    cases h
  | _ => exact h
 | sl t _ =>
  intro v x l h hl
  cases v with
  | whole b =>
   have hb : l = [b] := by
    simp only [a3R] at h
    split at h
    ·
     split at h
     ·
      have h := Option.some.inj h; exact (Prod.mk.inj h).2.symm
     ·
      cases h
    ·
     cases h
   have := hl b (by rw [hb]; simp)
   simp only [a3R] at h ⊢
   rw [this]; exact h
  | row b lo n =>
   have hb : l = [b] := by
    simp only [a3R] at h
    split at h
    ·
     split at h
     ·
      have h := Option.some.inj h; exact (Prod.mk.inj h).2.symm
     ·
      cases h
    ·
     cases h
   have := hl b (by rw [hb]; simp)
   simp only [a3R] at h ⊢
   rw [this]; exact h
  | aview b p lo n =>
   have hb : l = [b] := by
    simp only [a3R] at h
    split at h
    ·
     split at h
     ·
      split at h
      ·
       have h := Option.some.inj h; exact (Prod.mk.inj h).2.symm
      ·
       cases h
     ·
      cases h
    ·
     cases h
   have := hl b (by rw [hb]; simp)
   simp only [a3R] at h ⊢
   rw [this]; exact h
  | _ => exact h
 | _ => intro v x l h hl; cases v <;> exact h
theorem c9Y {H : List Blk} : ∀ (s : Sh) (v : PV) (m m' : Mt) (x : s.D), s.ext H v m = some (x, m') → ∀ b ∈ m.lent, b ∈ m'.lent := by
 intro s
 induction s with
 | pl t =>
  intro v m m' x h b hb
  simp only [Sh.ext] at h
  split at h
  ·
   have h := Option.some.inj h; obtain ⟨_, rfl⟩ := Prod.mk.inj h; simp [hb]
  ·
   cases h
 | bp t =>
  intro v m m' x h b hb
  cases v with
  | bptr u y =>
   simp only [Sh.ext] at h
   split at h
   ·
    have h := Option.some.inj h; obtain ⟨_, rfl⟩ := Prod.mk.inj h; exact hb
   ·
    cases h
  | _ => simp [Sh.ext] at h
 | pair a c iha ihc =>
  intro v m m' x h b hb
  cases v with
  | pair p q =>
   simp only [Sh.ext] at h
   split at h
   ·
    rename_i y m1 hy
    split at h
    ·
     rename_i z m2 hz
     have h := Option.some.inj h; obtain ⟨_, rfl⟩ := Prod.mk.inj h
     exact ihc q m1 m2 z hz b (iha p m m1 y hy b hb)
    ·
     cases h
   ·
    cases h
  | _ => simp [Sh.ext] at h
 | ptr b0 p =>
  intro v m m' x h b hb
  cases v with
  | ptr c q =>
   simp only [Sh.ext] at h
   split at h
   ·
    split at h
    ·
     have h := Option.some.inj h; obtain ⟨_, rfl⟩ := Prod.mk.inj h; exact hb
    ·
     cases h
   ·
    cases h
  | _ => simp [Sh.ext] at h
 | npt =>
  intro v m m' x h b hb
  cases v with
  | npt => simp only [Sh.ext] at h; have h := Option.some.inj h; obtain ⟨_, rfl⟩ := Prod.mk.inj h; exact hb
  | _ => simp [Sh.ext] at h
 | whole b0 =>
  intro v m m' x h b hb
  cases v with
  | whole c =>
   simp only [Sh.ext] at h
   split at h
   ·
    have h := Option.some.inj h; obtain ⟨_, rfl⟩ := Prod.mk.inj h; exact hb
   ·
    cases h
  | _ => simp [Sh.ext] at h
 | fn f =>
  intro v m m' x h b hb
  cases v with
  | fn g =>
   simp only [Sh.ext] at h
   split at h
   ·
    have h := Option.some.inj h; obtain ⟨_, rfl⟩ := Prod.mk.inj h; exact hb
   ·
    cases h
  | _ => simp [Sh.ext] at h
 | iface t s ih =>
  intro v m m' x h b hb
  cases v with
  | iface u w =>
   simp only [Sh.ext] at h
   split at h
   ·
    exact ih w m m' x h b hb
   ·
    cases h
  | _ => simp [Sh.ext] at h
 | clo f s ih =>
  intro v m m' x h b hb
  cases v with
  | clo g w =>
   simp only [Sh.ext] at h
   split at h
   ·
    exact ih w m m' x h b hb
   ·
    cases h
  | _ => simp [Sh.ext] at h
 | dead => intro v m m' x h; cases v <;> simp [Sh.ext] at h
theorem d5U {H H' : List Blk} : ∀ (s : Sh) (v : PV) (m m' : Mt) (x : s.D), s.ext H v m = some (x, m') → (∀ b ∈ m'.lent, a0J H' b = a0J H b) → s.ext H' v m = some (x, m') := by
 intro s
 induction s with
 | pl t =>
  intro v m m' x h hl
  simp only [Sh.ext] at h ⊢
  split at h
  ·
   rename_i y l hy
   have h := Option.some.inj h; obtain ⟨rfl, rfl⟩ := Prod.mk.inj h
   rw [e6N t v y l hy fun b hb => hl b (by simp [hb])]
  ·
   cases h
 | pair a c iha ihc =>
  intro v m m' x h hl
  cases v with
  | pair p q =>
   simp only [Sh.ext] at h ⊢
   split at h
   ·
    rename_i y m1 hy
    split at h
    ·
     rename_i z m2 hz
     have h := Option.some.inj h; obtain ⟨rfl, rfl⟩ := Prod.mk.inj h
     rw [iha p m m1 y hy fun b hb => hl b (c9Y c q m1 m2 z hz b hb)]
     simp only
     rw [ihc q m1 m2 z hz hl]
    ·
     cases h
   ·
    cases h
  | _ => exact h
 | iface t s ih =>
  intro v m m' x h hl
  cases v with
  | iface u w =>
   simp only [Sh.ext] at h ⊢
   split at h
   ·
    rename_i hb; exact ih w m m' x h hl
   ·
    cases h
  | _ => exact h
 | clo f s ih =>
  intro v m m' x h hl
  cases v with
  | clo g w =>
   simp only [Sh.ext] at h ⊢
   split at h
   ·
    rename_i hb; exact ih w m m' x h hl
   ·
    cases h
  | _ => exact h
 | _ => intro v m m' x h hl; cases v <;> exact h
theorem d6F {H : List Blk} : ∀ (l : List Sh) (vs : List PV) (m m' : Mt) (x : ShD l), a5O H l vs m = some (x, m') → ∀ b ∈ m.lent, b ∈ m'.lent
 | [], _, m, m', x, h, b, hb => by
  simp only [a5O, Option.some.injEq, Prod.mk.injEq] at h
  obtain ⟨_, rfl⟩ := h; exact hb
 | _ :: _, [], _, _, _, h, _, _ => by simp [a5O] at h
 | s :: l, v :: vs, m, m', x, h, b, hb => by
  simp only [a5O] at h
  split at h
  ·
   rename_i y m1 hy
   split at h
   ·
    rename_i z m2 hz
    have h := Option.some.inj h; obtain ⟨_, rfl⟩ := Prod.mk.inj h
    refine d6F l vs m1 m2 z hz b ?_
    cases s with
    | dead => simp only [Sh.ext', Option.some.injEq, Prod.mk.injEq] at hy; obtain ⟨_, rfl⟩ := hy; exact hb
    | _ => exact c9Y _ v m m1 y hy b hb
   ·
    cases h
  ·
   cases h
theorem d5S {H H' : List Blk} : ∀ (l : List Sh) (vs : List PV) (m m' : Mt) (x : ShD l), a5O H l vs m = some (x, m') → (∀ b ∈ m'.lent, a0J H' b = a0J H b) → a5O H' l vs m = some (x, m')
 | [], _, _, _, _, h, _ => h
 | _ :: _, [], _, _, _, h, _ => by simp [a5O] at h
 | s :: l, v :: vs, m, m', x, h, hl => by
  simp only [a5O] at h ⊢
  split at h
  ·
   rename_i y m1 hy
   split at h
   ·
    rename_i z m2 hz
    have h := Option.some.inj h; obtain ⟨rfl, rfl⟩ := Prod.mk.inj h
    have : s.ext' H' v m = some (y, m1) := by
     cases s with
     | dead => exact hy
     | _ => exact d5U _ v m m1 y hy fun b hb => hl b (d6F l vs m1 m2 z hz b hb)
    rw [this]
    simp only
    rw [d5S l vs m1 m2 z hz hl]
   ·
    cases h
  ·
   cases h
theorem d0C {H : List Blk} : ∀ (l : List BSh) (i : Nat) (m m' : Mt) (y : d7T l), b2F H l i m = some (y, m') → (∀ b ∈ m.lent, b ∈ m'.lent) ∧ ∀ k j, m.σ.get k = some j → m'.σ.get k = some j
 | [], _, m, m', y, h => by
  simp only [b2F, Option.some.injEq, Prod.mk.injEq] at h
  obtain ⟨_, rfl⟩ := h; exact ⟨fun b hb => hb, fun k j h => h⟩
 | b :: l, i, m, m', y, h => by
  simp only [b2F] at h
  split at h
  ·
   rename_i j hj
   split at h
   ·
    rename_i x m1 hx
    split at h
    ·
     rename_i z m2 hz
     have h := Option.some.inj h; obtain ⟨_, rfl⟩ := Prod.mk.inj h
     obtain ⟨r1, r2⟩ := d0C l (i + 1) m1 m2 z hz
     have q : (∀ b ∈ m.lent, b ∈ m1.lent) ∧ ∀ k j, m.σ.get k = some j → m1.σ.get k = some j := by
      cases b with
      | box t s =>
       cases hB : a0J H j with
       | box u v =>
        rw [hB] at hx
        simp only [BSh.ext] at hx
        split at hx
        ·
         split at hx
         ·
          rename_i w m3 hw
          split at hx
          ·
           have hx := Option.some.inj hx; obtain ⟨_, rfl⟩ := Prod.mk.inj hx
           refine ⟨c9Y s v m m3 w hw, ?_⟩
           have : ∀ (s : Sh) (v : PV) (m m' : Mt) (x : s.D), s.ext H v m = some (x, m') → ∀ k j, m.σ.get k = some j → m'.σ.get k = some j := by
            intro s
            induction s with
            | pl t =>
             intro v m m' x h k j hk
             simp only [Sh.ext] at h
             split at h
             ·
              have h := Option.some.inj h; obtain ⟨_, rfl⟩ := Prod.mk.inj h; exact hk
             ·
              cases h
            | bp t =>
             intro v m m' x h k j hk
             cases v with
             | bptr u y =>
              simp only [Sh.ext] at h
              split at h
              ·
               have h := Option.some.inj h; obtain ⟨_, rfl⟩ := Prod.mk.inj h; exact hk
              ·
               cases h
             | _ => simp [Sh.ext] at h
            | pair a c iha ihc =>
             intro v m m' x h k j hk
             cases v with
             | pair p q =>
              simp only [Sh.ext] at h
              split at h
              ·
               rename_i y m1 hy
               split at h
               ·
                rename_i z m2 hz
                have h := Option.some.inj h; obtain ⟨_, rfl⟩ := Prod.mk.inj h
                exact ihc q m1 m2 z hz k j (iha p m m1 y hy k j hk)
               ·
                cases h
              ·
               cases h
             | _ => simp [Sh.ext] at h
            | ptr b0 p =>
             intro v m m' x h k j hk
             cases v with
             | ptr c q =>
              simp only [Sh.ext] at h
              split at h
              ·
               split at h
               ·
                rename_i σ' hσ
                have h := Option.some.inj h; obtain ⟨_, rfl⟩ := Prod.mk.inj h; exact (c0V hσ).2 k j hk
               ·
                cases h
              ·
               cases h
             | _ => simp [Sh.ext] at h
            | npt =>
             intro v m m' x h k j hk
             cases v with
             | npt => simp only [Sh.ext] at h; have h := Option.some.inj h; obtain ⟨_, rfl⟩ := Prod.mk.inj h; exact hk
             | _ => simp [Sh.ext] at h
            | whole b0 =>
             intro v m m' x h k j hk
             cases v with
             | whole c =>
              simp only [Sh.ext] at h
              split at h
              ·
               rename_i σ' hσ
               have h := Option.some.inj h; obtain ⟨_, rfl⟩ := Prod.mk.inj h; exact (c0V hσ).2 k j hk
              ·
               cases h
             | _ => simp [Sh.ext] at h
            | fn f =>
             intro v m m' x h k j hk
             cases v with
             | fn g =>
              simp only [Sh.ext] at h
              split at h
              ·
               have h := Option.some.inj h; obtain ⟨_, rfl⟩ := Prod.mk.inj h; exact hk
              ·
               cases h
             | _ => simp [Sh.ext] at h
            | iface t s ih =>
             intro v m m' x h k j hk
             cases v with
             | iface u w =>
              simp only [Sh.ext] at h
              split at h
              ·
               exact ih w m m' x h k j hk
              ·
               cases h
             | _ => simp [Sh.ext] at h
            | clo f s ih =>
             intro v m m' x h k j hk
             cases v with
             | clo g w =>
              simp only [Sh.ext] at h
              split at h
              ·
               exact ih w m m' x h k j hk
              ·
               cases h
             | _ => simp [Sh.ext] at h
            | dead => intro v m m' x h; cases v <;> simp [Sh.ext] at h
           exact this s v m m3 w hw
          ·
           cases hx
         ·
          cases hx
        ·
         cases hx
       | _ => rw [hB] at hx; simp [BSh.ext] at hx
      | row t =>
       cases hB : a0J H j with
       | row u r =>
        rw [hB] at hx
        simp only [BSh.ext] at hx
        split at hx
        ·
         have hx := Option.some.inj hx; obtain ⟨_, rfl⟩ := Prod.mk.inj hx
         exact ⟨fun b hb => hb, fun k j h => h⟩
        ·
         cases hx
       | _ => rw [hB] at hx; simp [BSh.ext] at hx
     exact ⟨fun b hb => r1 b (q.1 b hb), fun k j hk => r2 k j (q.2 k j hk)⟩
    ·
     cases h
   ·
    cases h
  ·
   cases h
theorem e3H {H H' : List Blk} : ∀ (l : List BSh) (i : Nat) (m m' : Mt) (y : d7T l), b2F H l i m = some (y, m') → (∀ b ∈ m'.lent, a0J H' b = a0J H b) → (∀ k j, m'.σ.get k = some j → a0J H' j = a0J H j) → b2F H' l i m = some (y, m')
 | [], _, _, _, _, h, _, _ => h
 | b :: l, i, m, m', y, h, hl, hσ => by
  simp only [b2F] at h ⊢
  split at h
  ·
   rename_i j hj
   split at h
   ·
    rename_i x m1 hx
    split at h
    ·
     rename_i z m2 hz
     have h := Option.some.inj h; obtain ⟨rfl, rfl⟩ := Prod.mk.inj h
     have q := d0C l (i + 1) m1 m2 z hz
     have q0 := d0C (H := H) [b] i m m1 (x, ()) (by simp only [b2F, hj, hx])
     have hbj : a0J H' j = a0J H j := hσ i j (q.2 i j (q0.2 i j hj))
     have hx' : b.ext H' (a0J H' j) m = some (x, m1) := by
      rw [hbj]
      cases b with
      | box t s =>
       cases hB : a0J H j with
       | box u v =>
        rw [hB] at hx
        simp only [BSh.ext] at hx ⊢
        split at hx
        ·
         split at hx
         ·
          rename_i w m3 hw
          split at hx
          ·
           rename_i hf
           have hx := Option.some.inj hx; obtain ⟨rfl, rfl⟩ := Prod.mk.inj hx
           rw [d5U s v m m3 w hw fun b hb => hl b (q.1 b hb)]
           simp only [hf]
          ·
           cases hx
         ·
          cases hx
        ·
         cases hx
       | _ => rw [hB] at hx; simp [BSh.ext] at hx
      | row t =>
       cases hB : a0J H j with
       | row u r => rw [hB] at hx; exact hx
       | _ => rw [hB] at hx; simp [BSh.ext] at hx
     have hz' := e3H l (i + 1) m1 m2 z hz hl hσ
     simp only [hx', hz']
    ·
     cases h
   ·
    cases h
  ·
   cases h
theorem e6K {H H' : List Blk} {τ : Tm} {vs : List PV} {x : τ.D} {m : Mt} (h : τ.ext vs H = some (x, m)) (hl : ∀ b ∈ m.lent, a0J H' b = a0J H b) (hσ : ∀ k j, m.σ.get k = some j → a0J H' j = a0J H j) : τ.ext vs H' = some (x, m) := by
 unfold Tm.ext Tm.extF at h ⊢
 split at h
 ·
  rename_i y m1 hy
  split at h
  ·
   rename_i z m2 hz
   split at h
   ·
    rename_i hok
    have h := Option.some.inj h
    obtain ⟨rfl, rfl⟩ := Prod.mk.inj h
    rw [d5S τ.slots vs _ m1 y hy fun b hb => hl b ((d0C τ.heap 0 m1 m2 z hz).1 b hb)]
    simp only
    rw [e3H τ.heap 0 m1 m2 z hz hl hσ]
    simp only
    have : m2.okb H' τ.heap.length = m2.okb H τ.heap.length := by
     unfold Mt.okb
     congr 1
     generalize m2.lent = l at hl
     induction l with
     | nil => rfl
     | cons b l ih => simp only [List.all_cons]; rw [hl b (by simp), ih fun c hc => hl c (by simp [hc])]
    rw [this, hok]
   ·
    cases h
  ·
   cases h
 ·
  cases h
end Sym

/- The law of a call whose arguments point to blocks of the caller's own. -/
namespace Sym
open Go
theorem e1D : ∀ (l : List BSh), a8A l ≤ l.length
 | [] => Nat.le_refl _
 | .box _ _ :: l => by simp only [a8A, List.length_cons]; have := e1D l; omega
 | .row _ :: l => Nat.zero_le _
theorem c3E : ∀ (l r : List BSh) (x : d7T l) (y : d7T r), c1I l r = true → ∀ i, i < a8A l → i < r.length ∧ ∃ t v v', a0J (a2V l x) i = .box t v ∧ a0J (a2V r y) i = .box t v'
 | .box t s :: l, .box u s' :: r, x, y, h, i, hi => by
  simp only [c1I, Bool.and_eq_true] at h
  have e := Ty.beq_eq h.1
  subst e
  cases i with
  | zero => exact ⟨by simp, t, _, _, rfl, rfl⟩
  | succ i =>
   obtain ⟨h1, t', v, v', h2, h3⟩ := c3E l r x.2 y.2 h.2 i (by simpa [a8A] using hi)
   exact ⟨by simpa using h1, t', v, v', h2, h3⟩
 | .box _ _ :: _, [], _, _, h, _, _ => by cases h
 | .box _ _ :: _, .row _ :: _, _, _, h, _, _ => by cases h
 | [], _, _, _, _, i, hi => by simp [a8A] at hi
 | .row _ :: _, _, _, _, _, i, hi => by simp [a8A] at hi
theorem c2L (σ : Sub) (keep j : Nat) : ∀ n, j ∈ b6X σ keep n ↔ ∃ i, keep ≤ i ∧ i < n ∧ σ.get i = some j
 | 0 => by simp [b6X]
 | n + 1 => by
  have ih := c2L σ keep j n
  simp only [b6X]
  split
  ·
   rename_i k hb hk
   have hb := Nat.le_of_ble_eq_true hb
   simp only [List.mem_cons, ih]
   constructor
   ·
    rintro (rfl | ⟨i, h1, h2, h3⟩)
    ·
     exact ⟨n, hb, by omega, hk⟩
    ·
     exact ⟨i, h1, by omega, h3⟩
   ·
    rintro ⟨i, h1, h2, h3⟩
    by_cases e : i = n
    ·
     subst e; rw [hk] at h3; left; exact (Option.some.inj h3).symm
    ·
     exact .inr ⟨i, h1, by omega, h3⟩
  ·
   rename_i hno
   rw [ih]
   constructor
   ·
    rintro ⟨i, h1, h2, h3⟩; exact ⟨i, h1, by omega, h3⟩
   ·
    rintro ⟨i, h1, h2, h3⟩
    by_cases e : i = n
    ·
     subst e; exact absurd h3 (hno j (Nat.ble_eq_true_of_le h1))
    ·
     exact ⟨i, h1, by omega, h3⟩
theorem f3N (σ : Sub) (keep nb : Nat) (hin : ∀ i i' j, σ.get i = some j → σ.get i' = some j → i = i') (hk : ∀ i, i < keep → ∃ j, σ.get i = some j ∧ j < nb) : ∀ (B : List Blk) (i0 : Nat) (H : List Blk),
  (∀ k, i0 ≤ k → k < i0 + B.length → a0J (a2B H (e4U σ keep nb i0 B)) (c6Q σ keep nb k) = a8Y (c6Q σ keep nb) (a0J B (k - i0))) ∧
  (∀ j, (∀ k, i0 ≤ k → k < i0 + B.length → j ≠ c6Q σ keep nb k) → a0J (a2B H (e4U σ keep nb i0 B)) j = a0J H j) := by
 have hinj : ∀ k k', c6Q σ keep nb k = c6Q σ keep nb k' → k = k' := by
  intro k k' h
  unfold c6Q at h
  by_cases h1 : k < keep
  ·
   obtain ⟨j, hj, hl⟩ := hk k h1
   have e1 : Nat.ble (k + 1) keep = true := Nat.ble_eq_true_of_le h1
   rw [e1] at h
   simp only [hj] at h
   by_cases h2 : k' < keep
   ·
    obtain ⟨j', hj', _⟩ := hk k' h2
    have e2 : Nat.ble (k' + 1) keep = true := Nat.ble_eq_true_of_le h2
    rw [e2] at h
    simp only [hj'] at h
    subst h
    exact hin k k' j hj hj'
   ·
    have e2 : Nat.ble (k' + 1) keep = false := by
     cases hb : Nat.ble (k' + 1) keep with
     | false => rfl
     | true => have := Nat.le_of_ble_eq_true hb; omega
    rw [e2] at h
    simp only at h
    omega
  ·
   have e1 : Nat.ble (k + 1) keep = false := by
    cases hb : Nat.ble (k + 1) keep with
    | false => rfl
    | true => have := Nat.le_of_ble_eq_true hb; omega
   rw [e1] at h
   simp only at h
   by_cases h2 : k' < keep
   ·
    obtain ⟨j', hj', hl⟩ := hk k' h2
    have e2 : Nat.ble (k' + 1) keep = true := Nat.ble_eq_true_of_le h2
    rw [e2] at h
    simp only [hj'] at h
    omega
   ·
    have e2 : Nat.ble (k' + 1) keep = false := by
     cases hb : Nat.ble (k' + 1) keep with
     | false => rfl
     | true => have := Nat.le_of_ble_eq_true hb; omega
    rw [e2] at h
    simp only at h
    omega
 intro B
 induction B with
 | nil => intro i0 H; exact ⟨fun k h1 h2 => by simp at h2; omega, fun j _ => rfl⟩
 | cons b B ih =>
  intro i0 H
  obtain ⟨r1, r2⟩ := ih (i0 + 1) (b1U H (c6Q σ keep nb i0) (a8Y (c6Q σ keep nb) b))
  simp only [e4U, a2B, List.length_cons]
  refine ⟨fun k h1 h2 => ?_, fun j hj => ?_⟩
  ·
   by_cases e : k = i0
   ·
    subst e
    rw [r2 _ fun k' h3 h4 h5 => by have := hinj _ _ h5; omega, a4Q, if_pos rfl, Nat.sub_self]
    rfl
   ·
    rw [r1 k (by omega) (by omega), show k - i0 = (k - (i0 + 1)) + 1 by omega]
    rfl
  ·
   rw [r2 j fun k h3 h4 => hj k (by omega) (by omega), a4Q, if_neg (hj i0 (Nat.le_refl _) (by omega))]
theorem c4A (all : Bool) (args : List Nat) : ∀ (l : List Nat) (b : Nat), b ∈ d2U all args l → b ∈ l
 | [], _, h => by simp [d2U] at h
 | c :: l, b, h => by
  simp only [d2U] at h
  split at h
  ·
   simp only [List.mem_cons] at h ⊢
   exact h.imp id (c4A all args l b)
  ·
   exact List.mem_cons_of_mem _ (c4A all args l b h)
theorem c5C {all : Bool} {args : List Nat} : ∀ (l : List Nat) (b : Nat), b ∈ l → (all = true ∨ b ∉ args) → b ∈ d2U all args l
 | [], _, h, _ => by simp at h
 | c :: l, b, h, hc => by
  have memN_iff' : ∀ (b : Nat) (l : List Nat), e3X b l = true → b ∈ l := by
   intro b l
   induction l with
   | nil => intro h; cases h
   | cons c l ih =>
    intro h
    simp only [e3X, Bool.or_eq_true] at h
    rcases h with h | h
    ·
     rw [Nat.eq_of_beq_eq_true h]; simp
    ·
     simp [ih h]
  simp only [List.mem_cons] at h
  simp only [d2U]
  rcases h with rfl | h
  ·
   have : (all || !e3X b args) = true := by
    rcases hc with rfl | hc
    ·
     rfl
    ·
     cases hm : e3X b args with
     | false => simp
     | true => exact absurd (memN_iff' b args hm) hc
   rw [this]; simp
  ·
   have := c5C l b h hc
   split
   ·
    simp [this]
   ·
    exact this
section
variable {P : Program} {base : World} {G0 own0 : Nat → Prop} {o : Oper} {a : Act} {c : Cx}
theorem e2X (hM : Mem base G0 own0 c) {f0 : FuncId} {us : List Value} (hex : (execOp a.eval o).run P c.w = (callFunc f0 us.toArray).run P c.w) {C : Con} (hC : a1K P f0 C) (hko : c1I C.In.heap C.Out.heap = true) {vs : List PV} (ha : All2 (VOk c) vs us) (hlen : vs.length = C.In.slots.length)
  {x : C.In.D} {m : Mt} (hx : C.In.ext vs c.H = some (x, m)) {y : C.Out.D} (hy : C.F x = some y) {nb : Nat} (hnb : ∀ i j, m.σ.get i = some j → j < nb) (hn : ∀ i, a8A C.In.heap ≤ i → i < C.Out.heap.length → a0J c.H (nb + (i - a8A C.In.heap)) = .unborn)
  {L : List Nat} (hL : ∀ b ∈ L, b ∈ m.lent) (hLa : C.Out.hasSl = true → ∀ b ∈ m.lent, b ∈ L) :
  a4B P base G0 own0 o a c (b6Z (c6Q m.σ (a8A C.In.heap) nb) (tuple (a1O C.Out.slots y.1))) (kill L ++ (kill (b6X m.σ (a8A C.In.heap) C.In.heap.length) ++ e4U m.σ (a8A C.In.heap) nb 0 (a2V C.Out.heap y.2))) := by
 obtain ⟨keep, hkeep⟩ : ∃ keep, keep = a8A C.In.heap := ⟨_, rfl⟩
 rw [← hkeep] at hn ⊢
 have hkl : keep ≤ C.In.heap.length := by rw [hkeep]; exact e1D _
 obtain ⟨t1, t2, t3, t4, t5, t6⟩ := e2N hM.blk hx
 obtain ⟨hblk, hargs⟩ := t6 (a9A c m.lent) (fun r h => h)
 obtain ⟨us', e1, e2, hargs⟩ := hargs _ ha
 have hll : us.length = C.In.slots.length := by
  rw [← hlen]
  have : ∀ (vs : List PV) (us : List Value), All2 (VOk c) vs us → us.length = vs.length := by
   intro vs
   induction vs with
   | nil => intro us h; cases us with | nil => rfl | cons _ _ => exact h.elim
   | cons v vs ih => intro us h; cases us with | nil => exact h.elim | cons u us => simp [ih us h.2]
  exact this vs _ ha
 have e1 : us = us' := by
  rw [List.drop_of_length_le (by omega)] at e1
  simpa using e1
 subst e1
 let cc := a8Z c C.In x m (a9A c m.lent)
 have hccH : cc.H = a2V C.In.heap x.2 := rfl
 have hccρ : ∀ i j, m.σ.get i = some j → cc.ρ i = c.ρ j := fun i j h => by simp [cc, a8Z, h]
 have hlive : ∀ i, live (a0J cc.H i) = true → ∃ j, m.σ.get i = some j ∧ live (a0J c.H j) = true := by
  intro i hi
  have hlt : i < C.In.heap.length := by
   rcases Nat.lt_or_ge i C.In.heap.length with h | h
   ·
    exact h
   ·
    rw [b1I _ _ (by rw [hccH, a7X]; exact h)] at hi; cases hi
  obtain ⟨j, hj⟩ := t3 i hlt
  refine ⟨j, hj, ?_⟩
  have := t5 i j hj
  have c9I : ∀ {B B' : Blk}, b3L B B' → live B = live B' := by
   intro B B' h
   cases B <;> cases B' <;> first | rfl | exact h.elim | (simp [b3L] at h)
  rw [← c9I this]; exact hi
 have hbl : ∀ i j, m.σ.get i = some j → live (a0J c.H j) = true := by
  intro i j hij
  obtain ⟨b, hb, xb, hbx⟩ := b6I C.In.heap x.2 i (t2 i j hij)
  obtain ⟨j', hj', hl'⟩ := hlive i (by rw [hccH, hbx]; cases b <;> rfl)
  rw [hij] at hj'
  rw [Option.some.inj hj']; exact hl'
 have hGl : ∀ r, a9A c m.lent r → r < c.w.heap.size := by
  rintro r (h | ⟨b, hb, hl, he⟩)
  ·
   rw [hM.G] at h; exact h.2.1
  ·
   exact (hM.blk b).lt hl he
 have hGdis : ∀ r, a9A c m.lent r → ∀ i j, m.σ.get i = some j → a3V (c.ρ j) ≠ some r := by
  intro r hr i j hij he
  rcases hr with hr | ⟨b, hb, hl, he'⟩
  ·
   rw [hM.G] at hr; exact hr.2.2 j (hbl i j hij) he
  ·
   have : b = j := hM.inj b j r hl (hbl i j hij) he' he
   subst this
   have := (t1 b hb).1
   rw [b3V m.σ i b hij] at this
   cases this
 have hS : Start cc := by
  refine ⟨hblk, fun b b' r hb hb' he he' => ?_, fun r hr => ⟨hGl r hr, fun b hb he => ?_⟩⟩
  ·
   obtain ⟨j, hj, hlj⟩ := hlive b hb
   obtain ⟨j', hj', hlj'⟩ := hlive b' hb'
   rw [hccρ b j hj] at he
   rw [hccρ b' j' hj'] at he'
   have := hM.inj j j' r hlj hlj' he he'
   subst this
   exact t4 b b' j hj hj'
  ·
   obtain ⟨j, hj, hlj⟩ := hlive b hb
   rw [hccρ b j hj] at he
   exact hGdis r hr b j hj he
 have hcall := hC x y hy _ _ hS rfl hargs
 have hown : ∀ r, c0Q cc r → ∃ i j, m.σ.get i = some j ∧ a3V (c.ρ j) = some r := by
  rintro r ⟨b, hb, he⟩
  obtain ⟨j, hj, hlj⟩ := hlive b hb
  rw [hccρ b j hj] at he
  exact ⟨b, j, hj, he⟩
 have after : ∀ v w', (∃ c' : Cx, c'.w = w' ∧ c'.H = a2V C.Out.heap y.2 ∧ VOk c' (tuple (a1O C.Out.slots y.1)) v ∧ Mem c.w (e3Y cc) (c0Q cc) c' ∧ ∀ i, i < a8A C.In.heap → c'.ρ i = cc.ρ i) →
   ∃ c2 : Cx, c2.w = w' ∧ Ext c c2 ∧ Mem base G0 own0 c2 ∧ c2.H = a2B c.H (kill L ++ (kill (b6X m.σ keep C.In.heap.length) ++ e4U m.σ keep nb 0 (a2V C.Out.heap y.2))) ∧ VOk c2 (b6Z (c6Q m.σ keep nb) (tuple (a1O C.Out.slots y.1))) v := by
  rintro v w' ⟨c', rfl, hH', hv', hM', hkρ⟩
  rw [← hkeep] at hkρ
  have hlc := a7X C.Out.heap y.2
  obtain ⟨c1, hw1, hH1, hρ1, hE1, hM1, hG1, hsame1⟩ := c9M hM L (fun b hb => (t1 b (hL b hb)).2)
  have hbnd1 : ∀ i j, m.σ.get i = some j → a0J c1.H j = a0J c.H j := fun i j hij => hsame1 j fun hj => by
   have := (t1 j (hL j hj)).1
   rw [b3V m.σ i j hij] at this; cases this
  obtain ⟨f, hf⟩ : ∃ f, f = c6Q m.σ keep nb := ⟨_, rfl⟩
  have fk : ∀ i j, i < keep → m.σ.get i = some j → f i = j := by
   intro i j hi hij
   rw [hf]; unfold c6Q
   rw [show Nat.ble (i + 1) keep = true from Nat.ble_eq_true_of_le hi]
   simp only [hij]
  have fn' : ∀ i, keep ≤ i → f i = nb + (i - keep) := by
   intro i hi
   rw [hf]; unfold c6Q
   rw [show Nat.ble (i + 1) keep = false by
    cases hb : Nat.ble (i + 1) keep with
    | false => rfl
    | true => have := Nat.le_of_ble_eq_true hb; omega]
  let H2 := a2B c1.H (kill (b6X m.σ keep C.In.heap.length) ++ e4U m.σ keep nb 0 (a2V C.Out.heap y.2))
  have hput : ∀ (l : List Nat) (H : List Blk) (b : Nat), a0J (a2B H (kill l)) b = if b ∈ l then .dead else a0J H b := by
   intro l
   induction l with
   | nil => intro H b; simp [kill, a2B]
   | cons x l ih =>
    intro H b
    have : a2B H (kill (x :: l)) = a2B (b1U H x .dead) (kill l) := rfl
    rw [this, ih, a4Q]
    by_cases h1 : b ∈ l
    ·
     simp [h1]
    ·
     by_cases h2 : b = x <;> simp [h1, h2]
  obtain ⟨o1, o2⟩ := f3N m.σ keep nb t4 (fun i hi => by
   obtain ⟨j, hj⟩ := t3 i (by omega)
   exact ⟨j, hj, hnb i j hj⟩) (a2V C.Out.heap y.2) 0 (a2B c1.H (kill (b6X m.σ keep C.In.heap.length)))
  rw [← hf] at o1 o2
  simp only [Nat.zero_add, hlc, Nat.sub_zero] at o1 o2
  have hH2o : ∀ i, i < C.Out.heap.length → a0J H2 (f i) = a8Y f (a0J (a2V C.Out.heap y.2) i) := fun i hi => by
   show a0J (a2B c1.H (_ ++ _)) _ = _
   rw [a5Y]; exact o1 i (Nat.zero_le _) hi
  have hH2u : ∀ j, (∀ i, i < C.Out.heap.length → j ≠ f i) → a0J H2 j = if j ∈ b6X m.σ keep C.In.heap.length then .dead else a0J c1.H j := fun j hj => by
   show a0J (a2B c1.H (_ ++ _)) _ = _
   rw [a5Y]
   have := o2 j (fun i _ hi => hj i hi)
   rw [this, hput]
  have hkb : ∀ i, i < keep → i < C.Out.heap.length ∧ ∃ t v v', a0J (a2V C.In.heap x.2) i = .box t v ∧ a0J (a2V C.Out.heap y.2) i = .box t v' := fun i hi => c3E _ _ x.2 y.2 hko i (by rw [← hkeep]; exact hi)
  have fin : ∀ i i', f i = f i' → i < C.Out.heap.length → i' < C.Out.heap.length → i = i' := by
   intro i i' h _ _
   by_cases h1 : i < keep
   ·
    obtain ⟨j, hj⟩ := t3 i (by omega)
    rw [fk i j h1 hj] at h
    by_cases h2 : i' < keep
    ·
     obtain ⟨j', hj'⟩ := t3 i' (by omega)
     rw [fk i' j' h2 hj'] at h
     subst h
     exact t4 i i' j hj hj'
    ·
     rw [fn' i' (by omega)] at h
     have := hnb i j hj; omega
   ·
    rw [fn' i (by omega)] at h
    by_cases h2 : i' < keep
    ·
     obtain ⟨j', hj'⟩ := t3 i' (by omega)
     rw [fk i' j' h2 hj'] at h
     have := hnb i' j' hj'; omega
    ·
     rw [fn' i' (by omega)] at h
     omega
  let ρ2 : Nat → Value := fun j => if nb ≤ j ∧ j < nb + (C.Out.heap.length - keep) then c'.ρ (keep + (j - nb)) else c.ρ j
  have hkO : keep ≤ C.Out.heap.length := by
   rcases Nat.eq_zero_or_pos keep with h | h
   ·
    omega
   ·
    have := (hkb (keep - 1) (by omega)).1; omega
  have hρ2 : ∀ i, i < C.Out.heap.length → ρ2 (f i) = c'.ρ i := by
   intro i hi
   by_cases h1 : i < keep
   ·
    obtain ⟨j, hj⟩ := t3 i (by omega)
    rw [fk i j h1 hj]
    have := hnb i j hj
    simp only [ρ2]
    rw [if_neg (by omega), hkρ i h1, hccρ i j hj]
   ·
    rw [fn' i (by omega)]
    simp only [ρ2]
    rw [if_pos ⟨by omega, by omega⟩, show keep + (nb + (i - keep) - nb) = i by omega]
  let D : Nat → Prop := fun j => (∃ i, i < C.Out.heap.length ∧ j = f i) ∨ j ∈ b6X m.σ keep C.In.heap.length
  have hDlive : ∀ j, live (a0J H2 j) = true → D j → ∃ i, i < C.Out.heap.length ∧ j = f i ∧ live (a0J c'.H i) = true ∧ ρ2 j = c'.ρ i := by
   intro j hl hD
   by_cases hex : ∃ i, i < C.Out.heap.length ∧ j = f i
   ·
    obtain ⟨i, hi, rfl⟩ := hex
    refine ⟨i, hi, rfl, ?_, hρ2 i hi⟩
    rw [hH2o i hi, c0H] at hl
    rw [hH']; exact hl
   ·
    have hno : ∀ i, i < C.Out.heap.length → j ≠ f i := fun i hi e => hex ⟨i, hi, e⟩
    rw [hH2u j hno] at hl
    rcases hD with h | h
    ·
     exact absurd h hex
    ·
     rw [if_pos h] at hl; cases hl
  have hbD : ∀ i j, m.σ.get i = some j → D j := by
   intro i j hij
   by_cases h1 : i < keep
   ·
    left; exact ⟨i, (hkb i h1).1, (fk i j h1 hij).symm⟩
   ·
    right; exact (c2L _ _ _ _).2 ⟨i, by omega, t2 i j hij, hij⟩
  have hT : Turn base G0 own0 c1 (Cx.next base G0 c'.w ρ2 H2) D := by
   refine ⟨hM'.os.trans (by rw [hw1]), hM'.tape.trans (by rw [hw1]), hM'.output.trans (by rw [hw1]), by show c1.w.heap.size ≤ c'.w.heap.size; rw [hw1]; exact hM'.size, fun j hj => ?_, fun j hj => ?_, fun r hr hfr => ?_, fun j hj => ?_, fun j r hj hl he => ?_, fun j j' r hj hj' hl hl' he he' => ?_, rfl⟩
   ·
    show ρ2 j = c1.ρ j
    rw [hρ1]
    simp only [ρ2]
    rw [if_neg]
    rintro ⟨h1, h2⟩
    exact hj (.inl ⟨keep + (j - nb), by omega, by rw [fn' _ (by omega)]; omega⟩)
   ·
    show a0J H2 j = _
    rw [hH2u j fun i hi e => hj (.inl ⟨i, hi, e⟩), if_neg fun h => hj (.inr h)]
   ·
    show c'.w.heap[r]? = c1.w.heap[r]?
    rw [hw1] at hr ⊢
    refine hM'.frame r hr fun ho => ?_
    obtain ⟨i, j, hij, he⟩ := hown r ho
    exact hfr j (hbD i j hij) (by rw [hbnd1 i j hij]; exact hbl i j hij) (by rw [hρ1]; exact he)
   ·
    
    unfold b7O
    show match a0J c1.H j, a0J H2 j with
     | .unborn, _ => True
     | _, .dead => True
     | .box t _, .box t' _ => t' = t ∧ ρ2 j = c1.ρ j
     | .row t l, .row t' l' => t' = t ∧ l'.length = l.length ∧ ρ2 j = c1.ρ j
     | _, _ => False
    by_cases hex : ∃ i, i < C.Out.heap.length ∧ j = f i
    ·
     obtain ⟨i, hi, rfl⟩ := hex
     by_cases h1 : i < keep
     ·
      obtain ⟨j, hj⟩ := t3 i (by omega)
      obtain ⟨_, t, v1, v2, q1, q2⟩ := hkb i h1
      rw [hH2o i hi, q2]
      have hs := t5 i j hj
      rw [q1] at hs
      have e := fk i j h1 hj
      rw [e, hbnd1 i j hj]
      cases hcj : a0J c.H j with
      | box u w =>
       rw [hcj] at hs
       simp only [b3L] at hs
       refine ⟨hs, ?_⟩
       rw [← e, hρ2 i hi, hkρ i h1, hccρ i j hj, hρ1, e]
      | _ => rw [hcj] at hs; simp [b3L] at hs
     ·
      have hb := hn i (by omega) hi
      have hnl : f i ∉ L := fun h => by
       have := (t1 _ (hL _ h)).2
       rw [fn' i (by omega), hb] at this; cases this
      rw [hsame1 _ hnl, fn' i (by omega), hb]
      trivial
    ·
     have hno : ∀ i, i < C.Out.heap.length → j ≠ f i := fun i hi e => hex ⟨i, hi, e⟩
     rw [hH2u j hno]
     rcases hj with h | h
     ·
      exact absurd h hex
     ·
      rw [if_pos h]; cases a0J c1.H j <;> trivial
   ·
    obtain ⟨i, hi, rfl, hli, hρi⟩ := hDlive j hl hj
    have he : a3V (ρ2 (f i)) = some r := he
    rw [hρi] at he
    rw [hw1]
    rcases hM'.own i r hli he with h | h
    ·
     right
     obtain ⟨i', j', hij, he'⟩ := hown r h
     exact ⟨j', hbD i' j' hij, by rw [hbnd1 i' j' hij]; exact hbl i' j' hij, by rw [hρ1]; exact he'⟩
    ·
     exact .inl h
   ·
    obtain ⟨i, hi, rfl, hli, hρi⟩ := hDlive j hl hj
    obtain ⟨i', hi', rfl, hli', hρi'⟩ := hDlive j' hl' hj'
    have he : a3V (ρ2 (f i)) = some r := he
    have he' : a3V (ρ2 (f i')) = some r := he'
    rw [hρi] at he
    rw [hρi'] at he'
    rw [hM'.inj i i' r hli hli' he he']
  have hE := hT.ext hM1
  have hren : Ren c' (Cx.next base G0 c'.w ρ2 H2) f := by
   refine ⟨rfl, fun i hi => ?_⟩
   have hlt : i < C.Out.heap.length := by
    rcases Nat.lt_or_ge i C.Out.heap.length with h | h
    ·
     exact h
    ·
     exact absurd (b1I c'.H i (by rw [hH', hlc]; exact h)) hi
   simp only [Cx.next]
   rw [hH2o i hlt, hH']
   exact ⟨rfl, hρ2 i hlt⟩
  have hGG : C.Out.hasSl = true → ∀ r, c'.G r → (Cx.next base G0 c'.w ρ2 H2).G r := by
   intro hsl r hr
   rw [hM'.G] at hr
   obtain ⟨h1, h2, h3⟩ := hr
   have notD : ∀ j, live (a0J H2 j) = true → a3V (ρ2 j) = some r → ¬ D j := by
    intro j hl he hD
    obtain ⟨i, hi, rfl, hli, hρi⟩ := hDlive j hl hD
    rw [hρi] at he
    exact h3 i hli he
   have old : ∀ j, live (a0J H2 j) = true → a3V (ρ2 j) = some r → live (a0J c.H j) = true ∧ a3V (c.ρ j) = some r := by
    intro j hl he
    have hnD := notD j hl he
    have hno : ∀ i, i < C.Out.heap.length → j ≠ f i := fun i hi e => hnD (.inl ⟨i, hi, e⟩)
    rw [hH2u j hno, if_neg fun h => hnD (.inr h)] at hl
    have hjl : j ∉ L := fun h => by
     have : a0J c1.H j = .dead := by rw [hH1, hput, if_pos h]
     rw [this] at hl; cases hl
    rw [hsame1 j hjl] at hl
    refine ⟨hl, ?_⟩
    have : ρ2 j = c.ρ j := by
     simp only [ρ2]
     rw [if_neg]
     rintro ⟨q1, q2⟩
     exact hnD (.inl ⟨keep + (j - nb), by omega, by rw [fn' _ (by omega)]; omega⟩)
    rw [← this]; exact he
   rcases h1 with (h1 | h1) | h1
   ·
    exact (hE.G r (hG1 r (by
     rcases h1 with h1 | ⟨b, hb, hl, he⟩
     ·
      exact .inl h1
     ·
      exact .inr ⟨b, hLa hsl b hb, hl, he⟩))).1
   ·
    obtain ⟨i, j, hij, he⟩ := hown r h1
    refine ⟨?_, h2, fun j' hl' he' => ?_⟩
    ·
     rcases hM.own j r (hbl i j hij) he with h4 | h4
     ·
      exact .inl (hM.sub r h4)
     ·
      exact .inr h4
    ·
     obtain ⟨q1, q2⟩ := old j' hl' he'
     have := hM.inj j j' r (hbl i j hij) q1 he q2
     subst this
     exact notD j hl' he' (hbD i j hij)
   ·
    refine ⟨.inr (by have := hM.size; omega), h2, fun j' hl' he' => ?_⟩
    obtain ⟨q1, q2⟩ := old j' hl' he'
    have := (hM.blk j').lt q1 q2
    omega
  have hMem := hT.mem hM1 fun j hj => by
   by_cases hex : ∃ i, i < C.Out.heap.length ∧ j = f i
   ·
    obtain ⟨i, hi, rfl⟩ := hex
    have hb := hM'.blk i
    obtain ⟨b, hbl2, xb, hbk⟩ := b6I C.Out.heap y.2 i hi
    have hbh : C.Out.hasSl = false → b.hasSl = false := by
     intro hsl
     simp only [Tm.hasSl, Bool.or_eq_false_iff] at hsl
     have := hsl.2
     rw [List.any_eq_false] at this
     have := this b (List.mem_of_getElem? hbl2)
     simpa using this
    unfold BlkOk at hb ⊢
    simp only [Cx.next]
    rw [hH2o i hi, hbk]
    rw [hH', hbk] at hb
    cases b with
    | box t s =>
     simp only [BSh.mk, a8Y] at hb ⊢
     obtain ⟨r, cs, ty, k1, k2, k3, k4⟩ := hb
     refine ⟨r, cs, ty, by rw [hρ2 i hi]; exact k1, k2, b9X hren _ cs ?_ k3, by rw [d6E]; exact k4⟩
     cases hsl : C.Out.hasSl with
     | true => exact .inl (hGG hsl)
     | false => exact .inr (b9T s xb (by have := hbh hsl; simpa [BSh.hasSl] using this))
    | row t =>
     simp only [BSh.mk, a8Y] at hb ⊢
     obtain ⟨hl, e, xs, ho', hx'⟩ := hb
     refine ⟨hl, e, xs, by rw [hρ2 i hi]; exact ho', a9E (fun z cs hz => ?_) _ xs hx'⟩
     cases hsl : C.Out.hasSl with
     | true => exact b8Q (hGG hsl) hz
     | false => exact b8H t (by have := hbh hsl; simpa [BSh.hasSl] using this) z cs hz
   ·
    have hno : ∀ i, i < C.Out.heap.length → j ≠ f i := fun i hi e => hex ⟨i, hi, e⟩
    unfold BlkOk
    simp only [Cx.next]
    rw [hH2u j hno]
    rcases hj with h | h
    ·
     exact absurd h hex
    ·
     rw [if_pos h]; trivial
  refine ⟨Cx.next base G0 c'.w ρ2 H2, rfl, hE1.trans hE, hMem, by show H2 = _; rw [a5Y, ← hH1], ?_⟩
  rw [← hf]
  refine f9O hren ?_ hv'
  cases hsl : C.Out.hasSl with
  | true => exact .inl (hGG hsl)
  | false => exact .inr (c7I _ _ (by simp only [Tm.hasSl, Bool.or_eq_false_iff] at hsl; exact hsl.1))
 intro K Q hK
 unfold Oper.wp
 rw [hex]
 rcases hcall with ⟨v, w', hr, hR⟩ | ⟨hr, hR⟩
 ·
  have hr : (callFunc f0 us.toArray).run P c.w = .ok (.value v) w' := hr
  rw [hr]
  obtain ⟨c2, rfl, g1, g2, g3, g4⟩ := after v w' hR
  exact hK v c2 g1 g2 g3 g4
 ·
  have hr : (callFunc f0 us.toArray).run P c.w = .ok (.enter f0 us.toArray) c.w := hr
  rw [hr]
  refine Calls.mono hR ?_
  rintro e w' ⟨v, rfl, hR⟩
  obtain ⟨c2, rfl, g1, g2, g3, g4⟩ := after v w' hR
  exact hK v c2 g1 g2 g3 g4
theorem c7F {P : Program} {R : Type} {T : R → Prop} {fail : R} (hf : ¬ T fail) {f : FuncId} {C : Con} (hC : a1K P f C) {vs : List PV} {H : List Blk} {nb : Nat} {K : PV → List (Nat × Blk) → R} (h : T (c8Q fail C vs H nb K)) :
  ∃ pv δ, T (K pv δ) ∧ ∀ (base : World) (G0 own0 : Nat → Prop) (o : Oper) (a : Act) (c : Cx) (us : List Value), Mem base G0 own0 c → Ag H c.H (a8T vs) → All2 (VOk c) vs us → (execOp a.eval o).run P c.w = (callFunc f us.toArray).run P c.w →
   (∀ p ∈ δ, nb ≤ p.1 → a0J c.H p.1 = .unborn) → (∀ p ∈ δ, p.1 < nb → a0J c.H p.1 = a0J H p.1) → a4B P base G0 own0 o a c pv δ := by
 unfold c8Q at h
 split at h
 ·
  rename_i hin
  split at h
  ·
   rename_i x m hx hl
   unfold optF at h
   split at h
   ·
    rename_i y hy
    refine ⟨_, _, h, fun base G0 own0 o a c us hM hag ha hex hn _ => ?_⟩
    rw [← d6U hin vs (H' := c.H) hag] at hx
    refine e5V hM hex hC hin ha (Nat.eq_of_beq_eq_true hl) hx hy fun i hi => ?_
    have hlen := a7X C.Out.heap y.2
    have hmem : ∀ (B : List Blk) (j : Nat) (i : Nat), i < B.length → ∃ b, (nb + (j + i), b) ∈ b6H nb j B := by
     intro B
     induction B with
     | nil => intro j i h; simp at h
     | cons b B ih =>
      intro j i h
      cases i with
      | zero => exact ⟨_, List.mem_cons_self⟩
      | succ i =>
       obtain ⟨b', hb'⟩ := ih (j + 1) i (by simpa using h)
       exact ⟨b', List.mem_cons_of_mem _ (by rw [show j + (i + 1) = j + 1 + i by omega]; exact hb')⟩
    obtain ⟨b, hb⟩ := hmem (a2V C.Out.heap y.2) 0 i (by omega)
    have := hn _ (List.mem_append_right _ hb) (by simp)
    simpa using this
   ·
    exact absurd h hf
  ·
   exact absurd h hf
 ·
  split at h
  ·
   rename_i x m hx
   split at h
   ·
    rename_i hl
    simp only [Bool.and_eq_true] at hl
    obtain ⟨hl, hko, hbl, hll⟩ := hl
    unfold optF at h
    split at h
    ·
     rename_i y hy
     refine ⟨_, _, h, fun base G0 own0 o a c us hM hag ha hex hn hag2 => ?_⟩
     have hag1 : ∀ b, b ∈ a8T vs → a0J c.H b = a0J H b := hag
     have hlt : ∀ b ∈ m.lent, b < nb := by
      intro b hb
      rw [List.all_eq_true] at hll
      exact Nat.le_of_ble_eq_true (hll b hb)
     have hbnd : ∀ n i j, e5N m.σ nb n = true → i < n → m.σ.get i = some j → j < nb := by
      intro n
      induction n with
      | zero => intro i j _ h; omega
      | succ n ih =>
       intro i j hb hi hij
       simp only [e5N, Bool.and_eq_true] at hb
       by_cases e : i = n
       ·
        subst e; rw [hij] at hb; exact Nat.le_of_ble_eq_true hb.1
       ·
        exact ih i j hb.2 (by omega) hij
     have hkey : ∀ i j, m.σ.get i = some j → i < C.In.heap.length := by
      intro i j hij
      unfold Tm.ext Tm.extF at hx
      split at hx
      ·
       split at hx
       ·
        split at hx
        ·
         rename_i hok
         have hx := Option.some.inj hx
         obtain ⟨_, rfl⟩ := Prod.mk.inj hx
         simp only [Mt.okb, Bool.and_eq_true] at hok
         exact c8Z _ _ hok.2.1 i j hij
        ·
         cases hx
       ·
        cases hx
      ·
       cases hx
     have hout : ∀ (B : List Blk) (i0 i : Nat), i < B.length → ∃ b, (c6Q m.σ (a8A C.In.heap) nb (i0 + i), b) ∈ e4U m.σ (a8A C.In.heap) nb i0 B := by
      intro B
      induction B with
      | nil => intro i0 i h; simp at h
      | cons b B ih =>
       intro i0 i h
       cases i with
       | zero => exact ⟨_, List.mem_cons_self⟩
       | succ i =>
        obtain ⟨b', hb'⟩ := ih (i0 + 1) i (by simpa using h)
        exact ⟨b', List.mem_cons_of_mem _ (by rw [show i0 + (i + 1) = i0 + 1 + i by omega]; exact hb')⟩
     have hlen := a7X C.Out.heap y.2
     have hx' : C.In.ext vs c.H = some (x, m) := by
      refine e6K hx (fun b hb => ?_) fun i j hij => ?_
      ·
       by_cases hv : b ∈ a8T vs
       ·
        exact hag1 b hv
       ·
        exact hag2 (b, .dead) (List.mem_append_left _ (List.mem_map.2 ⟨b, c5C (all := C.Out.hasSl) m.lent b hb (.inr hv), rfl⟩)) (hlt b hb)
      ·
       have hj := hbnd _ i j hbl (hkey i j hij) hij
       by_cases hi : i < a8A C.In.heap
       ·
        obtain ⟨hiO, _⟩ := c3E _ _ x.2 y.2 hko i hi
        obtain ⟨b, hb⟩ := hout (a2V C.Out.heap y.2) 0 i (by omega)
        have hr : c6Q m.σ (a8A C.In.heap) nb (0 + i) = j := by
         unfold c6Q
         rw [Nat.zero_add, show Nat.ble (i + 1) (a8A C.In.heap) = true from Nat.ble_eq_true_of_le hi]
         simp only [hij]
        rw [hr] at hb
        exact hag2 (j, b) (List.mem_append_right _ (List.mem_append_right _ hb)) hj
       ·
        exact hag2 (j, .dead) (List.mem_append_right _ (List.mem_append_left _ (List.mem_map.2 ⟨j, (c2L _ _ _ _).2 ⟨i, by omega, hkey i j hij, hij⟩, rfl⟩))) hj
     refine e2X hM hex hC hko ha (Nat.eq_of_beq_eq_true hl) hx' hy (fun i j hij => hbnd _ i j hbl (hkey i j hij) hij) (fun i hi1 hi2 => ?_) (fun b hb => c4A _ _ _ b hb) (fun hs b hb => c5C m.lent b hb (.inl hs))
     obtain ⟨b, hb⟩ := hout (a2V C.Out.heap y.2) 0 i (by omega)
     have hr : c6Q m.σ (a8A C.In.heap) nb (0 + i) = nb + (i - a8A C.In.heap) := by
      unfold c6Q
      rw [Nat.zero_add, show Nat.ble (i + 1) (a8A C.In.heap) = false by
       cases hb : Nat.ble (i + 1) (a8A C.In.heap) with
       | false => rfl
       | true => have := Nat.le_of_ble_eq_true hb; omega]
     rw [hr] at hb
     exact hn (nb + (i - a8A C.In.heap), b) (List.mem_append_right _ (List.mem_append_right _ hb)) (Nat.le_add_right _ _)
    ·
     exact absurd h hf
   ·
    exact absurd h hf
  ·
   exact absurd h hf
end
end Sym

/- The laws of single operations, fifteenth part: strings. -/
namespace Sym
open Go
section
variable {P : Program} {base : World} {G0 own0 : Nat → Prop} {o : Oper} {a : Act} {c : Cx}
theorem e9E {X : Type} (d : X) : ∀ (l : List X) (i : Nat) (h : i < l.length), rdL d l i = l[i]
 | [], _, h => absurd h (Nat.not_lt_zero _)
 | _ :: _, 0, _ => rfl
 | _ :: l, i + 1, h => e9E d l i (Nat.lt_of_succ_lt_succ h)
theorem c9Z (hM : Mem base G0 own0 c) {id : TypeId} {x y : Operand} (ho : o.op = .index id x y) (ht : TOk P .str id) {k : IntKind} {i : I k} {z : List (I .u8)} (hi : inB i (a0O z) = true)
  (hx : VOk c (.val .str z) (a.eval x)) (hy : VOk c (.val (.int k) i) (a.eval y)) : a4B P base G0 own0 o a c (.val (.int .u8) (rdL (I.of .u8 0) z i.nat)) [] := by
 obtain ⟨h0, h1, h1n, h2⟩ := b5B hi
 obtain ⟨_, hu⟩ := ht
 have h1' : i.nat < z.length := h1n
 refine a1F hM (v := .int .u8 (rdL (I.of .u8 0) z i.nat).val) ?_ (ok_int _)
 have hs := b4N z
 have hr := run_index_string (P := P) c.w id (bytesOf z) k i.val hu
 rw [dif_pos ⟨h0, by rw [hs]; exact h1⟩] at hr
 have he : (((bytesOf z)[i.val.toNat]'(by rw [hs]; exact h1n)).toNat : Int) = (rdL (I.of .u8 0) z i.nat).val := by
  rw [e9E _ _ _ h1']
  show (((z.map byteOf).toArray[i.nat]'(by simpa using h1n)).toNat : Int) = _
  rw [List.getElem_toArray, List.getElem_map, b3T]
 rw [he] at hr
 simp only [execOp, ho, (d4Q hx).1, b1E hy, Sem.run_bind, hr, Result.andThen_ok, Sem.run_pure]
theorem e3Z {a b : ByteArray} (h : a.data.toList = b.data.toList) : a = b := by
 obtain ⟨⟨a⟩⟩ := a
 obtain ⟨⟨b⟩⟩ := b
 have h : a = b := h
 rw [h]
theorem c8S (hM : Mem base G0 own0 c) {id : TypeId} {x : Operand} {lo hi : Option Operand} (ho : o.op = .slice id x lo hi none) (ht : TOk P .str id) {bs : List PV} (ha : All2 (VOk c) bs (lo.toList.map a.eval ++ hi.toList.map a.eval))
  {y : List (I .u8)} {n : Nat} {b1 b2 : Bool × Nat} (hb : a8B (some (a0O y)) lo.isSome hi.isSome bs = some (n, b1, b2)) (h1 : b1.1 = true) (h2 : b2.1 = true) (hx : VOk c (.val .str y) (a.eval x)) :
  a4B P base G0 own0 o a c (.val .str (a6E y b1.2 (b2.2 - b1.2))) [] := by
 obtain ⟨hv, hlim⟩ := d4Q hx
 have hn := (a5K (P := P) lo hi bs ha hb h1 h2 false n (Nat.le_refl _) c.w).2.2.2
 have hn : y.length = n := Option.some.inj hn
 obtain ⟨hr1, hle, hle', _⟩ := a5K (P := P) lo hi bs ha hb h1 h2 false n (Nat.le_refl _) c.w
 obtain ⟨_, hu⟩ := ht
 have hs := b4N y
 have hex : (bytesOf y).extract b1.2 b2.2 = bytesOf (a6E y b1.2 (b2.2 - b1.2)) := by
  apply e3Z
  rw [b9S, ByteArray.data_extract, Array.toList_extract, List.extract_eq_take_drop, b9S, List.map_take, List.map_drop]
 refine a1F hM (v := .string (bytesOf (a6E y b1.2 (b2.2 - b1.2)))) ?_ (d6M ?_)
 ·
  rw [b1Z ho, hv]
  have : (Instr.sliceAt id (.string (bytesOf y)) (lo.map a.eval) (hi.map a.eval) none).run P c.w = .ok (.string (bytesOf (a6E y b1.2 (b2.2 - b1.2)))) c.w := by
   unfold Instr.sliceAt
   rw [Sem.run_bind, run_underlying hu, Result.andThen_ok]
   unfold Instr.slice
   simp only [Sem.run_bind, run_underlying hu, Result.andThen_ok, hs, hn, Option.isSome_none, Bool.false_eq_true, if_false, hr1, Sem.run_pure, hex]
  simp only [Sem.run_bind, this, Result.andThen_ok, Sem.run_pure]
 ·
  show ((y.drop b1.2).take (b2.2 - b1.2)).length ≤ LIM
  rw [List.length_take, List.length_drop]
  omega
theorem d3C (hM : Mem base G0 own0 c) {s d : TypeId} {x : Operand} (ho : o.op = .convert s d x) (hs : TOk P .str s) (hd : TOk P .str d) {y : List (I .u8)} (hx : VOk c (.val .str y) (a.eval x)) :
  a4B P base G0 own0 o a c (.val .str y) [] := by
 obtain ⟨hv, hlim⟩ := d4Q hx
 refine a1F hM (v := .string (bytesOf y)) ?_ (d6M hlim)
 obtain ⟨_, hs⟩ := hs
 obtain ⟨_, hd⟩ := hd
 simp only [execOp, ho, Sem.run_bind, hv]
 unfold convert
 simp only [Sem.run_bind, run_underlying hs, run_underlying hd, Result.andThen_ok, Sem.run_pure]
theorem c6P (hM : Mem base G0 own0 c) {s d : TypeId} {x : Operand} (ho : o.op = .convert s d x) (hs : TOk P (.sl (.int .u8)) s) (hd : TOk P .str d) {px : PV} {l : List (I .u8)} {lent : List Nat} (hl : a3R c.H (.sl (.int .u8)) px = some (l, lent)) (hx : VOk c px (a.eval x)) :
  a4B P base G0 own0 o a c (.val .str l) [] := by
 obtain ⟨us, h1, h2, he⟩ := b7B hM hx hl
 obtain ⟨ad, cap, rfl, hcap, hlim, hr⟩ := he
 have hlim : l.length ≤ LIM := hlim
 have hv : a.eval x = .slice ad l.length cap := h2
 refine a1F hM (v := .string (bytesOf l)) ?_ (d6M hlim)
 obtain ⟨_, e, hsu, _, hee⟩ := hs
 obtain ⟨_, hd⟩ := hd
 have hc : (convert s d (.slice ad l.length cap)).run P c.w = .ok (.string (bytesOf l)) c.w := by
  rcases hr with hr | ⟨⟨r, q, spot⟩, rfl, hsp, hG, hrow⟩
  ·
   have hr : l = [] := hr
   subst hr
   rw [run_convert_bytes_string c.w s d e ad _ cap hsu hee hd]
   cases ad with
   | none => rfl
   | some ad =>
    have := run_bytesToString (P := P) c.w ad 0 cap [] (run_loadCells_list (P := P) c.w ad [] (fun j v hj => by simp at hj))
    exact this
  ·
   simp only at hsp hrow
   subst hsp
   have := run_convert_bytes_back (P := P) c.w s d e ⟨r, q, none⟩ cap (l.map byteOf) hsu hee hd (fun j hj => by
    have hj' : j < l.length := by simpa using hj
    obtain ⟨ds, e1, e2⟩ := hrow j l[j] (List.getElem?_eq_getElem hj')
    have e1 : ds = [.int .u8 (l[j]).val] := e1
    subst e1
    have := e2 0 _ rfl
    rw [List.getElem_map, b3T]
    simpa [add_lit, Ty.sz] using this)
   rw [List.length_map] at this
   rw [this]
   rfl
 simp only [execOp, ho, Sem.run_bind, hv, hc, Result.andThen_ok, Sem.run_pure]
end
end Sym
