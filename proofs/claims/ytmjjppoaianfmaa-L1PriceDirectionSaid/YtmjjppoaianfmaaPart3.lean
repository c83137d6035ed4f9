/- From what a row reads of the arguments to plain values, and from a contract to the row's answer. -/
import Derived.Carry
import Derived.SizedLaws
import Derived.ChangeOld
import Derived.OpenShut
import Derived.Test.YtmjjppoaianfmaaPart2
import Derived.Test.YtmjjppoaianfmaaPart1
namespace Sym
open Go

mutual
def argB (P : Program) : Ty → TypeId → Bool
  | .cons a b, id => match P.underlying id with
    | some (.struct fs) => (match fs.toList with
      | f :: r => argB P a f.type && fargB P b r
      | [] => false)
    | _ => false
  | .arr _ t, id => match P.underlying id with
    | some (.array _ e) => argB P t e
    | _ => false
  | .sl t, id => match P.underlying id with
    | some (.slice e) => Nat.ble 1 t.sz && (Nat.ble 1 (P.bytesOf e) && argB P t e)
    | _ => false
  | .opq, _ => false
  | _, _ => true
def fargB (P : Program) : Ty → List Field → Bool
  | .cons a b, f :: r => argB P a f.type && fargB P b r
  | _, _ => true
end

theorem mapM_some {X Y : Type} {f : X → Option Y} : ∀ {l : List X} {r : List Y}, l.mapM f = some r → r.length = l.length ∧ ∀ (i : Nat) (a : X), l[i]? = some a → ∃ b, r[i]? = some b ∧ f a = some b
  | [], r, h => by
    simp only [List.mapM_nil, Option.pure_def, Option.some.injEq] at h
    subst h
    exact ⟨rfl, fun i a h => by simp at h⟩
  | a :: l, r, h => by
    simp only [List.mapM_cons, Option.bind_eq_bind, Option.bind_eq_some_iff, Option.pure_def, Option.some.injEq] at h
    obtain ⟨b, hb, s, hs, rfl⟩ := h
    obtain ⟨h1, h2⟩ := mapM_some hs
    refine ⟨by simp [h1], fun i x hx => ?_⟩
    cases i with
    | zero =>
      simp only [List.getElem?_cons_zero, Option.some.injEq] at hx
      subst hx
      exact ⟨b, by simp, hb⟩
    | succ i =>
      simp only [List.getElem?_cons_succ] at hx
      obtain ⟨y, h3, h4⟩ := h2 i x hx
      exact ⟨y, by simp [h3], h4⟩

theorem mapM_range {Y : Type} {f : Nat → Option Y} {n : Nat} {r : List Y} (h : (List.range n).mapM f = some r) : r.length = n ∧ ∀ i, i < n → ∃ b, r[i]? = some b ∧ f i = some b := by
  obtain ⟨h1, h2⟩ := mapM_some h
  refine ⟨by simpa using h1, fun i hi => h2 i i (by simp [hi])⟩

theorem exists_list {X : Type} : ∀ (n : Nat) (R : Nat → X → Prop), (∀ i, i < n → ∃ x, R i x) → ∃ l : List X, l.length = n ∧ ∀ i x, l[i]? = some x → R i x
  | 0, _, _ => ⟨[], rfl, fun i x h => by simp at h⟩
  | n + 1, R, h => by
    obtain ⟨x, hx⟩ := h 0 (by omega)
    obtain ⟨l, h1, h2⟩ := exists_list n (fun i x => R (i + 1) x) fun i hi => h (i + 1) (by omega)
    refine ⟨x :: l, by simp [h1], fun i y hy => ?_⟩
    cases i with
    | zero => simp only [List.getElem?_cons_zero, Option.some.injEq] at hy; subst hy; exact hx
    | succ i => exact h2 i y (by simpa using hy)

theorem exists_arr {X : Type} {E : X → List Value → Prop} {s : Nat} : ∀ (n : Nat) (cs : List Value), cs.length = n * s → (∀ i, i < n → ∃ x, E x ((cs.drop (i * s)).take s)) → ∃ x, EncArr E n x cs
  | 0, cs, hl, _ => ⟨(), by simp at hl; exact hl⟩
  | n + 1, cs, hl, h => by
    obtain ⟨x, hx⟩ := h 0 (by omega)
    simp only [Nat.zero_mul, List.drop_zero] at hx
    obtain ⟨y, hy⟩ := exists_arr (E := E) (s := s) n (cs.drop s) (by rw [List.length_drop, hl, Nat.succ_mul]; omega) fun i hi => by
      obtain ⟨z, hz⟩ := h (i + 1) (by omega)
      refine ⟨z, ?_⟩
      rw [List.drop_drop, show s + i * s = (i + 1) * s by rw [Nat.succ_mul]; omega]
      exact hz
    exact ⟨(x, y), cs.take s, cs.drop s, (List.take_append_drop s cs).symm, hx, hy⟩

theorem weightsAll_mem {H : Type} {P : Program} {e : TypeId} : ∀ {ds : List (DataW H)} {i : Nat} {d : DataW H}, ds[i]? = some d → ∀ n ∈ d.weights P e, n ∈ DataW.weightsAll P e ds
  | d0 :: ds, 0, d, hd, n, hn => by
    simp only [List.getElem?_cons_zero, Option.some.injEq] at hd
    subst hd
    simp only [DataW.weightsAll, List.mem_append]
    exact .inl hn
  | d0 :: ds, i + 1, d, hd, n, hn => by
    simp only [List.getElem?_cons_succ] at hd
    simp only [DataW.weightsAll, List.mem_append]
    exact .inr (weightsAll_mem hd n hn)

def strOf (s : ByteArray) : List (I .u8) := s.data.toList.map fun b => I.of .u8 b.toNat

theorem bytesOf_strOf (s : ByteArray) : bytesOf (strOf s) = s := by
  unfold bytesOf strOf
  cases s with | mk a =>
  congr 1
  rw [List.map_map]
  have : ((fun c : I .u8 => UInt8.ofNat c.val.toNat) ∘ fun b : UInt8 => I.of .u8 b.toNat) = id := by
    funext b
    simp only [Function.comp, id, I.of, IntKind.wrap, IntKind.bits, IntKind.signed, Bool.false_and, Bool.false_eq_true, if_false]
    have := b.toNat_lt
    rw [show ((b.toNat : Int) % 2 ^ 8) = (b.toNat : Int) by omega, Int.toNat_natCast]
    exact UInt8.ofNat_toNat
  rw [this, List.map_id, Array.toArray_toList]

section
variable {H : Type} {enc : TypeId × Value → H} {P : Program} {W : World} {base : Nat} {spare : Nat → Bool} {held : Bool}

abbrev GW (W : World) : Nat → Prop := fun r => r < W.heap.size

theorem cell_lt {a : Addr} {v : Value} (h : W.cell? a = some v) : a.spot = none ∧ a.block < W.heap.size := by
  unfold World.cell? at h
  split at h
  · rename_i c _ _ hc
    split at h
    · cases h
    · rename_i hs
      refine ⟨by simpa using hs, ?_⟩
      rw [Array.getElem?_eq_some_iff] at hc
      exact hc.1
  · cases h

theorem cells_row {base : Nat} {a : Addr} {n : Nat} {ds : List Value} (h : W.cells? base a n = some ds) : ds.length = n ∧ ∀ j d, ds[j]? = some d → W.cell? (a.add j) = some d := by
  unfold World.cells? at h
  split at h
  · obtain ⟨h1, h2⟩ := mapM_range h
    refine ⟨h1, fun j d hd => ?_⟩
    obtain ⟨b, h3, h4⟩ := h2 j (by rw [← h1]; exact (List.getElem?_eq_some_iff.1 hd).1)
    rw [h3] at hd
    rw [h4, hd]
  · cases h

theorem addr_add {a : Addr} (hs : a.spot = none) (n : Nat) : a.add n = ⟨a.block, a.off + n, none⟩ := by
  unfold Addr.add
  cases a
  simp only at hs
  subst hs
  split
  · rename_i h; subst h; rfl
  · rfl

theorem enc_of_trod : ∀ (t : Ty),
    (∀ fuel id cs (d : DataW H) (p : List MemPlace), TOk P t id → argB P t id = true → DataW.trod enc P W base spare held fuel id cs = some (d, p) → (∀ n ∈ d.weights P id, n ≤ reachBytes) → ∃ x, Enc W (GW W) t x cs) ∧
    (∀ fuel (r : List Field) (o : Nat) (cs : List Value) (xs : List (DataW H × List MemPlace)), FOk P t r o → fargB P t r = true → xs.length = r.length →
      (∀ (i : Nat) (f : Field), r[i]? = some f → DataW.trod enc P W base spare held fuel f.type ((cs.drop f.offset).take (P.cellsOf f.type)) = xs[i]?) →
      (∀ n ∈ DataW.weightsEach P (r.map (·.type)) (xs.map (·.1)), n ≤ reachBytes) → cs.length = o + t.sz → ∃ x, Enc W (GW W) t x (cs.drop o)) := by
  intro t
  have nofld : ∀ t, (∀ a b, t ≠ .cons a b) → t ≠ .nil → ∀ (r : List Field) (o : Nat), ¬ FOk P t r o := by
    intro t h1 h2 r o h
    cases t <;> first | exact h1 _ _ rfl | exact h2 rfl | (cases r <;> exact h.elim)
  induction t with
  | int k =>
    refine ⟨fun fuel id cs d p hT _ h _ => ?_, fun fuel r o cs xs h => (nofld _ (by simp) (by simp) _ _ h).elim⟩
    obtain ⟨n, hcs, _, hw⟩ := DataW.trod_int hT.2 h
    simp only [Lit.wf, Bool.and_eq_true, decide_eq_true_eq] at hw
    exact ⟨(⟨n, wrap_eq_of_range hw⟩ : I k), hcs⟩
  | bool =>
    refine ⟨fun fuel id cs d p hT _ h _ => ?_, fun fuel r o cs xs h => (nofld _ (by simp) (by simp) _ _ h).elim⟩
    obtain ⟨n, hcs, _⟩ := DataW.trod_bool hT.2 h
    exact ⟨n, hcs⟩
  | str =>
    refine ⟨fun fuel id cs d p hT _ h hw => ?_, fun fuel r o cs xs h => (nofld _ (by simp) (by simp) _ _ h).elim⟩
    obtain ⟨s, hcs, hx, _⟩ := DataW.trod_string hT.2 h
    simp only [Prod.mk.injEq] at hx
    obtain ⟨rfl, rfl⟩ := hx
    refine ⟨strOf s, ?_, ?_⟩
    · rw [bytesOf_strOf]; exact hcs
    · have := hw s.data.toList.length (by simp [DataW.weights])
      have h2 : (strOf s).length = s.data.toList.length := List.length_map _
      show (strOf s).length ≤ LIM
      rw [h2]
      simp only [reachBytes, LIM] at *
      omega
  | nil =>
    refine ⟨fun fuel id cs d p hT _ h hw => ?_, fun fuel r o cs xs h _ _ _ _ hl => ⟨(), ?_⟩⟩
    · obtain ⟨xs, n, _, _, hl, _⟩ := DataW.trod_struct hT.2 h
      rw [hT.1] at hl
      exact ⟨(), List.eq_nil_of_length_eq_zero hl⟩
    · show cs.drop o = []
      simp only [Ty.sz, Nat.add_zero] at hl
      rw [List.drop_eq_nil_iff]; omega
  | cons a b iha ihb =>
    refine ⟨fun fuel id cs d p hT hA h hw => ?_, fun fuel r o cs xs hF hA hlen hf hw hl => ?_⟩
    · obtain ⟨hsz, fs, f, r, hu, hfs, hf0, hTa, hFb⟩ := hT
      obtain ⟨xs, n, _, hx, hl, hlen, hfx⟩ := DataW.trod_struct hu h
      simp only [Prod.mk.injEq] at hx
      obtain ⟨rfl, rfl⟩ := hx
      simp only [argB, hu, hfs, Bool.and_eq_true] at hA
      have hfl : ∀ (i : Nat) (g : Field), (f :: r)[i]? = some g → DataW.trod enc P W base spare held n g.type ((cs.drop g.offset).take (P.cellsOf g.type)) = xs[i]? := by
        intro i g hg
        refine hfx i g ?_
        rw [← Array.getElem?_toList, hfs]
        exact hg
      have hlen' : xs.length = r.length + 1 := by rw [hlen, ← Array.length_toList, hfs]; rfl
      match xs, hlen' with
      | y :: ys, hlen' =>
        simp only [DataW.weights, hu, hfs, List.map_cons, DataW.weightsEach, List.mem_append] at hw
        have h0 := hfl 0 f rfl
        simp only [List.getElem?_cons_zero] at h0
        rw [hf0, hTa.size, List.drop_zero] at h0
        obtain ⟨x, hx⟩ := iha.1 n f.type _ y.1 y.2 hTa hA.1 h0 (fun m hm => hw m (.inl hm))
        obtain ⟨z, hz⟩ := ihb.2 n r a.sz cs ys hFb hA.2 (by simpa using hlen') (fun i g hg => by simpa using hfl (i + 1) g hg) (fun m hm => hw m (.inr hm)) (by rw [hl, hsz])
        exact ⟨(x, z), _, _, (List.take_append_drop a.sz cs).symm, hx, hz⟩
    · cases r with
      | nil => exact hF.elim
      | cons f r =>
        obtain ⟨hf0, hTa, hFb⟩ := hF
        simp only [fargB, Bool.and_eq_true] at hA
        match xs, hlen with
        | y :: ys, hlen =>
          simp only [List.map_cons, DataW.weightsEach, List.mem_append] at hw
          have h0 := hf 0 f rfl
          simp only [List.getElem?_cons_zero] at h0
          rw [hf0, hTa.size] at h0
          simp only [Ty.sz] at hl
          obtain ⟨x, hx⟩ := iha.1 fuel f.type _ y.1 y.2 hTa hA.1 h0 (fun m hm => hw m (.inl hm))
          obtain ⟨z, hz⟩ := ihb.2 fuel r (o + a.sz) cs ys hFb hA.2 (by simpa using hlen) (fun i g hg => by simpa using hf (i + 1) g hg) (fun m hm => hw m (.inr hm)) (by omega)
          refine ⟨(x, z), _, _, (List.take_append_drop a.sz (cs.drop o)).symm, hx, ?_⟩
          rw [List.drop_drop]
          exact hz
  | arr n t ih =>
    refine ⟨fun fuel id cs d p hT hA h hw => ?_, fun fuel r o cs xs h => (nofld _ (by simp) (by simp) _ _ h).elim⟩
    obtain ⟨hsz, e, hu, hTe⟩ := hT
    obtain ⟨xs, m, _, hx, hl, hlen, hfx⟩ := DataW.trod_array hu h
    simp only [Prod.mk.injEq] at hx
    obtain ⟨rfl, rfl⟩ := hx
    simp only [argB, hu] at hA
    simp only [DataW.weights, hu] at hw
    refine exists_arr n cs (by rw [hl, hsz]) fun i hi => ?_
    have h0 := hfx i hi
    rw [hTe.size, List.getElem?_eq_getElem (by omega)] at h0
    refine ih.1 m e _ (xs[i]'(by omega)).1 (xs[i]'(by omega)).2 hTe hA h0 fun k hk => hw k (weightsAll_mem (i := i) ?_ k hk)
    rw [List.getElem?_map, List.getElem?_eq_getElem (by omega)]; rfl
  | sl t ih =>
    refine ⟨fun fuel id cs d p hT hA h hw => ?_, fun fuel r o cs xs h => (nofld _ (by simp) (by simp) _ _ h).elim⟩
    obtain ⟨hsz, e, hu, hTe⟩ := hT
    simp only [argB, hu, Bool.and_eq_true] at hA
    obtain ⟨hA1, hA2, hA⟩ := hA
    have hA1 := Nat.le_of_ble_eq_true hA1
    have hA2 := Nat.le_of_ble_eq_true hA2
    rcases DataW.trod_slice hu h with ⟨rfl, _⟩ | ⟨a, len, cap, elems, rest, m, _, rfl, hx, _, hlc, _, hel, hfx, _, _⟩
    · refine ⟨([] : List t.D), none, 0, rfl, Nat.le_refl _, by simp, .inl rfl⟩
    · simp only [Prod.mk.injEq] at hx
      obtain ⟨rfl, rfl⟩ := hx
      simp only [DataW.weights, hu, List.mem_cons, List.mem_append] at hw
      have hb := hw _ (.inl rfl)
      have hlim : len ≤ LIM := by
        have h1 : len ≤ (elems.length + rest.length) * P.bytesOf e := by
          rw [← hel]
          refine Nat.le_trans ?_ (Nat.mul_le_mul_left _ hA2)
          omega
        simp only [List.length_map] at hb
        simp only [reachBytes, LIM] at *
        omega
      have key : ∀ i, i < len → a.spot = none ∧ a.block < W.heap.size ∧ ∃ x ds, Enc W (GW W) t x ds ∧ cellsAt W a.block (a.off + i * t.sz) ds := by
        have one : ∀ i, i < len → ∃ (ds : List Value) (x : t.D), ds.length = t.sz ∧ Enc W (GW W) t x ds ∧ ∀ j d, ds[j]? = some d → W.cell? ((a.add (i * t.sz)).add j) = some d := by
          intro i hi
          have h0 := hfx i hi
          rw [List.getElem?_eq_getElem (by omega)] at h0
          simp only [Option.bind_eq_some_iff] at h0
          obtain ⟨ds, h1, h2⟩ := h0
          obtain ⟨h3, h4⟩ := cells_row h1
          rw [hTe.size] at h3 h4
          obtain ⟨x, hx⟩ := ih.1 m e ds (elems[i]'(by omega)).1 (elems[i]'(by omega)).2 hTe hA h2 fun k hk => hw k (.inr (.inl (weightsAll_mem (i := i) (by rw [List.getElem?_map, List.getElem?_eq_getElem (by omega)]; rfl) k hk)))
          exact ⟨ds, x, h3, hx, h4⟩
        intro i hi
        obtain ⟨ds, x, h1, h2, h3⟩ := one i hi
        obtain ⟨ds0, _, g1, _, g3⟩ := one 0 (by omega)
        have c0 := g3 0 (ds0[0]'(by omega)) (List.getElem?_eq_getElem _)
        simp only [Nat.zero_mul] at c0
        have e0 : (a.add 0).add 0 = a := by simp [Addr.add]
        rw [e0] at c0
        obtain ⟨hs, hlt⟩ := cell_lt c0
        refine ⟨hs, hlt, x, ds, h2, fun j d hd => ?_⟩
        have := h3 j d hd
        rw [addr_add hs, addr_add rfl] at this
        exact this
      obtain ⟨l, hl1, hl2⟩ := exists_list len (fun i x => ∃ ds, Enc W (GW W) t x ds ∧ cellsAt W a.block (a.off + i * t.sz) ds) fun i hi => (key i hi).2.2
      refine ⟨l, some a, cap, ?_, ?_, ?_, ?_⟩
      · show [Value.slice (some a) len cap] = [Value.slice (some a) l.length cap]; rw [hl1]
      · show l.length ≤ cap; omega
      · show l.length ≤ LIM; omega
      · by_cases h0 : len = 0
        · left; show l = []; exact List.eq_nil_of_length_eq_zero (by omega)
        · obtain ⟨h1, h2, _⟩ := key 0 (by omega)
          exact .inr ⟨a, rfl, h1, h2, hl2⟩
  | opq => exact ⟨fun fuel id cs d p hT hA => by simp [argB] at hA, fun fuel r o cs xs h => (nofld _ (by simp) (by simp) _ _ h).elim⟩
end

/-- What an argument's form leaves of its cells. -/
theorem val_of_ok {P : Program} {W : World} {rr : Reach} {base : Nat} {id : TypeId} {v : Value} {t : Ty} (hT : TOk P t id) (hne : t ≠ .opq) (h : Value.okWide P W rr base id v) : v = mkV t.isAgg v.cells.toList := by
  have agg : (∃ cs, v = .agg cs) → v = mkV true v.cells.toList := by
    rintro ⟨cs, rfl⟩
    show Value.agg cs = .agg _
    congr 1
  cases t with
  | int k => obtain ⟨n, rfl⟩ := Go.WideShapes.okWide_int hT.2 h; rfl
  | bool => obtain ⟨n, rfl⟩ := Go.WideShapes.okWide_bool hT.2 h; rfl
  | str => obtain ⟨n, rfl⟩ := Go.WideShapes.okWide_string hT.2 h; rfl
  | sl t => obtain ⟨_, e, hu, _⟩ := hT; obtain ⟨a, l, c, rfl⟩ := Go.WideShapes.okWide_slice hu h; rfl
  | opq => exact (hne rfl).elim
  | nil => obtain ⟨_, hu⟩ := hT; simp only [Value.okWide, hu] at h; exact agg ⟨_, h.choose_spec.1⟩
  | cons a b => obtain ⟨_, fs, f, r, hu, _⟩ := hT; simp only [Value.okWide, hu] at h; exact agg ⟨_, h.choose_spec.1⟩
  | arr n t => obtain ⟨_, e, hu, _⟩ := hT; simp only [Value.okWide, hu] at h; exact agg ⟨_, h.choose_spec.1⟩

def Arr.all {X : Type} (p : X → Prop) : (n : Nat) → Arr X n → Prop
  | 0, _ => True
  | n + 1, x => p x.1 ∧ Arr.all p n x.2

/-- No slice and no string is longer than memory. -/
def Ty.bd : (t : Ty) → t.D → Prop
  | .str, x => (show List (I .u8) from x).length ≤ LIM
  | .cons a b, x => a.bd x.1 ∧ b.bd x.2
  | .arr n t, x => Arr.all t.bd n x
  | .sl t, x => (show List t.D from x).length ≤ LIM ∧ ∀ (i : Nat) (y : t.D), (show List t.D from x)[i]? = some y → t.bd y
  | .int _, _ => True
  | .bool, _ => True
  | .nil, _ => True
  | .opq, _ => True

theorem EncArr_all {X : Type} {E : X → List Value → Prop} {p : X → Prop} (h : ∀ x cs, E x cs → p x) : ∀ (n : Nat) (x : Arr X n) (cs : List Value), EncArr E n x cs → Arr.all p n x
  | 0, _, _, _ => trivial
  | n + 1, x, cs, he => by
    obtain ⟨c1, c2, _, h1, h2⟩ := he
    exact ⟨h _ _ h1, EncArr_all h n x.2 c2 h2⟩

theorem Enc_bd {W : World} {G : Nat → Prop} : ∀ (t : Ty) (x : t.D) (cs : List Value), Enc W G t x cs → t.bd x := by
  intro t
  induction t with
  | int k => intro x cs _; trivial
  | bool => intro x cs _; trivial
  | nil => intro x cs _; trivial
  | opq => intro x cs _; trivial
  | str => intro x cs h; exact h.2
  | cons a b iha ihb => intro x cs h; obtain ⟨c1, c2, _, h1, h2⟩ := h; exact ⟨iha _ _ h1, ihb _ _ h2⟩
  | arr n t ih => intro x cs h; exact EncArr_all (fun x cs => ih x cs) n x cs h
  | sl t ih =>
    intro x cs h
    obtain ⟨a, c, _, _, hl, hx⟩ := h
    refine ⟨hl, fun i y hy => ?_⟩
    rcases hx with hx | ⟨ad, _, _, _, hr⟩
    · rw [hx] at hy; simp at hy
    · obtain ⟨ds, h1, _⟩ := hr i y hy
      exact ih y ds h1

def bdAll : (ts : List Ty) → ShD (ts.map .pl) → Prop
  | [], _ => True
  | t :: ts, x => t.bd x.1 ∧ bdAll ts x.2

def argsB (P : Program) : List Ty → List TypeId → Bool
  | [], [] => true
  | t :: ts, id :: ids => tokB P t id && (argB P t id && (P.readableRec id && (Nat.blt id P.types.size && argsB P ts ids)))
  | _, _ => false

section
variable {H : Type} {enc : TypeId × Value → H} {P : Program} {W : World}

def cx0 (W : World) : Cx := ⟨W, GW W, fun _ => .bool false, []⟩

theorem args_val {rr : Reach} {base : Nat} : ∀ (ts : List Ty) (ids : List TypeId) (vs : List Value) (ds : List (DataW H)) (ps : List MemPlace), argsB P ts ids = true →
    DataW.TrodAll enc P W 0 (fun _ => true) true ids vs ds ps → (∀ (j : Nat) t v, ids[j]? = some t → vs[j]? = some v → Value.okWide P W rr base t v) →
    (∀ n ∈ DataW.weightsEach P ids ds, n ≤ reachBytes) → ds.length = ts.length ∧ ∃ x : ShD (ts.map .pl), bdAll ts x ∧ All2 (VOk (cx0 W)) (mkSlots (ts.map .pl) x) vs
  | [], [], vs, ds, ps, _, hA, _, _ => by
    obtain ⟨rfl, rfl, rfl⟩ := Go.ChangeShapes.trodAll_nil hA
    exact ⟨rfl, (), trivial, trivial⟩
  | [], _ :: _, _, _, _, h, _, _, _ => by cases h
  | _ :: _, [], _, _, _, h, _, _, _ => by cases h
  | t :: ts, id :: ids, vs, ds, ps, h, hA, hv, hw => by
    simp only [argsB, Bool.and_eq_true] at h
    obtain ⟨h1, h2, _, _, h5⟩ := h
    obtain ⟨v, vs', d, ds', p, q, rfl, rfl, rfl, ⟨fuel, hd⟩, hrest⟩ := Go.ChangeShapes.trodAll_cons hA
    simp only [DataW.weightsEach, List.mem_append] at hw
    have hT := (tok_both P t).1 id h1
    obtain ⟨x, hx⟩ := (enc_of_trod t).1 fuel id _ d p hT h2 hd fun n hn => hw n (.inl hn)
    obtain ⟨hl, y, hbd, hy⟩ := args_val ts ids vs' ds' q h5 hrest (fun j t v ht hv' => hv (j + 1) t v (by simpa using ht) (by simpa using hv')) fun n hn => hw n (.inr hn)
    refine ⟨by simp [hl], (x, y), ⟨Enc_bd t x _ hx, hbd⟩, ?_, hy⟩
    refine ⟨_, hx, ?_⟩
    exact val_of_ok hT (by rintro rfl; simp [argB] at h2) (hv 0 id v rfl rfl)

theorem trodAll_below (hl : laidOutB P = true) {W' : World} (hb : Go.RowKit.Below W.heap.size W W') : ∀ (ts : List Ty) (ids : List TypeId) (vs : List Value) (ds : List (DataW H)) (ps : List MemPlace), argsB P ts ids = true →
    DataW.TrodAll enc P W 0 (fun _ => true) true ids vs ds ps → (∀ x ∈ ps, x.block < W.heap.size) → DataW.TrodAll enc P W' 0 (fun b => decide (b < W.heap.size)) true ids vs ds ps
  | [], [], vs, ds, ps, _, hA, _ => by
    obtain ⟨rfl, rfl, rfl⟩ := Go.ChangeShapes.trodAll_nil hA
    exact Go.ChangeShapes.trodAll_mk0
  | [], _ :: _, _, _, _, h, _, _ => by cases h
  | _ :: _, [], _, _, _, h, _, _ => by cases h
  | t :: ts, id :: ids, vs, ds, ps, h, hA, hlt => by
    simp only [argsB, Bool.and_eq_true] at h
    obtain ⟨_, _, h3, h4, h5⟩ := h
    obtain ⟨v, vs', d, ds', p, q, rfl, rfl, rfl, hd, hrest⟩ := Go.ChangeShapes.trodAll_cons hA
    refine ⟨p, q, Go.RowKit.Below.trod hl h3 (Nat.lt_of_succ_le (Nat.le_of_ble_eq_true h4)) hd hb fun x hx => hlt x (by simp [hx]), ?_, rfl⟩
    exact trodAll_below hl hb ts ids vs' ds' q h5 hrest fun x hx => hlt x (by simp [hx])

theorem start0 : Start (cx0 W) := by
  have hu : ∀ b, blkAt (cx0 W).H b = .unborn := fun b => by simp [cx0, blkAt]
  refine ⟨fun b => ?_, fun b b' r h => ?_, fun r hr => ⟨hr, fun b h => ?_⟩⟩
  · unfold BlkOk; rw [hu]; trivial
  · rw [hu] at h; cases h
  · rw [hu] at h; cases h

theorem row_of_con {C : Checked} {f : FuncId} {fn : Func} {s : ChangeSpec} {ts : List Ty} {bt : TypeId} {F : (⟨ts.map .pl, []⟩ : Tm).D → Option (⟨[.pl .bool], []⟩ : Tm).D}
    (hl : laidOutB C.prog = true) (hfn : C.prog.funcs[f]? = some fn) (hbody : fn.body.isSome = true) (hname : (fn.name == "runtime.NumGoroutine") = false)
    (hargs : argsB C.prog ts fn.params.toList = true) (hres : fn.resultTypes = #[bt]) (hbt : C.prog.underlying bt = some .bool) (hvars : s.vars = [])
    (hs : ∀ ds : List (DataW H), ds.length = ts.length → s.fn H ds = { results := [.lit (.bool true)], args := ds })
    (hcon : ConOk C.prog f ⟨⟨ts.map .pl, []⟩, ⟨[.pl .bool], []⟩, F⟩) (hF : ∀ x, bdAll ts x → F (x, ()) = some ((true, ()), ()))
    (base : Nat) (args : Array Value) (ds gs : List (DataW H)) (before : List MemPlace)
    (hval : ∀ (j : Nat) t v, fn.params[j]? = some t → args[j]? = some v → Value.okWide C.prog W .any base t v)
    (hW : DataW.Whole enc C.prog fn.params.toList s.vars false W args.toList ds gs before)
    (hsz : (DataW.weightsEach C.prog (fn.params.toList ++ s.plain.varTypes C.prog) (ds ++ gs)).all (· ≤ reachBytes) = true) :
    Calls C.prog f args W fun e W' => ∃ v, e = .returned v ∧ s.post enc C.prog fn false true false false W args v W' := by
  have hW' := hW
  obtain ⟨p, q, hA, hV, rfl, hfz, hnd⟩ := hW
  rw [hvars] at hV
  obtain ⟨rfl, rfl⟩ := Go.ChangeShapes.trodVars_none hV
  have hvt : s.plain.varTypes C.prog = [] := by simp [DataSpec.varTypes, ChangeSpec.plain, hvars]
  rw [hvt, List.append_nil, List.append_nil, List.all_eq_true] at hsz
  obtain ⟨hlen, x, hbd, hx⟩ := args_val (P := C.prog) ts fn.params.toList args.toList ds p hargs hA
    (fun j t v h1 h2 => hval j t v (by rw [← Array.getElem?_toList]; exact h1) (by rw [← Array.getElem?_toList]; exact h2)) fun n hn => of_decide_eq_true (hsz n hn)
  have key := hcon (x, ()) ((true, ()), ()) (hF x hbd) (cx0 W) args.toList start0 rfl hx
  rw [Array.toArray_toList] at key
  obtain ⟨b, hb⟩ := Option.isSome_iff_exists.1 hbody
  have hent := run_callFunc (args := args) (w := W) hfn hb hname
  rcases key with ⟨v, w', h1, _⟩ | ⟨_, h⟩
  · change (callFunc f args).run C.prog W = _ at h1
    rw [hent] at h1
    cases h1
  · refine h.mono fun e w' hr => ?_
    obtain ⟨v, he, c', hw, hH, hv, hM⟩ := hr
    subst he hw
    refine ⟨v, rfl, ?_⟩
    have hown : ∀ r, ¬ ownOf (cx0 W) r := by
      rintro r ⟨b, hb, _⟩
      simp [cx0, blkAt, live] at hb
    have bel : Go.RowKit.Below W.heap.size W c'.w := ⟨hM.os, hM.tape, hM.output, hM.size, fun k hk => hM.frame k hk (hown k)⟩
    obtain ⟨cs, hcs, hv⟩ := hv
    have hcs : cs = [.bool true] := hcs
    subst hcs
    have hv : v = .bool true := hv
    subst hv
    have hfnH := hs ds hlen
    refine ⟨ds, [], _, [], p, [], hW', ?_, ?_, ?_, bel.frame _, fun h => by cases h⟩
    · rw [List.append_nil, hfnH, hres]
      exact Go.ChangeShapes.trodAll_mk1 (Go.RowKit.shut_bool hbt _)
    · rw [List.append_nil, hfnH]
      refine trodAll_below hl bel ts _ _ _ _ hargs hA fun x hx => ?_
      exact DataW.TrodAll.lt hA x hx
    · rw [List.append_nil, hfnH, hvars]
      rfl
end
end Sym

/- Whole numbers of 256 bits: what the four words are worth. -/
namespace Sym
open Go

abbrev U : Type := I .u64 × I .u64 × I .u64 × I .u64 × Unit
abbrev u256 : Ty := .arr 4 (.int .u64)
abbrev i64 : Ty := .int .i64

theorem nat_val (x : I .u64) : (x.nat : Int) = x.val := by
  have := (I_range x).1
  simp only [I.nat]; omega

theorem nat_lt (x : I .u64) : x.nat < 18446744073709551616 := by
  have := I_range x
  simp only [I.nat]; omega

theorem of_nat {n : Nat} (h : n < 18446744073709551616) : (I.of .u64 (n : Int)).nat = n := by
  show (IntKind.u64.wrap n).toNat = n
  rw [wrap_u64]; omega

theorem nat_of (x : I .u64) : I.of .u64 (x.nat : Int) = x := by
  apply I.ext'
  show IntKind.u64.wrap _ = _
  rw [nat_val]; exact x.ok

def U.val (a : U) : Nat := a.1.nat + 18446744073709551616 * (a.2.1.nat + 18446744073709551616 * (a.2.2.1.nat + 18446744073709551616 * a.2.2.2.1.nat))

def U.of (n : Nat) : U := (I.of .u64 ((n % 18446744073709551616 : Nat) : Int), I.of .u64 ((n / 18446744073709551616 % 18446744073709551616 : Nat) : Int), I.of .u64 ((n / 340282366920938463463374607431768211456 % 18446744073709551616 : Nat) : Int), I.of .u64 ((n / 6277101735386680763835789423207666416102355444464034512896 % 18446744073709551616 : Nat) : Int), ())

def U.top : Nat := 115792089237316195423570985008687907853269984665640564039457584007913129639936

theorem U.lt (a : U) : a.val < U.top := by
  have h0 := nat_lt a.1
  have h1 := nat_lt a.2.1
  have h2 := nat_lt a.2.2.1
  have h3 := nat_lt a.2.2.2.1
  unfold U.val U.top
  omega

theorem U.val_of {n : Nat} (h : n < U.top) : (U.of n).val = n := by
  unfold U.val U.of
  unfold U.top at h
  simp only
  rw [of_nat (by omega), of_nat (by omega), of_nat (by omega), of_nat (by omega)]
  omega

theorem U.ext {a b : U} (h : a.val = b.val) : a = b := by
  obtain ⟨a0, a1, a2, a3, ⟨⟩⟩ := a
  obtain ⟨b0, b1, b2, b3, ⟨⟩⟩ := b
  unfold U.val at h
  simp only at h
  have i0 := nat_lt a0
  have i1 := nat_lt a1
  have i2 := nat_lt a2
  have i3 := nat_lt a3
  have j0 := nat_lt b0
  have j1 := nat_lt b1
  have j2 := nat_lt b2
  have j3 := nat_lt b3
  have e : ∀ {x y : I .u64}, x.nat = y.nat → x = y := fun {x y} h => by rw [← nat_of x, ← nat_of y, h]
  rw [e (show a0.nat = b0.nat by omega), e (show a1.nat = b1.nat by omega), e (show a2.nat = b2.nat by omega), e (show a3.nat = b3.nat by omega)]

theorem U.of_val (a : U) : U.of a.val = a := U.ext (U.val_of a.lt)

theorem add64_nat (x y c : I .u64) (hc : c.nat ≤ 1) : ∃ z q : I .u64, add64F ((x, y, c, ()), ()) = some ((z, q, ()), ()) ∧ z.nat + 18446744073709551616 * q.nat = x.nat + y.nat + c.nat ∧ q.nat ≤ 1 := by
  have hb : Nat.ble c.nat 1 = true := by rw [Nat.ble_eq]; exact hc
  refine ⟨_, _, by simp only [add64F, hb]; rfl, ?_⟩
  have hx := nat_val x
  have hy := nat_val y
  have hcv := nat_val c
  have lx := nat_lt x
  have ly := nat_lt y
  rw [← hx, ← hy, ← hcv]
  have e1 : (I.of .u64 ((x.nat : Int) + y.nat + c.nat)).nat = (x.nat + y.nat + c.nat) % 18446744073709551616 := by
    show (IntKind.u64.wrap _).toNat = _
    rw [wrap_u64]; omega
  have e2 : (I.of .u64 (((x.nat : Int) + y.nat + c.nat) / 18446744073709551616)).nat = (x.nat + y.nat + c.nat) / 18446744073709551616 := by
    show (IntKind.u64.wrap _).toNat = _
    rw [wrap_u64]; omega
  rw [e1, e2]
  omega

theorem sub64_nat (x y c : I .u64) (hc : c.nat ≤ 1) : ∃ z q : I .u64, sub64F ((x, y, c, ()), ()) = some ((z, q, ()), ()) ∧ z.nat + y.nat + c.nat = x.nat + 18446744073709551616 * q.nat ∧ q.nat ≤ 1 := by
  have hb : Nat.ble c.nat 1 = true := by rw [Nat.ble_eq]; exact hc
  refine ⟨_, _, by simp only [sub64F, hb]; rfl, ?_⟩
  have hx := nat_val x
  have hy := nat_val y
  have hcv := nat_val c
  have lx := nat_lt x
  have ly := nat_lt y
  rw [← hx, ← hy, ← hcv]
  have e1 : ((I.of .u64 ((x.nat : Int) - y.nat - c.nat)).nat : Int) = ((x.nat : Int) - y.nat - c.nat) % 18446744073709551616 := by
    show ((IntKind.u64.wrap _).toNat : Int) = _
    rw [wrap_u64]; omega
  by_cases h : (x.nat : Int) < y.nat + c.nat
  · have e2 : (I.of .u64 (bif decide ((x.nat : Int) < y.nat + c.nat) then 1 else 0)).nat = 1 := by simp [h]; rfl
    rw [e2]
    omega
  · have e2 : (I.of .u64 (bif decide ((x.nat : Int) < y.nat + c.nat) then 1 else 0)).nat = 0 := by simp [h]; rfl
    rw [e2]
    omega
end Sym

/- What the functions of uint256 compute, told of whole numbers. (The functions are as the printer gave them.) -/
namespace Sym
open Go

abbrev UU : Tm := ⟨[.pl u256, .pl u256], []⟩
abbrev UE : Tm := ⟨[.pl u256, .pl i64], []⟩

def uint256_Add (x : UU.D) : Option UE.D :=
 let a : U := x.1.1
 let b : U := x.1.2.1
 optF (none) (add64F ((a.1, (b.1, ((I.of .u64 0), ()))), ())) fun y0 =>
 optF (none) (add64F ((a.2.1, (b.2.1, (y0.1.2.1, ()))), ())) fun y1 =>
 optF (none) (add64F ((a.2.2.1, (b.2.2.1, (y1.1.2.1, ()))), ())) fun y2 =>
 optF (none) (add64F ((a.2.2.2.1, (b.2.2.2.1, (y2.1.2.1, ()))), ())) fun y3 =>
 brn (@I.neb .u64 y3.1.2.1 (I.of .u64 0))
  (some ((((I.of .u64 0), ((I.of .u64 0), ((I.of .u64 0), ((I.of .u64 0), ())))), ((I.of .i64 4), ())), ()))
  (some (((y0.1.1, (y1.1.1, (y2.1.1, (y3.1.1, ())))), ((I.of .i64 0), ())), ()))

def uint256_Sub (x : UU.D) : Option UE.D :=
 let a : U := x.1.1
 let b : U := x.1.2.1
 optF (none) (sub64F ((a.1, (b.1, ((I.of .u64 0), ()))), ())) fun y0 =>
 optF (none) (sub64F ((a.2.1, (b.2.1, (y0.1.2.1, ()))), ())) fun y1 =>
 optF (none) (sub64F ((a.2.2.1, (b.2.2.1, (y1.1.2.1, ()))), ())) fun y2 =>
 optF (none) (sub64F ((a.2.2.2.1, (b.2.2.2.1, (y2.1.2.1, ()))), ())) fun y3 =>
 brn (@I.neb .u64 y3.1.2.1 (I.of .u64 0))
  (some ((((I.of .u64 0), ((I.of .u64 0), ((I.of .u64 0), ((I.of .u64 0), ())))), ((I.of .i64 4), ())), ()))
  (some (((y0.1.1, (y1.1.1, (y2.1.1, (y3.1.1, ())))), ((I.of .i64 0), ())), ()))

def uint256_Cmp (x : UU.D) : Option (⟨[.pl i64], []⟩ : Tm).D :=
 let a : U := x.1.1
 let b : U := x.1.2.1
 brn (@I.ltb .u64 a.2.2.2.1 b.2.2.2.1)
  (some (((I.of .i64 (-1)), ()), ()))
  (brn (@I.ltb .u64 b.2.2.2.1 a.2.2.2.1)
   (some (((I.of .i64 1), ()), ()))
   (brn (@I.ltb .u64 a.2.2.1 b.2.2.1)
    (some (((I.of .i64 (-1)), ()), ()))
    (brn (@I.ltb .u64 b.2.2.1 a.2.2.1)
     (some (((I.of .i64 1), ()), ()))
     (brn (@I.ltb .u64 a.2.1 b.2.1)
      (some (((I.of .i64 (-1)), ()), ()))
      (brn (@I.ltb .u64 b.2.1 a.2.1)
       (some (((I.of .i64 1), ()), ()))
       (brn (@I.ltb .u64 a.1 b.1)
        (some (((I.of .i64 (-1)), ()), ()))
        (brn (@I.ltb .u64 b.1 a.1)
         (some (((I.of .i64 1), ()), ()))
         (some (((I.of .i64 0), ()), ())))))))))

theorem neb_zero (x : I .u64) : I.neb x (I.of .u64 0) = !decide (x.nat = 0) := by
  unfold I.neb
  have : (I.of .u64 0).val = 0 := rfl
  rw [this, ← nat_val]
  congr 1
  simp

theorem ltb_nat (x y : I .u64) : I.ltb x y = decide (x.nat < y.nat) := by
  unfold I.ltb
  rw [← nat_val, ← nat_val]
  simp

/-- The sum, or an error. -/
def addS (a b : U) : U × I .i64 := if a.val + b.val < U.top then (U.of (a.val + b.val), I.of .i64 0) else (U.of 0, I.of .i64 4)
def subS (a b : U) : U × I .i64 := if b.val ≤ a.val then (U.of (a.val - b.val), I.of .i64 0) else (U.of 0, I.of .i64 4)
def cmpS (a b : U) : I .i64 := if a.val < b.val then I.of .i64 (-1) else if b.val < a.val then I.of .i64 1 else I.of .i64 0

theorem uint256_Add_eq (a b : U) : uint256_Add ((a, b, ()), ()) = some (((addS a b).1, (addS a b).2, ()), ()) := by
  obtain ⟨a0, a1, a2, a3, ⟨⟩⟩ := a
  obtain ⟨b0, b1, b2, b3, ⟨⟩⟩ := b
  obtain ⟨z0, q0, h0, e0, l0⟩ := add64_nat a0 b0 (I.of .u64 0) (by decide)
  obtain ⟨z1, q1, h1, e1, l1⟩ := add64_nat a1 b1 q0 l0
  obtain ⟨z2, q2, h2, e2, l2⟩ := add64_nat a2 b2 q1 l1
  obtain ⟨z3, q3, h3, e3, l3⟩ := add64_nat a3 b3 q2 l2
  have ez : (I.of .u64 0).nat = 0 := rfl
  rw [ez] at e0
  have n0 := nat_lt z0
  have n1 := nat_lt z1
  have n2 := nat_lt z2
  have n3 := nat_lt z3
  have step : uint256_Add ((((a0, a1, a2, a3, ()) : U), ((b0, b1, b2, b3, ()) : U), ()), ()) = brn (@I.neb .u64 q3 (I.of .u64 0)) (some ((U.of 0, I.of .i64 4, ()), ())) (some ((((z0, z1, z2, z3, ()) : U), I.of .i64 0, ()), ())) := by
    unfold uint256_Add
    simp only [h0, optF, h1, h2, h3]
    rfl
  rw [step, neb_zero]
  unfold addS
  have hs : U.val (a0, a1, a2, a3, ()) + U.val (b0, b1, b2, b3, ()) = U.val (z0, z1, z2, z3, ()) + U.top * q3.nat := by
    unfold U.val U.top
    simp only
    omega
  have hz := U.lt (z0, z1, z2, z3, ())
  by_cases hq : q3.nat = 0
  · rw [hq, Nat.mul_zero, Nat.add_zero] at hs
    rw [hs, if_pos hz, U.of_val]
    simp [hq]; rfl
  · have hq1 : q3.nat = 1 := by omega
    rw [hq1, Nat.mul_one] at hs
    rw [hs, if_neg (by omega)]
    simp [hq1]; rfl

theorem uint256_Sub_eq (a b : U) : uint256_Sub ((a, b, ()), ()) = some (((subS a b).1, (subS a b).2, ()), ()) := by
  obtain ⟨a0, a1, a2, a3, ⟨⟩⟩ := a
  obtain ⟨b0, b1, b2, b3, ⟨⟩⟩ := b
  obtain ⟨z0, q0, h0, e0, l0⟩ := sub64_nat a0 b0 (I.of .u64 0) (by decide)
  obtain ⟨z1, q1, h1, e1, l1⟩ := sub64_nat a1 b1 q0 l0
  obtain ⟨z2, q2, h2, e2, l2⟩ := sub64_nat a2 b2 q1 l1
  obtain ⟨z3, q3, h3, e3, l3⟩ := sub64_nat a3 b3 q2 l2
  have ez : (I.of .u64 0).nat = 0 := rfl
  rw [ez] at e0
  have n0 := nat_lt z0
  have n1 := nat_lt z1
  have n2 := nat_lt z2
  have n3 := nat_lt z3
  have step : uint256_Sub ((((a0, a1, a2, a3, ()) : U), ((b0, b1, b2, b3, ()) : U), ()), ()) = brn (@I.neb .u64 q3 (I.of .u64 0)) (some ((U.of 0, I.of .i64 4, ()), ())) (some ((((z0, z1, z2, z3, ()) : U), I.of .i64 0, ()), ())) := by
    unfold uint256_Sub
    simp only [h0, optF, h1, h2, h3]
    rfl
  rw [step, neb_zero]
  unfold subS
  have hs : U.val (z0, z1, z2, z3, ()) + U.val (b0, b1, b2, b3, ()) = U.val (a0, a1, a2, a3, ()) + U.top * q3.nat := by
    unfold U.val U.top
    simp only
    omega
  have key : ∀ va vb vz q : Nat, vz + vb = va + U.top * q → vz < U.top → q ≤ 1 → (q = 0 → vb ≤ va ∧ va - vb = vz) ∧ (q = 1 → ¬ vb ≤ va) := by
    intro va vb vz q h1 h2 h3
    refine ⟨fun h => ?_, fun h => ?_⟩
    · subst h; rw [Nat.mul_zero] at h1; omega
    · subst h; rw [Nat.mul_one] at h1; omega
  obtain ⟨k0, k1⟩ := key _ _ _ _ hs (U.lt (z0, z1, z2, z3, ())) l3
  by_cases hq : q3.nat = 0
  · obtain ⟨k2, k3⟩ := k0 hq
    rw [if_pos k2, k3, U.of_val]
    simp [hq]; rfl
  · have hq1 : q3.nat = 1 := by omega
    rw [if_neg (k1 hq1)]
    simp [hq1]; rfl

theorem uint256_Cmp_eq (a b : U) : uint256_Cmp ((a, b, ()), ()) = some ((cmpS a b, ()), ()) := by
  obtain ⟨a0, a1, a2, a3, ⟨⟩⟩ := a
  obtain ⟨b0, b1, b2, b3, ⟨⟩⟩ := b
  unfold uint256_Cmp cmpS U.val
  simp only [ltb_nat]
  have n0 := nat_lt a0
  have n1 := nat_lt a1
  have n2 := nat_lt a2
  have n3 := nat_lt a3
  have m0 := nat_lt b0
  have m1 := nat_lt b1
  have m2 := nat_lt b2
  have m3 := nat_lt b3
  by_cases c1 : a3.nat < b3.nat
  · simp only [c1, decide_true, cond_true, brn]; rw [if_pos (by omega)]; rfl
  by_cases c2 : b3.nat < a3.nat
  · simp only [c1, c2, decide_true, decide_false, cond_true, cond_false, brn]; rw [if_neg (by omega), if_pos (by omega)]; rfl
  by_cases c3 : a2.nat < b2.nat
  · simp only [c1, c2, c3, decide_true, decide_false, cond_true, cond_false, brn]; rw [if_pos (by omega)]; rfl
  by_cases c4 : b2.nat < a2.nat
  · simp only [c1, c2, c3, c4, decide_true, decide_false, cond_true, cond_false, brn]; rw [if_neg (by omega), if_pos (by omega)]; rfl
  by_cases c5 : a1.nat < b1.nat
  · simp only [c1, c2, c3, c4, c5, decide_true, decide_false, cond_true, cond_false, brn]; rw [if_pos (by omega)]; rfl
  by_cases c6 : b1.nat < a1.nat
  · simp only [c1, c2, c3, c4, c5, c6, decide_true, decide_false, cond_true, cond_false, brn]; rw [if_neg (by omega), if_pos (by omega)]; rfl
  by_cases c7 : a0.nat < b0.nat
  · simp only [c1, c2, c3, c4, c5, c6, c7, decide_true, decide_false, cond_true, cond_false, brn]; rw [if_pos (by omega)]; rfl
  by_cases c8 : b0.nat < a0.nat
  · simp only [c1, c2, c3, c4, c5, c6, c7, c8, decide_true, decide_false, cond_true, cond_false, brn]; rw [if_neg (by omega), if_pos (by omega)]; rfl
  · simp only [c1, c2, c3, c4, c5, c6, c7, c8, decide_false, cond_false, brn]; rw [if_neg (by omega), if_neg (by omega)]; rfl
end Sym

/- Rounds: more than any run takes, and never counted out. -/
namespace Sym
theorem roundsEx : ∃ k : Nat, k = 2 ^ 64 := ⟨_, rfl⟩
/-- The rounds that a loop may take. -/
noncomputable def K0 : Nat := Classical.choose roundsEx
theorem K0_eq : K0 = 2 ^ 64 := Classical.choose_spec roundsEx
end Sym

/- The given functions as plain functions, as the printer told them. -/
namespace Sym
open Go

/-- pontage/pontageref1.norm -/
noncomputable def pontageref1_norm (x : (⟨[.pl (.sl (.int .i64))], []⟩ : Tm).D) : Option (⟨[.pl (.sl (.int .i64))], []⟩ : Tm).D :=
 let a : List (I .i64) := x.1.1
 iter (none) (fun x0 =>
   brn (@I.ltb .i64 (I.of .i64 0) x0.1.2.1)
    (brn (@inB .i64 (@I.sub .i64 x0.1.2.1 (I.of .i64 1)) (@lenL (I .i64) x0.1.1))
     (brn (@I.eqb .i64 (@rdL (I .i64) (I.of .i64 0) x0.1.1 (@I.nat .i64 (@I.sub .i64 x0.1.2.1 (I.of .i64 1)))) (I.of .i64 0))
      (.again ((x0.1.1, ((@I.sub .i64 x0.1.2.1 (I.of .i64 1)), ())), ()))
      (.done (brn (@inB' .i64 x0.1.2.1 (@lenL (I .i64) x0.1.1))
       (some (((@subL (I .i64) x0.1.1 0 (@I.nat .i64 x0.1.2.1)), ()), ()))
       (none))))
     (.done (none)))
    (.done (brn (@inB' .i64 x0.1.2.1 (@lenL (I .i64) x0.1.1))
     (some (((@subL (I .i64) x0.1.1 0 (@I.nat .i64 x0.1.2.1)), ()), ()))
     (none))))
 K0 ((a, ((I.ofNat .i64 (@lenL (I .i64) a)), ())), ())

/-- pontage/pontageref1.Cmp -/
noncomputable def pontageref1_Cmp (x : (⟨[.pl (.sl (.int .i64)), .pl (.sl (.int .i64))], []⟩ : Tm).D) : Option (⟨[.pl (.int .i64)], []⟩ : Tm).D :=
 let a : List (I .i64) := x.1.1
 let b : List (I .i64) := x.1.2.1
 brn (@I.neb .i64 (I.ofNat .i64 (@lenL (I .i64) a)) (I.ofNat .i64 (@lenL (I .i64) b)))
  (brn (@I.ltb .i64 (I.ofNat .i64 (@lenL (I .i64) a)) (I.ofNat .i64 (@lenL (I .i64) b)))
   (some (((I.of .i64 (-1)), ()), ()))
   (some (((I.of .i64 1), ()), ())))
  (iter (none) (fun x0 =>
    brn (@I.leb .i64 (I.of .i64 0) x0.1.2.2.1)
     (brn (@inB .i64 x0.1.2.2.1 (@lenL (I .i64) x0.1.1))
      (brn (@inB .i64 x0.1.2.2.1 (@lenL (I .i64) x0.1.2.1))
       (brn (@I.ltb .i64 (@rdL (I .i64) (I.of .i64 0) x0.1.1 (@I.nat .i64 x0.1.2.2.1)) (@rdL (I .i64) (I.of .i64 0) x0.1.2.1 (@I.nat .i64 x0.1.2.2.1)))
        (.done (some (((I.of .i64 (-1)), ()), ())))
        (brn (@inB .i64 x0.1.2.2.1 (@lenL (I .i64) x0.1.1))
         (brn (@inB .i64 x0.1.2.2.1 (@lenL (I .i64) x0.1.2.1))
          (brn (@I.ltb .i64 (@rdL (I .i64) (I.of .i64 0) x0.1.2.1 (@I.nat .i64 x0.1.2.2.1)) (@rdL (I .i64) (I.of .i64 0) x0.1.1 (@I.nat .i64 x0.1.2.2.1)))
           (.done (some (((I.of .i64 1), ()), ())))
           (.again ((x0.1.1, (x0.1.2.1, ((@I.sub .i64 x0.1.2.2.1 (I.of .i64 1)), ()))), ())))
          (.done (none)))
         (.done (none))))
       (.done (none)))
      (.done (none)))
     (.done (some (((I.of .i64 0), ()), ()))))
  K0 ((a, (b, ((@I.sub .i64 (I.ofNat .i64 (@lenL (I .i64) a)) (I.of .i64 1)), ()))), ()))

/-- pontage/pontageref1.Sub -/
noncomputable def pontageref1_Sub (x : (⟨[.pl (.sl (.int .i64)), .pl (.sl (.int .i64))], []⟩ : Tm).D) : Option (⟨[.pl (.sl (.int .i64))], []⟩ : Tm).D :=
 let a : List (I .i64) := x.1.1
 let b : List (I .i64) := x.1.2.1
 brn (@inB' .i64 (I.ofNat .i64 (@lenL (I .i64) a)) (@I.nat .i64 (I.ofNat .i64 (@lenL (I .i64) a))))
  (brn (@inB' .i64 (I.ofNat .i64 (@lenL (I .i64) a)) 1073741824)
   (iter (none) (fun x0 =>
     brn (@I.ltb .i64 x0.1.2.2.2.1 (I.ofNat .i64 (@lenL (I .i64) x0.1.1)))
      (brn (@inB .i64 x0.1.2.2.2.1 (@lenL (I .i64) x0.1.1))
       (jn (fun (x1 : (((List (I .i64)) × ((List (I .i64)) × ((I .i64) × ((I .i64) × Unit)))) × ((List (I .i64)) × Unit))) =>
         brn (@I.ltb .i64 x1.1.2.2.2.1 (I.of .i64 0))
          (brn (@inB .i64 x1.1.2.2.1 (@lenL (I .i64) x1.2.1))
           (.again ((x1.1.1, (x1.1.2.1, ((I.of .i64 1), ((@I.add .i64 x1.1.2.2.1 (I.of .i64 1)), ())))), ((@setL (I .i64) x1.2.1 (@I.nat .i64 x1.1.2.2.1) (@I.add .i64 x1.1.2.2.2.1 (I.of .i64 65536))), ())))
           (.done (none)))
          (brn (@inB .i64 x1.1.2.2.1 (@lenL (I .i64) x1.2.1))
           (.again ((x1.1.1, (x1.1.2.1, ((I.of .i64 0), ((@I.add .i64 x1.1.2.2.1 (I.of .i64 1)), ())))), ((@setL (I .i64) x1.2.1 (@I.nat .i64 x1.1.2.2.1) x1.1.2.2.2.1), ())))
           (.done (none)))) fun j1 =>
       brn (@I.ltb .i64 x0.1.2.2.2.1 (I.ofNat .i64 (@lenL (I .i64) x0.1.2.1)))
        (brn (@inB .i64 x0.1.2.2.2.1 (@lenL (I .i64) x0.1.2.1))
         (j1 ((x0.1.1, (x0.1.2.1, (x0.1.2.2.2.1, ((@I.sub .i64 (@I.sub .i64 (@rdL (I .i64) (I.of .i64 0) x0.1.1 (@I.nat .i64 x0.1.2.2.2.1)) x0.1.2.2.1) (@rdL (I .i64) (I.of .i64 0) x0.1.2.1 (@I.nat .i64 x0.1.2.2.2.1))), ())))), (x0.2.1, ())))
         (.done (none)))
        (j1 ((x0.1.1, (x0.1.2.1, (x0.1.2.2.2.1, ((@I.sub .i64 (@rdL (I .i64) (I.of .i64 0) x0.1.1 (@I.nat .i64 x0.1.2.2.2.1)) x0.1.2.2.1), ())))), (x0.2.1, ()))))
       (.done (none)))
      (.done (iter (none) (fun x1 =>
        brn (@I.ltb .i64 (I.of .i64 0) x1.1.1)
         (brn (@inB .i64 (@I.sub .i64 x1.1.1 (I.of .i64 1)) (@lenL (I .i64) x1.2.1))
          (brn (@I.eqb .i64 (@rdL (I .i64) (I.of .i64 0) x1.2.1 (@I.nat .i64 (@I.sub .i64 x1.1.1 (I.of .i64 1)))) (I.of .i64 0))
           (.again (((@I.sub .i64 x1.1.1 (I.of .i64 1)), ()), (x1.2.1, ())))
           (.done (brn (@inB' .i64 x1.1.1 (@lenL (I .i64) x1.2.1))
            (some (((@subL (I .i64) x1.2.1 0 (@I.nat .i64 x1.1.1)), ()), ()))
            (none))))
          (.done (none)))
         (.done (brn (@inB' .i64 x1.1.1 (@lenL (I .i64) x1.2.1))
          (some (((@subL (I .i64) x1.2.1 0 (@I.nat .i64 x1.1.1)), ()), ()))
          (none))))
      K0 (((I.ofNat .i64 (@lenL (I .i64) x0.2.1)), ()), (x0.2.1, ())))))
   K0 ((a, (b, ((I.of .i64 0), ((I.of .i64 0), ())))), ((@repD (I .i64) (@I.nat .i64 (I.ofNat .i64 (@lenL (I .i64) a))) (I.of .i64 0)), ())))
   (none))
  (none)

/-- pontage/pontageref1.short -/
noncomputable def pontageref1_short (x : (⟨[.pl (.sl (.int .i64)), .pl (.int .i64)], []⟩ : Tm).D) : Option (⟨[.pl (.sl (.int .i64)), .pl (.sl (.int .i64))], []⟩ : Tm).D :=
 let a : List (I .i64) := x.1.1
 let b : I .i64 := x.1.2.1
 brn (@inB' .i64 (I.ofNat .i64 (@lenL (I .i64) a)) (@I.nat .i64 (I.ofNat .i64 (@lenL (I .i64) a))))
  (brn (@inB' .i64 (I.ofNat .i64 (@lenL (I .i64) a)) 1073741824)
   (iter (none) (fun x0 =>
     brn (@I.leb .i64 (I.of .i64 0) x0.1.2.2.2.1)
      (brn (@inB .i64 x0.1.2.2.2.1 (@lenL (I .i64) x0.1.1))
       (brn (@I.nz .i64 x0.1.2.1)
        (brn (@I.nz .i64 x0.1.2.1)
         (brn (@inB .i64 x0.1.2.2.2.1 (@lenL (I .i64) x0.2.1))
          (.again ((x0.1.1, (x0.1.2.1, ((@I.rem .i64 (@I.add .i64 (@I.mul .i64 (I.of .i64 65536) x0.1.2.2.1) (@rdL (I .i64) (I.of .i64 0) x0.1.1 (@I.nat .i64 x0.1.2.2.2.1))) x0.1.2.1), ((@I.sub .i64 x0.1.2.2.2.1 (I.of .i64 1)), ())))), ((@setL (I .i64) x0.2.1 (@I.nat .i64 x0.1.2.2.2.1) (@I.quo .i64 (@I.add .i64 (@I.mul .i64 (I.of .i64 65536) x0.1.2.2.1) (@rdL (I .i64) (I.of .i64 0) x0.1.1 (@I.nat .i64 x0.1.2.2.2.1))) x0.1.2.1)), ())))
          (.done (none)))
         (.done (none)))
        (.done (none)))
       (.done (none)))
      (.done (optF (none) (pontageref1_norm ((x0.2.1, ()), ())) fun y1 =>
      optF (none) (pontageref1_norm (((x0.1.2.2.1 :: []), ()), ())) fun y2 =>
      some ((y1.1.1, (y2.1.1, ())), ()))))
   K0 ((a, (b, ((I.of .i64 0), ((@I.sub .i64 (I.ofNat .i64 (@lenL (I .i64) a)) (I.of .i64 1)), ())))), ((@repD (I .i64) (@I.nat .i64 (I.ofNat .i64 (@lenL (I .i64) a))) (I.of .i64 0)), ())))
   (none))
  (none)

/-- pontage/pontageref1.Div -/
noncomputable def pontageref1_Div (x : (⟨[.pl (.sl (.int .i64)), .pl (.sl (.int .i64))], []⟩ : Tm).D) : Option (⟨[.pl (.sl (.int .i64)), .pl (.sl (.int .i64))], []⟩ : Tm).D :=
 let a : List (I .i64) := x.1.1
 let b : List (I .i64) := x.1.2.1
 brn (@I.eqb .i64 (I.ofNat .i64 (@lenL (I .i64) b)) (I.of .i64 1))
  (brn (@inB .i64 (I.of .i64 0) (@lenL (I .i64) b))
   (optF (none) (pontageref1_short ((a, ((@rdL (I .i64) (I.of .i64 0) b 0), ())), ())) fun y0 =>
   some ((y0.1.1, (y0.1.2.1, ())), ()))
   (none))
  (brn (@inB' .i64 (I.ofNat .i64 (@lenL (I .i64) a)) (@I.nat .i64 (I.ofNat .i64 (@lenL (I .i64) a))))
   (brn (@inB' .i64 (I.ofNat .i64 (@lenL (I .i64) a)) 1073741824)
    (brn (@inB' .i64 (@I.add .i64 (I.ofNat .i64 (@lenL (I .i64) b)) (I.of .i64 1)) (@I.nat .i64 (@I.add .i64 (I.ofNat .i64 (@lenL (I .i64) b)) (I.of .i64 1))))
     (brn (@inB' .i64 (@I.add .i64 (I.ofNat .i64 (@lenL (I .i64) b)) (I.of .i64 1)) 1073741824)
      (iter (none) (fun x0 =>
        brn (@I.leb .i64 (I.of .i64 0) x0.1.2.2.1)
         (iter (.done (none)) (fun x1 =>
           brn (@I.leb .i64 (I.of .i64 0) x1.1.2.2.2.1)
            (brn (@inB .i64 x1.1.2.2.1 (@lenL (I .i64) x1.1.1))
             (brn (@I.nn .u64 (I.conv (k := .i64) .u64 x1.1.2.2.2.1))
              (iter (.done (.done (none))) (fun x2 =>
                brn (@I.ltb .i64 x2.1.2.2.2.2.2.1 (I.ofNat .i64 (@lenL (I .i64) x2.2.2.1)))
                 (brn (@inB .i64 x2.1.2.2.2.2.2.1 (@lenL (I .i64) x2.2.2.1))
                  (brn (@inB .i64 x2.1.2.2.2.2.2.1 (@lenL (I .i64) x2.2.2.1))
                   (.again ((x2.1.1, (x2.1.2.1, (x2.1.2.2.1, (x2.1.2.2.2.1, ((@I.shr .i64 .u64 (@I.add .i64 x2.1.2.2.2.2.1 (@I.mul .i64 (I.of .i64 2) (@rdL (I .i64) (I.of .i64 0) x2.2.2.1 (@I.nat .i64 x2.1.2.2.2.2.2.1)))) (I.of .u64 16)), ((@I.add .i64 x2.1.2.2.2.2.2.1 (I.of .i64 1)), ())))))), (x2.2.1, ((@setL (I .i64) x2.2.2.1 (@I.nat .i64 x2.1.2.2.2.2.2.1) (@I.and .i64 (@I.add .i64 x2.1.2.2.2.2.1 (@I.mul .i64 (I.of .i64 2) (@rdL (I .i64) (I.of .i64 0) x2.2.2.1 (@I.nat .i64 x2.1.2.2.2.2.2.1)))) (I.of .i64 65535))), ()))))
                   (.done (.done (.done (none)))))
                  (.done (.done (.done (none)))))
                 (.done (iter (.done (.done (none))) (fun x3 =>
                   brn (@I.ltb .i64 (I.of .i64 0) x3.1.1)
                    (brn (@inB .i64 (@I.sub .i64 x3.1.1 (I.of .i64 1)) (@lenL (I .i64) x3.2.1))
                     (brn (@I.eqb .i64 (@rdL (I .i64) (I.of .i64 0) x3.2.1 (@I.nat .i64 (@I.sub .i64 x3.1.1 (I.of .i64 1)))) (I.of .i64 0))
                      (.again (((@I.sub .i64 x3.1.1 (I.of .i64 1)), (x3.1.2.1, (x3.1.2.2.1, (x3.1.2.2.2.1, (x3.1.2.2.2.2.1, ()))))), (x3.2.1, (x3.2.2.1, ()))))
                      (.done (brn (@inB' .i64 x3.1.1 (@lenL (I .i64) x3.2.1))
                       (optF (.done (.done (none))) (pontageref1_Cmp (((@subL (I .i64) x3.2.1 0 (@I.nat .i64 x3.1.1)), (x3.1.2.2.1, ())), ())) fun y4 =>
                       brn (@I.leb .i64 (I.of .i64 0) y4.1.1)
                        (iter (.done (.done (none))) (fun x5 =>
                          brn (@I.ltb .i64 (I.of .i64 0) x5.1.1)
                           (brn (@inB .i64 (@I.sub .i64 x5.1.1 (I.of .i64 1)) (@lenL (I .i64) x5.2.1))
                            (brn (@I.eqb .i64 (@rdL (I .i64) (I.of .i64 0) x5.2.1 (@I.nat .i64 (@I.sub .i64 x5.1.1 (I.of .i64 1)))) (I.of .i64 0))
                             (.again (((@I.sub .i64 x5.1.1 (I.of .i64 1)), (x5.1.2.1, (x5.1.2.2.1, (x5.1.2.2.2.1, (x5.1.2.2.2.2.1, ()))))), (x5.2.1, (x5.2.2.1, ()))))
                             (.done (brn (@inB' .i64 x5.1.1 (@lenL (I .i64) x5.2.1))
                              (optF (.done (.done (none))) (pontageref1_Sub (((@subL (I .i64) x5.2.1 0 (@I.nat .i64 x5.1.1)), (x5.1.2.2.1, ())), ())) fun y6 =>
                              iter (.done (.done (none))) (fun x7 =>
                                brn (@I.ltb .i64 x7.1.2.2.2.2.2.1 (I.ofNat .i64 (@lenL (I .i64) x7.2.2.1)))
                                 (brn (@inB .i64 x7.1.2.2.2.2.2.1 (@lenL (I .i64) x7.2.2.1))
                                  (brn (@I.ltb .i64 x7.1.2.2.2.2.2.1 (I.ofNat .i64 (@lenL (I .i64) x7.1.2.2.2.2.1)))
                                   (brn (@inB .i64 x7.1.2.2.2.2.2.1 (@lenL (I .i64) x7.1.2.2.2.2.1))
                                    (brn (@inB .i64 x7.1.2.2.2.2.2.1 (@lenL (I .i64) (@setL (I .i64) x7.2.2.1 (@I.nat .i64 x7.1.2.2.2.2.2.1) (I.of .i64 0))))
                                     (.again ((x7.1.1, (x7.1.2.1, (x7.1.2.2.1, (x7.1.2.2.2.1, (x7.1.2.2.2.2.1, ((@I.add .i64 x7.1.2.2.2.2.2.1 (I.of .i64 1)), ())))))), (x7.2.1, ((@setL (I .i64) (@setL (I .i64) x7.2.2.1 (@I.nat .i64 x7.1.2.2.2.2.2.1) (I.of .i64 0)) (@I.nat .i64 x7.1.2.2.2.2.2.1) (@rdL (I .i64) (I.of .i64 0) x7.1.2.2.2.2.1 (@I.nat .i64 x7.1.2.2.2.2.2.1))), ()))))
                                     (.done (.done (.done (none)))))
                                    (.done (.done (.done (none)))))
                                   (.again ((x7.1.1, (x7.1.2.1, (x7.1.2.2.1, (x7.1.2.2.2.1, (x7.1.2.2.2.2.1, ((@I.add .i64 x7.1.2.2.2.2.2.1 (I.of .i64 1)), ())))))), (x7.2.1, ((@setL (I .i64) x7.2.2.1 (@I.nat .i64 x7.1.2.2.2.2.2.1) (I.of .i64 0)), ())))))
                                  (.done (.done (.done (none)))))
                                 (.done (brn (@inB .i64 x7.1.2.2.1 (@lenL (I .i64) x7.2.1))
                                  (brn (@I.nn .u64 (I.conv (k := .i64) .u64 x7.1.2.2.2.1))
                                   (brn (@inB .i64 x7.1.2.2.1 (@lenL (I .i64) x7.2.1))
                                    (.again ((x7.1.1, (x7.1.2.1, (x7.1.2.2.1, ((@I.sub .i64 x7.1.2.2.2.1 (I.of .i64 1)), ())))), ((@setL (I .i64) x7.2.1 (@I.nat .i64 x7.1.2.2.1) (@I.add .i64 (@rdL (I .i64) (I.of .i64 0) x7.2.1 (@I.nat .i64 x7.1.2.2.1)) (@I.shl .i64 .u64 (I.of .i64 1) (I.conv (k := .i64) .u64 x7.1.2.2.2.1)))), (x7.2.2.1, ()))))
                                    (.done (.done (none))))
                                   (.done (.done (none))))
                                  (.done (.done (none))))))
                              K0 ((x5.1.2.1, (x5.1.2.2.1, (x5.1.2.2.2.1, (x5.1.2.2.2.2.1, (y6.1.1, ((I.of .i64 0), ())))))), (x5.2.2.1, (x5.2.1, ()))))
                              (.done (.done (none))))))
                            (.done (.done (.done (none)))))
                           (.done (brn (@inB' .i64 x5.1.1 (@lenL (I .i64) x5.2.1))
                            (optF (.done (.done (none))) (pontageref1_Sub (((@subL (I .i64) x5.2.1 0 (@I.nat .i64 x5.1.1)), (x5.1.2.2.1, ())), ())) fun y6 =>
                            iter (.done (.done (none))) (fun x7 =>
                              brn (@I.ltb .i64 x7.1.2.2.2.2.2.1 (I.ofNat .i64 (@lenL (I .i64) x7.2.2.1)))
                               (brn (@inB .i64 x7.1.2.2.2.2.2.1 (@lenL (I .i64) x7.2.2.1))
                                (brn (@I.ltb .i64 x7.1.2.2.2.2.2.1 (I.ofNat .i64 (@lenL (I .i64) x7.1.2.2.2.2.1)))
                                 (brn (@inB .i64 x7.1.2.2.2.2.2.1 (@lenL (I .i64) x7.1.2.2.2.2.1))
                                  (brn (@inB .i64 x7.1.2.2.2.2.2.1 (@lenL (I .i64) (@setL (I .i64) x7.2.2.1 (@I.nat .i64 x7.1.2.2.2.2.2.1) (I.of .i64 0))))
                                   (.again ((x7.1.1, (x7.1.2.1, (x7.1.2.2.1, (x7.1.2.2.2.1, (x7.1.2.2.2.2.1, ((@I.add .i64 x7.1.2.2.2.2.2.1 (I.of .i64 1)), ())))))), (x7.2.1, ((@setL (I .i64) (@setL (I .i64) x7.2.2.1 (@I.nat .i64 x7.1.2.2.2.2.2.1) (I.of .i64 0)) (@I.nat .i64 x7.1.2.2.2.2.2.1) (@rdL (I .i64) (I.of .i64 0) x7.1.2.2.2.2.1 (@I.nat .i64 x7.1.2.2.2.2.2.1))), ()))))
                                   (.done (.done (.done (none)))))
                                  (.done (.done (.done (none)))))
                                 (.again ((x7.1.1, (x7.1.2.1, (x7.1.2.2.1, (x7.1.2.2.2.1, (x7.1.2.2.2.2.1, ((@I.add .i64 x7.1.2.2.2.2.2.1 (I.of .i64 1)), ())))))), (x7.2.1, ((@setL (I .i64) x7.2.2.1 (@I.nat .i64 x7.1.2.2.2.2.2.1) (I.of .i64 0)), ())))))
                                (.done (.done (.done (none)))))
                               (.done (brn (@inB .i64 x7.1.2.2.1 (@lenL (I .i64) x7.2.1))
                                (brn (@I.nn .u64 (I.conv (k := .i64) .u64 x7.1.2.2.2.1))
                                 (brn (@inB .i64 x7.1.2.2.1 (@lenL (I .i64) x7.2.1))
                                  (.again ((x7.1.1, (x7.1.2.1, (x7.1.2.2.1, ((@I.sub .i64 x7.1.2.2.2.1 (I.of .i64 1)), ())))), ((@setL (I .i64) x7.2.1 (@I.nat .i64 x7.1.2.2.1) (@I.add .i64 (@rdL (I .i64) (I.of .i64 0) x7.2.1 (@I.nat .i64 x7.1.2.2.1)) (@I.shl .i64 .u64 (I.of .i64 1) (I.conv (k := .i64) .u64 x7.1.2.2.2.1)))), (x7.2.2.1, ()))))
                                  (.done (.done (none))))
                                 (.done (.done (none))))
                                (.done (.done (none))))))
                            K0 ((x5.1.2.1, (x5.1.2.2.1, (x5.1.2.2.2.1, (x5.1.2.2.2.2.1, (y6.1.1, ((I.of .i64 0), ())))))), (x5.2.2.1, (x5.2.1, ()))))
                            (.done (.done (none))))))
                        K0 (((I.ofNat .i64 (@lenL (I .i64) x3.2.1)), (x3.1.2.1, (x3.1.2.2.1, (x3.1.2.2.2.1, (x3.1.2.2.2.2.1, ()))))), (x3.2.1, (x3.2.2.1, ()))))
                        (.again ((x3.1.2.1, (x3.1.2.2.1, (x3.1.2.2.2.1, ((@I.sub .i64 x3.1.2.2.2.2.1 (I.of .i64 1)), ())))), (x3.2.2.1, (x3.2.1, ())))))
                       (.done (.done (none))))))
                     (.done (.done (.done (none)))))
                    (.done (brn (@inB' .i64 x3.1.1 (@lenL (I .i64) x3.2.1))
                     (optF (.done (.done (none))) (pontageref1_Cmp (((@subL (I .i64) x3.2.1 0 (@I.nat .i64 x3.1.1)), (x3.1.2.2.1, ())), ())) fun y4 =>
                     brn (@I.leb .i64 (I.of .i64 0) y4.1.1)
                      (iter (.done (.done (none))) (fun x5 =>
                        brn (@I.ltb .i64 (I.of .i64 0) x5.1.1)
                         (brn (@inB .i64 (@I.sub .i64 x5.1.1 (I.of .i64 1)) (@lenL (I .i64) x5.2.1))
                          (brn (@I.eqb .i64 (@rdL (I .i64) (I.of .i64 0) x5.2.1 (@I.nat .i64 (@I.sub .i64 x5.1.1 (I.of .i64 1)))) (I.of .i64 0))
                           (.again (((@I.sub .i64 x5.1.1 (I.of .i64 1)), (x5.1.2.1, (x5.1.2.2.1, (x5.1.2.2.2.1, (x5.1.2.2.2.2.1, ()))))), (x5.2.1, (x5.2.2.1, ()))))
                           (.done (brn (@inB' .i64 x5.1.1 (@lenL (I .i64) x5.2.1))
                            (optF (.done (.done (none))) (pontageref1_Sub (((@subL (I .i64) x5.2.1 0 (@I.nat .i64 x5.1.1)), (x5.1.2.2.1, ())), ())) fun y6 =>
                            iter (.done (.done (none))) (fun x7 =>
                              brn (@I.ltb .i64 x7.1.2.2.2.2.2.1 (I.ofNat .i64 (@lenL (I .i64) x7.2.2.1)))
                               (brn (@inB .i64 x7.1.2.2.2.2.2.1 (@lenL (I .i64) x7.2.2.1))
                                (brn (@I.ltb .i64 x7.1.2.2.2.2.2.1 (I.ofNat .i64 (@lenL (I .i64) x7.1.2.2.2.2.1)))
                                 (brn (@inB .i64 x7.1.2.2.2.2.2.1 (@lenL (I .i64) x7.1.2.2.2.2.1))
                                  (brn (@inB .i64 x7.1.2.2.2.2.2.1 (@lenL (I .i64) (@setL (I .i64) x7.2.2.1 (@I.nat .i64 x7.1.2.2.2.2.2.1) (I.of .i64 0))))
                                   (.again ((x7.1.1, (x7.1.2.1, (x7.1.2.2.1, (x7.1.2.2.2.1, (x7.1.2.2.2.2.1, ((@I.add .i64 x7.1.2.2.2.2.2.1 (I.of .i64 1)), ())))))), (x7.2.1, ((@setL (I .i64) (@setL (I .i64) x7.2.2.1 (@I.nat .i64 x7.1.2.2.2.2.2.1) (I.of .i64 0)) (@I.nat .i64 x7.1.2.2.2.2.2.1) (@rdL (I .i64) (I.of .i64 0) x7.1.2.2.2.2.1 (@I.nat .i64 x7.1.2.2.2.2.2.1))), ()))))
                                   (.done (.done (.done (none)))))
                                  (.done (.done (.done (none)))))
                                 (.again ((x7.1.1, (x7.1.2.1, (x7.1.2.2.1, (x7.1.2.2.2.1, (x7.1.2.2.2.2.1, ((@I.add .i64 x7.1.2.2.2.2.2.1 (I.of .i64 1)), ())))))), (x7.2.1, ((@setL (I .i64) x7.2.2.1 (@I.nat .i64 x7.1.2.2.2.2.2.1) (I.of .i64 0)), ())))))
                                (.done (.done (.done (none)))))
                               (.done (brn (@inB .i64 x7.1.2.2.1 (@lenL (I .i64) x7.2.1))
                                (brn (@I.nn .u64 (I.conv (k := .i64) .u64 x7.1.2.2.2.1))
                                 (brn (@inB .i64 x7.1.2.2.1 (@lenL (I .i64) x7.2.1))
                                  (.again ((x7.1.1, (x7.1.2.1, (x7.1.2.2.1, ((@I.sub .i64 x7.1.2.2.2.1 (I.of .i64 1)), ())))), ((@setL (I .i64) x7.2.1 (@I.nat .i64 x7.1.2.2.1) (@I.add .i64 (@rdL (I .i64) (I.of .i64 0) x7.2.1 (@I.nat .i64 x7.1.2.2.1)) (@I.shl .i64 .u64 (I.of .i64 1) (I.conv (k := .i64) .u64 x7.1.2.2.2.1)))), (x7.2.2.1, ()))))
                                  (.done (.done (none))))
                                 (.done (.done (none))))
                                (.done (.done (none))))))
                            K0 ((x5.1.2.1, (x5.1.2.2.1, (x5.1.2.2.2.1, (x5.1.2.2.2.2.1, (y6.1.1, ((I.of .i64 0), ())))))), (x5.2.2.1, (x5.2.1, ()))))
                            (.done (.done (none))))))
                          (.done (.done (.done (none)))))
                         (.done (brn (@inB' .i64 x5.1.1 (@lenL (I .i64) x5.2.1))
                          (optF (.done (.done (none))) (pontageref1_Sub (((@subL (I .i64) x5.2.1 0 (@I.nat .i64 x5.1.1)), (x5.1.2.2.1, ())), ())) fun y6 =>
                          iter (.done (.done (none))) (fun x7 =>
                            brn (@I.ltb .i64 x7.1.2.2.2.2.2.1 (I.ofNat .i64 (@lenL (I .i64) x7.2.2.1)))
                             (brn (@inB .i64 x7.1.2.2.2.2.2.1 (@lenL (I .i64) x7.2.2.1))
                              (brn (@I.ltb .i64 x7.1.2.2.2.2.2.1 (I.ofNat .i64 (@lenL (I .i64) x7.1.2.2.2.2.1)))
                               (brn (@inB .i64 x7.1.2.2.2.2.2.1 (@lenL (I .i64) x7.1.2.2.2.2.1))
                                (brn (@inB .i64 x7.1.2.2.2.2.2.1 (@lenL (I .i64) (@setL (I .i64) x7.2.2.1 (@I.nat .i64 x7.1.2.2.2.2.2.1) (I.of .i64 0))))
                                 (.again ((x7.1.1, (x7.1.2.1, (x7.1.2.2.1, (x7.1.2.2.2.1, (x7.1.2.2.2.2.1, ((@I.add .i64 x7.1.2.2.2.2.2.1 (I.of .i64 1)), ())))))), (x7.2.1, ((@setL (I .i64) (@setL (I .i64) x7.2.2.1 (@I.nat .i64 x7.1.2.2.2.2.2.1) (I.of .i64 0)) (@I.nat .i64 x7.1.2.2.2.2.2.1) (@rdL (I .i64) (I.of .i64 0) x7.1.2.2.2.2.1 (@I.nat .i64 x7.1.2.2.2.2.2.1))), ()))))
                                 (.done (.done (.done (none)))))
                                (.done (.done (.done (none)))))
                               (.again ((x7.1.1, (x7.1.2.1, (x7.1.2.2.1, (x7.1.2.2.2.1, (x7.1.2.2.2.2.1, ((@I.add .i64 x7.1.2.2.2.2.2.1 (I.of .i64 1)), ())))))), (x7.2.1, ((@setL (I .i64) x7.2.2.1 (@I.nat .i64 x7.1.2.2.2.2.2.1) (I.of .i64 0)), ())))))
                              (.done (.done (.done (none)))))
                             (.done (brn (@inB .i64 x7.1.2.2.1 (@lenL (I .i64) x7.2.1))
                              (brn (@I.nn .u64 (I.conv (k := .i64) .u64 x7.1.2.2.2.1))
                               (brn (@inB .i64 x7.1.2.2.1 (@lenL (I .i64) x7.2.1))
                                (.again ((x7.1.1, (x7.1.2.1, (x7.1.2.2.1, ((@I.sub .i64 x7.1.2.2.2.1 (I.of .i64 1)), ())))), ((@setL (I .i64) x7.2.1 (@I.nat .i64 x7.1.2.2.1) (@I.add .i64 (@rdL (I .i64) (I.of .i64 0) x7.2.1 (@I.nat .i64 x7.1.2.2.1)) (@I.shl .i64 .u64 (I.of .i64 1) (I.conv (k := .i64) .u64 x7.1.2.2.2.1)))), (x7.2.2.1, ()))))
                                (.done (.done (none))))
                               (.done (.done (none))))
                              (.done (.done (none))))))
                          K0 ((x5.1.2.1, (x5.1.2.2.1, (x5.1.2.2.2.1, (x5.1.2.2.2.2.1, (y6.1.1, ((I.of .i64 0), ())))))), (x5.2.2.1, (x5.2.1, ()))))
                          (.done (.done (none))))))
                      K0 (((I.ofNat .i64 (@lenL (I .i64) x3.2.1)), (x3.1.2.1, (x3.1.2.2.1, (x3.1.2.2.2.1, (x3.1.2.2.2.2.1, ()))))), (x3.2.1, (x3.2.2.1, ()))))
                      (.again ((x3.1.2.1, (x3.1.2.2.1, (x3.1.2.2.2.1, ((@I.sub .i64 x3.1.2.2.2.2.1 (I.of .i64 1)), ())))), (x3.2.2.1, (x3.2.1, ())))))
                     (.done (.done (none))))))
                 K0 (((I.ofNat .i64 (@lenL (I .i64) x2.2.2.1)), (x2.1.1, (x2.1.2.1, (x2.1.2.2.1, (x2.1.2.2.2.1, ()))))), (x2.2.2.1, (x2.2.1, ()))))))
              K0 ((x1.1.1, (x1.1.2.1, (x1.1.2.2.1, (x1.1.2.2.2.1, ((@I.and .i64 (@I.shr .i64 .u64 (@rdL (I .i64) (I.of .i64 0) x1.1.1 (@I.nat .i64 x1.1.2.2.1)) (I.conv (k := .i64) .u64 x1.1.2.2.2.1)) (I.of .i64 1)), ((I.of .i64 0), ())))))), (x1.2.1, (x1.2.2.1, ()))))
              (.done (.done (none))))
             (.done (.done (none))))
            (.done (.again ((x1.1.1, (x1.1.2.1, ((@I.sub .i64 x1.1.2.2.1 (I.of .i64 1)), ()))), (x1.2.1, (x1.2.2.1, ()))))))
         K0 ((x0.1.1, (x0.1.2.1, (x0.1.2.2.1, ((I.of .i64 15), ())))), (x0.2.1, (x0.2.2.1, ()))))
         (.done (iter (none) (fun x1 =>
           brn (@I.ltb .i64 (I.of .i64 0) x1.1.1)
            (brn (@inB .i64 (@I.sub .i64 x1.1.1 (I.of .i64 1)) (@lenL (I .i64) x1.2.1))
             (brn (@I.eqb .i64 (@rdL (I .i64) (I.of .i64 0) x1.2.1 (@I.nat .i64 (@I.sub .i64 x1.1.1 (I.of .i64 1)))) (I.of .i64 0))
              (.again (((@I.sub .i64 x1.1.1 (I.of .i64 1)), ()), (x1.2.1, (x1.2.2.1, ()))))
              (.done (brn (@inB' .i64 x1.1.1 (@lenL (I .i64) x1.2.1))
               (iter (none) (fun x2 =>
                 brn (@I.ltb .i64 (I.of .i64 0) x2.1.1)
                  (brn (@inB .i64 (@I.sub .i64 x2.1.1 (I.of .i64 1)) (@lenL (I .i64) x2.2.1))
                   (brn (@I.eqb .i64 (@rdL (I .i64) (I.of .i64 0) x2.2.1 (@I.nat .i64 (@I.sub .i64 x2.1.1 (I.of .i64 1)))) (I.of .i64 0))
                    (.again (((@I.sub .i64 x2.1.1 (I.of .i64 1)), (x2.1.2.1, ())), (x2.2.1, ())))
                    (.done (brn (@inB' .i64 x2.1.1 (@lenL (I .i64) x2.2.1))
                     (some ((x2.1.2.1, ((@subL (I .i64) x2.2.1 0 (@I.nat .i64 x2.1.1)), ())), ()))
                     (none))))
                   (.done (none)))
                  (.done (brn (@inB' .i64 x2.1.1 (@lenL (I .i64) x2.2.1))
                   (some ((x2.1.2.1, ((@subL (I .i64) x2.2.1 0 (@I.nat .i64 x2.1.1)), ())), ()))
                   (none))))
               K0 (((I.ofNat .i64 (@lenL (I .i64) x1.2.2.1)), ((@subL (I .i64) x1.2.1 0 (@I.nat .i64 x1.1.1)), ())), (x1.2.2.1, ())))
               (none))))
             (.done (none)))
            (.done (brn (@inB' .i64 x1.1.1 (@lenL (I .i64) x1.2.1))
             (iter (none) (fun x2 =>
               brn (@I.ltb .i64 (I.of .i64 0) x2.1.1)
                (brn (@inB .i64 (@I.sub .i64 x2.1.1 (I.of .i64 1)) (@lenL (I .i64) x2.2.1))
                 (brn (@I.eqb .i64 (@rdL (I .i64) (I.of .i64 0) x2.2.1 (@I.nat .i64 (@I.sub .i64 x2.1.1 (I.of .i64 1)))) (I.of .i64 0))
                  (.again (((@I.sub .i64 x2.1.1 (I.of .i64 1)), (x2.1.2.1, ())), (x2.2.1, ())))
                  (.done (brn (@inB' .i64 x2.1.1 (@lenL (I .i64) x2.2.1))
                   (some ((x2.1.2.1, ((@subL (I .i64) x2.2.1 0 (@I.nat .i64 x2.1.1)), ())), ()))
                   (none))))
                 (.done (none)))
                (.done (brn (@inB' .i64 x2.1.1 (@lenL (I .i64) x2.2.1))
                 (some ((x2.1.2.1, ((@subL (I .i64) x2.2.1 0 (@I.nat .i64 x2.1.1)), ())), ()))
                 (none))))
             K0 (((I.ofNat .i64 (@lenL (I .i64) x1.2.2.1)), ((@subL (I .i64) x1.2.1 0 (@I.nat .i64 x1.1.1)), ())), (x1.2.2.1, ())))
             (none))))
         K0 (((I.ofNat .i64 (@lenL (I .i64) x0.2.1)), ()), (x0.2.1, (x0.2.2.1, ()))))))
      K0 ((a, (b, ((@I.sub .i64 (I.ofNat .i64 (@lenL (I .i64) a)) (I.of .i64 1)), ()))), ((@repD (I .i64) (@I.nat .i64 (I.ofNat .i64 (@lenL (I .i64) a))) (I.of .i64 0)), ((@repD (I .i64) (@I.nat .i64 (@I.add .i64 (I.ofNat .i64 (@lenL (I .i64) b)) (I.of .i64 1))) (I.of .i64 0)), ()))))
      (none))
     (none))
    (none))
   (none))

/-- pontage/pontageref1.Add -/
noncomputable def pontageref1_Add (x : (⟨[.pl (.sl (.int .i64)), .pl (.sl (.int .i64))], []⟩ : Tm).D) : Option (⟨[.pl (.sl (.int .i64))], []⟩ : Tm).D :=
 let a : List (I .i64) := x.1.1
 let b : List (I .i64) := x.1.2.1
 iter (none) (fun x0 =>
   jn (fun (x1 : (((List (I .i64)) × ((List (I .i64)) × ((I .i64) × ((I .i64) × Unit)))) × ((List (I .i64)) × Unit))) =>
     jn (fun (x2 : (((List (I .i64)) × ((List (I .i64)) × ((I .i64) × ((I .i64) × Unit)))) × ((List (I .i64)) × Unit))) =>
       brn (@I.ltb .i64 x2.1.2.2.2.1 (I.ofNat .i64 (@lenL (I .i64) x2.1.2.1)))
        (brn (@inB .i64 x2.1.2.2.2.1 (@lenL (I .i64) x2.1.2.1))
         (brn (fitsLen (@lenL (I .i64) (@appL (I .i64) x2.2.1 ((@I.and .i64 (@I.add .i64 x2.1.2.2.1 (@rdL (I .i64) (I.of .i64 0) x2.1.2.1 (@I.nat .i64 x2.1.2.2.2.1))) (I.of .i64 65535)) :: []))))
          (.again ((x2.1.1, (x2.1.2.1, ((@I.shr .i64 .u64 (@I.add .i64 x2.1.2.2.1 (@rdL (I .i64) (I.of .i64 0) x2.1.2.1 (@I.nat .i64 x2.1.2.2.2.1))) (I.of .u64 16)), ((@I.add .i64 x2.1.2.2.2.1 (I.of .i64 1)), ())))), ((@appL (I .i64) x2.2.1 ((@I.and .i64 (@I.add .i64 x2.1.2.2.1 (@rdL (I .i64) (I.of .i64 0) x2.1.2.1 (@I.nat .i64 x2.1.2.2.2.1))) (I.of .i64 65535)) :: [])), ())))
          (.done (none)))
         (.done (none)))
        (brn (fitsLen (@lenL (I .i64) (@appL (I .i64) x2.2.1 ((@I.and .i64 x2.1.2.2.1 (I.of .i64 65535)) :: []))))
         (.again ((x2.1.1, (x2.1.2.1, ((@I.shr .i64 .u64 x2.1.2.2.1 (I.of .u64 16)), ((@I.add .i64 x2.1.2.2.2.1 (I.of .i64 1)), ())))), ((@appL (I .i64) x2.2.1 ((@I.and .i64 x2.1.2.2.1 (I.of .i64 65535)) :: [])), ())))
         (.done (none)))) fun j2 =>
     brn (@I.ltb .i64 x1.1.2.2.2.1 (I.ofNat .i64 (@lenL (I .i64) x1.1.1)))
      (brn (@inB .i64 x1.1.2.2.2.1 (@lenL (I .i64) x1.1.1))
       (j2 ((x1.1.1, (x1.1.2.1, ((@I.add .i64 x1.1.2.2.1 (@rdL (I .i64) (I.of .i64 0) x1.1.1 (@I.nat .i64 x1.1.2.2.2.1))), (x1.1.2.2.2.1, ())))), (x1.2.1, ())))
       (.done (none)))
      (j2 ((x1.1.1, (x1.1.2.1, (x1.1.2.2.1, (x1.1.2.2.2.1, ())))), (x1.2.1, ())))) fun j1 =>
   brn (@I.ltb .i64 x0.1.2.2.2.1 (I.ofNat .i64 (@lenL (I .i64) x0.1.1)))
    (j1 ((x0.1.1, (x0.1.2.1, (x0.1.2.2.1, (x0.1.2.2.2.1, ())))), (x0.2.1, ())))
    (brn (@I.ltb .i64 x0.1.2.2.2.1 (I.ofNat .i64 (@lenL (I .i64) x0.1.2.1)))
     (j1 ((x0.1.1, (x0.1.2.1, (x0.1.2.2.1, (x0.1.2.2.2.1, ())))), (x0.2.1, ())))
     (brn (@I.ltb .i64 (I.of .i64 0) x0.1.2.2.1)
      (j1 ((x0.1.1, (x0.1.2.1, (x0.1.2.2.1, (x0.1.2.2.2.1, ())))), (x0.2.1, ())))
      (.done (some ((x0.2.1, ()), ()))))))
 K0 ((a, (b, ((I.of .i64 0), ((I.of .i64 0), ())))), ([], ()))

/-- pontage/pontageref1.FromUint256 -/
noncomputable def pontageref1_FromUint256 (x : (⟨[.pl (.arr 4 (.int .u64))], []⟩ : Tm).D) : Option (⟨[.pl (.sl (.int .i64))], []⟩ : Tm).D :=
 let a : (I .u64) × (I .u64) × (I .u64) × (I .u64) × Unit := x.1.1
 iter (none) (fun x0 =>
   brn (@I.ltb .i64 x0.1.1 (I.of .i64 16))
    (brn (@inB .i64 (@I.quo .i64 x0.1.1 (I.of .i64 4)) 4)
     (brn (@I.nn .u64 (I.conv (k := .i64) .u64 (@I.mul .i64 (I.of .i64 16) (@I.rem .i64 x0.1.1 (I.of .i64 4)))))
      (brn (@inB .i64 x0.1.1 (@lenL (I .i64) x0.2.2.1))
       (.again (((@I.add .i64 x0.1.1 (I.of .i64 1)), ()), (x0.2.1, ((@setL (I .i64) x0.2.2.1 (@I.nat .i64 x0.1.1) (I.conv (k := .u64) .i64 (@I.and .u64 (@I.shr .u64 .u64 (@Arr.sel (I .u64) (I.of .u64 0) 4 x0.2.1 (@I.nat .i64 (@I.quo .i64 x0.1.1 (I.of .i64 4)))) (I.conv (k := .i64) .u64 (@I.mul .i64 (I.of .i64 16) (@I.rem .i64 x0.1.1 (I.of .i64 4))))) (I.of .u64 65535)))), ()))))
       (.done (none)))
      (.done (none)))
     (.done (none)))
    (.done (optF (none) (pontageref1_norm ((x0.2.2.1, ()), ())) fun y1 =>
    some ((y1.1.1, ()), ()))))
 K0 (((I.of .i64 0), ()), (a, ((@repD (I .i64) 16 (I.of .i64 0)), ())))

/-- pontage/pontageref1.FromUint64 -/
noncomputable def pontageref1_FromUint64 (x : (⟨[.pl (.int .u64)], []⟩ : Tm).D) : Option (⟨[.pl (.sl (.int .i64))], []⟩ : Tm).D :=
 let a : I .u64 := x.1.1
 optF (none) (pontageref1_FromUint256 (((a, ((I.of .u64 0), ((I.of .u64 0), ((I.of .u64 0), ())))), ()), ())) fun y0 =>
 some ((y0.1.1, ()), ())

/-- pontage/pontageref1.Fits -/
noncomputable def pontageref1_Fits (x : (⟨[.pl (.sl (.int .i64))], []⟩ : Tm).D) : Option (⟨[.pl .bool], []⟩ : Tm).D :=
 let a : List (I .i64) := x.1.1
 some (((@I.leb .i64 (I.ofNat .i64 (@lenL (I .i64) a)) (I.of .i64 16)), ()), ())

/-- pontage/pontageref1.ToUint256 -/
noncomputable def pontageref1_ToUint256 (x : (⟨[.pl (.sl (.int .i64))], []⟩ : Tm).D) : Option (⟨[.pl (.arr 4 (.int .u64))], []⟩ : Tm).D :=
 let a : List (I .i64) := x.1.1
 iter (none) (fun x0 =>
   jn (fun (x1 : (((List (I .i64)) × ((I .i64) × ((I .i64) × (Bool × Unit)))) × (((I .u64) × ((I .u64) × ((I .u64) × ((I .u64) × Unit)))) × (((I .u64) × ((I .u64) × ((I .u64) × ((I .u64) × Unit)))) × Unit)))) =>
     brn (@inB .i64 (@I.quo .i64 x1.1.2.1 (I.of .i64 4)) 4)
      (brn (@inB .i64 x1.1.2.1 (@lenL (I .i64) x1.1.1))
       (brn (@I.nn .u64 (I.conv (k := .i64) .u64 (@I.mul .i64 (I.of .i64 16) (@I.rem .i64 x1.1.2.1 (I.of .i64 4)))))
        (brn (@inB .i64 (@I.quo .i64 x1.1.2.1 (I.of .i64 4)) 4)
         (.again ((x1.1.1, ((@I.add .i64 x1.1.2.1 (I.of .i64 1)), ())), (x1.2.1, ((@Arr.upd (I .u64) 4 x1.2.2.1 (@I.nat .i64 (@I.quo .i64 x1.1.2.1 (I.of .i64 4))) (@I.add .u64 (@Arr.sel (I .u64) (I.of .u64 0) 4 x1.2.2.1 (@I.nat .i64 (@I.quo .i64 x1.1.2.1 (I.of .i64 4)))) (@I.shl .u64 .u64 (I.conv (k := .i64) .u64 (@rdL (I .i64) (I.of .i64 0) x1.1.1 (@I.nat .i64 x1.1.2.1))) (I.conv (k := .i64) .u64 (@I.mul .i64 (I.of .i64 16) (@I.rem .i64 x1.1.2.1 (I.of .i64 4))))))), ()))))
         (.done (none)))
        (.done (none)))
       (.done (none)))
      (.done (none))) fun j1 =>
   brn (@I.ltb .i64 x0.1.2.1 (I.ofNat .i64 (@lenL (I .i64) x0.1.1)))
    (brn (@I.ltb .i64 x0.1.2.1 (I.of .i64 16))
     (j1 ((x0.1.1, (x0.1.2.1, (x0.1.2.1, ((@I.ltb .i64 x0.1.2.1 (I.of .i64 16)), ())))), (x0.2.1, (x0.2.2.1, ()))))
     (.done (some ((x0.2.2.1, ()), ()))))
    (.done (some ((x0.2.2.1, ()), ()))))
 K0 ((a, ((I.of .i64 0), ())), (((I.of .u64 0), ((I.of .u64 0), ((I.of .u64 0), ((I.of .u64 0), ())))), (((I.of .u64 0), ((I.of .u64 0), ((I.of .u64 0), ((I.of .u64 0), ())))), ())))

/-- pontage/pontageref1.Mul -/
noncomputable def pontageref1_Mul (x : (⟨[.pl (.sl (.int .i64)), .pl (.sl (.int .i64))], []⟩ : Tm).D) : Option (⟨[.pl (.sl (.int .i64))], []⟩ : Tm).D :=
 let a : List (I .i64) := x.1.1
 let b : List (I .i64) := x.1.2.1
 brn (@inB' .i64 (@I.add .i64 (I.ofNat .i64 (@lenL (I .i64) a)) (I.ofNat .i64 (@lenL (I .i64) b))) (@I.nat .i64 (@I.add .i64 (I.ofNat .i64 (@lenL (I .i64) a)) (I.ofNat .i64 (@lenL (I .i64) b)))))
  (brn (@inB' .i64 (@I.add .i64 (I.ofNat .i64 (@lenL (I .i64) a)) (I.ofNat .i64 (@lenL (I .i64) b))) 1073741824)
   (iter (none) (fun x0 =>
     brn (@I.ltb .i64 x0.1.2.2.1 (I.ofNat .i64 (@lenL (I .i64) x0.1.1)))
      (iter (.done (none)) (fun x1 =>
        brn (@I.ltb .i64 x1.1.2.2.2.2.1 (I.ofNat .i64 (@lenL (I .i64) x1.1.2.1)))
         (brn (@inB .i64 (@I.add .i64 x1.1.2.2.1 x1.1.2.2.2.2.1) (@lenL (I .i64) x1.2.1))
          (brn (@inB .i64 x1.1.2.2.1 (@lenL (I .i64) x1.1.1))
           (brn (@inB .i64 x1.1.2.2.2.2.1 (@lenL (I .i64) x1.1.2.1))
            (brn (@inB .i64 (@I.add .i64 x1.1.2.2.1 x1.1.2.2.2.2.1) (@lenL (I .i64) x1.2.1))
             (.again ((x1.1.1, (x1.1.2.1, (x1.1.2.2.1, ((@I.shr .i64 .u64 (@I.add .i64 (@I.add .i64 x1.1.2.2.2.1 (@rdL (I .i64) (I.of .i64 0) x1.2.1 (@I.nat .i64 (@I.add .i64 x1.1.2.2.1 x1.1.2.2.2.2.1)))) (@I.mul .i64 (@rdL (I .i64) (I.of .i64 0) x1.1.1 (@I.nat .i64 x1.1.2.2.1)) (@rdL (I .i64) (I.of .i64 0) x1.1.2.1 (@I.nat .i64 x1.1.2.2.2.2.1)))) (I.of .u64 16)), ((@I.add .i64 x1.1.2.2.2.2.1 (I.of .i64 1)), ()))))), ((@setL (I .i64) x1.2.1 (@I.nat .i64 (@I.add .i64 x1.1.2.2.1 x1.1.2.2.2.2.1)) (@I.and .i64 (@I.add .i64 (@I.add .i64 x1.1.2.2.2.1 (@rdL (I .i64) (I.of .i64 0) x1.2.1 (@I.nat .i64 (@I.add .i64 x1.1.2.2.1 x1.1.2.2.2.2.1)))) (@I.mul .i64 (@rdL (I .i64) (I.of .i64 0) x1.1.1 (@I.nat .i64 x1.1.2.2.1)) (@rdL (I .i64) (I.of .i64 0) x1.1.2.1 (@I.nat .i64 x1.1.2.2.2.2.1)))) (I.of .i64 65535))), ())))
             (.done (.done (none))))
            (.done (.done (none))))
           (.done (.done (none))))
          (.done (.done (none))))
         (.done (brn (@inB .i64 (@I.add .i64 x1.1.2.2.1 (I.ofNat .i64 (@lenL (I .i64) x1.1.2.1))) (@lenL (I .i64) x1.2.1))
          (.again ((x1.1.1, (x1.1.2.1, ((@I.add .i64 x1.1.2.2.1 (I.of .i64 1)), ()))), ((@setL (I .i64) x1.2.1 (@I.nat .i64 (@I.add .i64 x1.1.2.2.1 (I.ofNat .i64 (@lenL (I .i64) x1.1.2.1)))) x1.1.2.2.2.1), ())))
          (.done (none)))))
      K0 ((x0.1.1, (x0.1.2.1, (x0.1.2.2.1, ((I.of .i64 0), ((I.of .i64 0), ()))))), (x0.2.1, ())))
      (.done (optF (none) (pontageref1_norm ((x0.2.1, ()), ())) fun y1 =>
      some ((y1.1.1, ()), ()))))
   K0 ((a, (b, ((I.of .i64 0), ()))), ((@repD (I .i64) (@I.nat .i64 (@I.add .i64 (I.ofNat .i64 (@lenL (I .i64) a)) (I.ofNat .i64 (@lenL (I .i64) b)))) (I.of .i64 0)), ())))
   (none))
  (none)

/-- pontage/pontageref1.Checked -/
noncomputable def pontageref1_Checked (x : (⟨[.pl (.sl (.int .i64))], []⟩ : Tm).D) : Option (⟨[.pl (.arr 4 (.int .u64)), .pl (.int .i64)], []⟩ : Tm).D :=
 let a : List (I .i64) := x.1.1
 optF (none) (pontageref1_Fits ((a, ()), ())) fun y0 =>
 brn (bnot y0.1.1)
  (some ((((I.of .u64 0), ((I.of .u64 0), ((I.of .u64 0), ((I.of .u64 0), ())))), ((I.of .i64 4), ())), ()))
  (optF (none) (pontageref1_ToUint256 ((a, ()), ())) fun y1 =>
  some ((y1.1.1, ((I.of .i64 0), ())), ()))

/-- pontage/pontageref1.IsZero -/
noncomputable def pontageref1_IsZero (x : (⟨[.pl (.arr 4 (.int .u64))], []⟩ : Tm).D) : Option (⟨[.pl .bool], []⟩ : Tm).D :=
 let a : (I .u64) × (I .u64) × (I .u64) × (I .u64) × Unit := x.1.1
 some (((Ty.eqb (.arr 4 (.int .u64)) a ((I.of .u64 0), ((I.of .u64 0), ((I.of .u64 0), ((I.of .u64 0), ()))))), ()), ())

end Sym

/- The given functions as plain functions, as the printer told them. -/
namespace Sym
open Go

/-- pontage/muldiv.shiftLeft -/
noncomputable def muldiv_shiftLeft (x : (⟨[.pl (.arr 4 (.int .u64)), .pl (.int .u64)], []⟩ : Tm).D) : Option (⟨[.pl (.arr 4 (.int .u64)), .pl (.int .u64)], []⟩ : Tm).D :=
 let a : (I .u64) × (I .u64) × (I .u64) × (I .u64) × Unit := x.1.1
 let b : I .u64 := x.1.2.1
 iter (none) (fun x0 =>
   brn (@I.ltb .i64 (I.of .i64 0) x0.1.2.2.1)
    (brn (@inB .i64 x0.1.2.2.1 4)
     (brn (@inB .i64 (@I.sub .i64 x0.1.2.2.1 (I.of .i64 1)) 4)
      (brn (@inB .i64 x0.1.2.2.1 4)
       (.again ((x0.1.1, (x0.1.2.1, ((@I.sub .i64 x0.1.2.2.1 (I.of .i64 1)), ()))), ((@Arr.upd (I .u64) 4 x0.2.1 (@I.nat .i64 x0.1.2.2.1) (@I.or .u64 (@I.shl .u64 .u64 (@Arr.sel (I .u64) (I.of .u64 0) 4 x0.2.1 (@I.nat .i64 x0.1.2.2.1)) (I.of .u64 1)) (@I.shr .u64 .u64 (@Arr.sel (I .u64) (I.of .u64 0) 4 x0.2.1 (@I.nat .i64 (@I.sub .i64 x0.1.2.2.1 (I.of .i64 1)))) (I.of .u64 63)))), (x0.2.2.1, ()))))
       (.done (none)))
      (.done (none)))
     (.done (none)))
    (.done (some ((((@I.or .u64 (@I.shl .u64 .u64 x0.2.1.1 (I.of .u64 1)) x0.1.1), (x0.2.1.2.1, (x0.2.1.2.2.1, (x0.2.1.2.2.2.1, ())))), (x0.1.2.1, ())), ()))))
 K0 ((b, ((@I.shr .u64 .u64 a.2.2.2.1 (I.of .u64 63)), ((I.of .i64 3), ()))), (a, (((I.of .u64 0), ((I.of .u64 0), ((I.of .u64 0), ((I.of .u64 0), ())))), ())))

/-- pontage/muldiv.subWrap -/
noncomputable def muldiv_subWrap (x : (⟨[.pl (.arr 4 (.int .u64)), .pl (.arr 4 (.int .u64))], []⟩ : Tm).D) : Option (⟨[.pl (.arr 4 (.int .u64))], []⟩ : Tm).D :=
 let a : (I .u64) × (I .u64) × (I .u64) × (I .u64) × Unit := x.1.1
 let b : (I .u64) × (I .u64) × (I .u64) × (I .u64) × Unit := x.1.2.1
 iter (none) (fun x0 =>
   brn (@I.ltb .i64 x0.1.2.1 (I.of .i64 4))
    (brn (@inB .i64 x0.1.2.1 4)
     (brn (@inB .i64 x0.1.2.1 4)
      (optF (.done (none)) (sub64F (((@Arr.sel (I .u64) (I.of .u64 0) 4 x0.2.1 (@I.nat .i64 x0.1.2.1)), ((@Arr.sel (I .u64) (I.of .u64 0) 4 x0.2.2.1 (@I.nat .i64 x0.1.2.1)), (x0.1.1, ()))), ())) fun y1 =>
      brn (@inB .i64 x0.1.2.1 4)
       (.again ((y1.1.2.1, ((@I.add .i64 x0.1.2.1 (I.of .i64 1)), ())), ((@Arr.upd (I .u64) 4 x0.2.1 (@I.nat .i64 x0.1.2.1) y1.1.1), (x0.2.2.1, (x0.2.2.2.1, ())))))
       (.done (none)))
      (.done (none)))
     (.done (none)))
    (.done (some ((x0.2.1, ()), ()))))
 K0 (((I.of .u64 0), ((I.of .i64 0), ())), (a, (b, (((I.of .u64 0), ((I.of .u64 0), ((I.of .u64 0), ((I.of .u64 0), ())))), ()))))

/-- pontage/muldiv.Div512 -/
noncomputable def muldiv_Div512 (x : (⟨[.pl (.arr 4 (.int .u64)), .pl (.arr 4 (.int .u64)), .pl (.arr 4 (.int .u64))], []⟩ : Tm).D) : Option (⟨[.pl (.arr 4 (.int .u64)), .pl (.arr 4 (.int .u64)), .pl (.int .i64)], []⟩ : Tm).D :=
 let a : (I .u64) × (I .u64) × (I .u64) × (I .u64) × Unit := x.1.1
 let b : (I .u64) × (I .u64) × (I .u64) × (I .u64) × Unit := x.1.2.1
 let c : (I .u64) × (I .u64) × (I .u64) × (I .u64) × Unit := x.1.2.2.1
 brn (Ty.eqb (.arr 4 (.int .u64)) c ((I.of .u64 0), ((I.of .u64 0), ((I.of .u64 0), ((I.of .u64 0), ())))))
  (some ((((I.of .u64 0), ((I.of .u64 0), ((I.of .u64 0), ((I.of .u64 0), ())))), (((I.of .u64 0), ((I.of .u64 0), ((I.of .u64 0), ((I.of .u64 0), ())))), ((I.of .i64 5), ()))), ()))
  (optF (none) (uint256_Cmp ((b, (c, ())), ())) fun y0 =>
  brn (@I.leb .i64 (I.of .i64 0) y0.1.1)
   (some ((((I.of .u64 0), ((I.of .u64 0), ((I.of .u64 0), ((I.of .u64 0), ())))), (((I.of .u64 0), ((I.of .u64 0), ((I.of .u64 0), ((I.of .u64 0), ())))), ((I.of .i64 4), ()))), ()))
   (iter (none) (fun x1 =>
     brn (@I.leb .i64 (I.of .i64 0) x1.1.1)
      (brn (@inB .i64 (@I.quo .i64 x1.1.1 (I.of .i64 64)) 4)
       (brn (@I.nn .i64 (@I.rem .i64 x1.1.1 (I.of .i64 64)))
        (optF (.done (none)) (muldiv_shiftLeft ((x1.2.2.2.2.1, ((@I.and .u64 (@I.shr .u64 .i64 (@Arr.sel (I .u64) (I.of .u64 0) 4 x1.2.1 (@I.nat .i64 (@I.quo .i64 x1.1.1 (I.of .i64 64)))) (@I.rem .i64 x1.1.1 (I.of .i64 64))) (I.of .u64 1)), ())), ())) fun y2 =>
        brn (@I.eqb .u64 y2.1.2.1 (I.of .u64 1))
         (optF (.done (none)) (muldiv_subWrap ((y2.1.1, (x1.2.2.1, ())), ())) fun y3 =>
         brn (@inB .i64 (@I.quo .i64 x1.1.1 (I.of .i64 64)) 4)
          (brn (@I.nn .i64 (@I.rem .i64 x1.1.1 (I.of .i64 64)))
           (brn (@inB .i64 (@I.quo .i64 x1.1.1 (I.of .i64 64)) 4)
            (.again (((@I.sub .i64 x1.1.1 (I.of .i64 1)), ()), (x1.2.1, (x1.2.2.1, ((@Arr.upd (I .u64) 4 x1.2.2.2.1 (@I.nat .i64 (@I.quo .i64 x1.1.1 (I.of .i64 64))) (@I.or .u64 (@Arr.sel (I .u64) (I.of .u64 0) 4 x1.2.2.2.1 (@I.nat .i64 (@I.quo .i64 x1.1.1 (I.of .i64 64)))) (@I.shl .u64 .i64 (I.of .u64 1) (@I.rem .i64 x1.1.1 (I.of .i64 64))))), (y3.1.1, ()))))))
            (.done (none)))
           (.done (none)))
          (.done (none)))
         (optF (.done (none)) (uint256_Cmp ((y2.1.1, (x1.2.2.1, ())), ())) fun y3 =>
         brn (@I.leb .i64 (I.of .i64 0) y3.1.1)
          (optF (.done (none)) (muldiv_subWrap ((y2.1.1, (x1.2.2.1, ())), ())) fun y4 =>
          brn (@inB .i64 (@I.quo .i64 x1.1.1 (I.of .i64 64)) 4)
           (brn (@I.nn .i64 (@I.rem .i64 x1.1.1 (I.of .i64 64)))
            (brn (@inB .i64 (@I.quo .i64 x1.1.1 (I.of .i64 64)) 4)
             (.again (((@I.sub .i64 x1.1.1 (I.of .i64 1)), ()), (x1.2.1, (x1.2.2.1, ((@Arr.upd (I .u64) 4 x1.2.2.2.1 (@I.nat .i64 (@I.quo .i64 x1.1.1 (I.of .i64 64))) (@I.or .u64 (@Arr.sel (I .u64) (I.of .u64 0) 4 x1.2.2.2.1 (@I.nat .i64 (@I.quo .i64 x1.1.1 (I.of .i64 64)))) (@I.shl .u64 .i64 (I.of .u64 1) (@I.rem .i64 x1.1.1 (I.of .i64 64))))), (y4.1.1, ()))))))
             (.done (none)))
            (.done (none)))
           (.done (none)))
          (.again (((@I.sub .i64 x1.1.1 (I.of .i64 1)), ()), (x1.2.1, (x1.2.2.1, (x1.2.2.2.1, (y2.1.1, ()))))))))
        (.done (none)))
       (.done (none)))
      (.done (some ((x1.2.2.2.1, (x1.2.2.2.2.1, ((I.of .i64 0), ()))), ()))))
   K0 (((I.of .i64 255), ()), (a, (c, (((I.of .u64 0), ((I.of .u64 0), ((I.of .u64 0), ((I.of .u64 0), ())))), (b, ())))))))

/-- pontage/muldiv.DivMod -/
noncomputable def muldiv_DivMod (x : (⟨[.pl (.arr 4 (.int .u64)), .pl (.arr 4 (.int .u64))], []⟩ : Tm).D) : Option (⟨[.pl (.arr 4 (.int .u64)), .pl (.arr 4 (.int .u64)), .pl (.int .i64)], []⟩ : Tm).D :=
 let a : (I .u64) × (I .u64) × (I .u64) × (I .u64) × Unit := x.1.1
 let b : (I .u64) × (I .u64) × (I .u64) × (I .u64) × Unit := x.1.2.1
 optF (none) (muldiv_Div512 ((a, (((I.of .u64 0), ((I.of .u64 0), ((I.of .u64 0), ((I.of .u64 0), ())))), (b, ()))), ())) fun y0 =>
 some ((y0.1.1, (y0.1.2.1, (y0.1.2.2.1, ()))), ())

/-- math/bits.Mul64 -/
noncomputable def math_bits_Mul64 (x : (⟨[.pl (.int .u64), .pl (.int .u64)], []⟩ : Tm).D) : Option (⟨[.pl (.int .u64), .pl (.int .u64)], []⟩ : Tm).D :=
 let a : I .u64 := x.1.1
 let b : I .u64 := x.1.2.1
 some (((@I.add .u64 (@I.add .u64 (@I.mul .u64 (@I.shr .u64 .u64 a (I.of .u64 32)) (@I.shr .u64 .u64 b (I.of .u64 32))) (@I.shr .u64 .u64 (@I.add .u64 (@I.mul .u64 (@I.shr .u64 .u64 a (I.of .u64 32)) (@I.and .u64 b (I.of .u64 4294967295))) (@I.shr .u64 .u64 (@I.mul .u64 (@I.and .u64 a (I.of .u64 4294967295)) (@I.and .u64 b (I.of .u64 4294967295))) (I.of .u64 32))) (I.of .u64 32))) (@I.shr .u64 .u64 (@I.add .u64 (@I.and .u64 (@I.add .u64 (@I.mul .u64 (@I.shr .u64 .u64 a (I.of .u64 32)) (@I.and .u64 b (I.of .u64 4294967295))) (@I.shr .u64 .u64 (@I.mul .u64 (@I.and .u64 a (I.of .u64 4294967295)) (@I.and .u64 b (I.of .u64 4294967295))) (I.of .u64 32))) (I.of .u64 4294967295)) (@I.mul .u64 (@I.and .u64 a (I.of .u64 4294967295)) (@I.shr .u64 .u64 b (I.of .u64 32)))) (I.of .u64 32))), ((@I.mul .u64 a b), ())), ())

/-- pontage/uint256.Mul -/
noncomputable def uint256_Mul (x : (⟨[.pl (.arr 4 (.int .u64)), .pl (.arr 4 (.int .u64))], []⟩ : Tm).D) : Option (⟨[.pl (.arr 4 (.int .u64)), .pl (.int .i64)], []⟩ : Tm).D :=
 let a : (I .u64) × (I .u64) × (I .u64) × (I .u64) × Unit := x.1.1
 let b : (I .u64) × (I .u64) × (I .u64) × (I .u64) × Unit := x.1.2.1
 iter (none) (fun x0 =>
   brn (@I.ltb .i64 x0.1.1 (I.of .i64 4))
    (iter (.done (none)) (fun x1 =>
      brn (@I.ltb .i64 x1.1.2.2.2.1 (I.of .i64 4))
       (brn (@inB .i64 x1.1.1 4)
        (brn (@inB .i64 x1.1.2.2.2.1 4)
         (optF (.done (.done (none))) (math_bits_Mul64 (((@Arr.sel (I .u64) (I.of .u64 0) 4 x1.2.1 (@I.nat .i64 x1.1.1)), ((@Arr.sel (I .u64) (I.of .u64 0) 4 x1.2.2.1 (@I.nat .i64 x1.1.2.2.2.1)), ())), ())) fun y2 =>
         brn (@I.ltb .i64 (I.of .i64 3) (@I.add .i64 x1.1.1 x1.1.2.2.2.1))
          (brn (@I.neb .u64 (@I.or .u64 y2.1.1 y2.1.2.1) (I.of .u64 0))
           (.done (.done (some ((((I.of .u64 0), ((I.of .u64 0), ((I.of .u64 0), ((I.of .u64 0), ())))), ((I.of .i64 4), ())), ()))))
           (.again ((x1.1.1, (x1.1.2.1, (x1.1.2.2.1, ((@I.add .i64 x1.1.2.2.2.1 (I.of .i64 1)), ())))), (x1.2.1, (x1.2.2.1, (x1.2.2.2.1, (x1.2.2.2.2.1, ())))))))
          (optF (.done (.done (none))) (add64F ((y2.1.2.1, (x1.1.2.1, ((I.of .u64 0), ()))), ())) fun y3 =>
          brn (@inB .i64 (@I.add .i64 x1.1.1 x1.1.2.2.2.1) 4)
           (optF (.done (.done (none))) (add64F (((@Arr.sel (I .u64) (I.of .u64 0) 4 x1.2.2.2.2.1 (@I.nat .i64 (@I.add .i64 x1.1.1 x1.1.2.2.2.1))), (y3.1.1, ((I.of .u64 0), ()))), ())) fun y4 =>
           brn (@inB .i64 (@I.add .i64 x1.1.1 x1.1.2.2.2.1) 4)
            (.again ((x1.1.1, ((@I.add .u64 (@I.add .u64 y2.1.1 y3.1.2.1) y4.1.2.1), (x1.1.2.2.1, ((@I.add .i64 x1.1.2.2.2.1 (I.of .i64 1)), ())))), (x1.2.1, (x1.2.2.1, (x1.2.2.2.1, ((@Arr.upd (I .u64) 4 x1.2.2.2.2.1 (@I.nat .i64 (@I.add .i64 x1.1.1 x1.1.2.2.2.1)) y4.1.1), ()))))))
            (.done (.done (none))))
           (.done (.done (none)))))
         (.done (.done (none))))
        (.done (.done (none))))
       (.done (brn (@I.neb .u64 x1.1.2.1 (I.of .u64 0))
        (.done (some ((((I.of .u64 0), ((I.of .u64 0), ((I.of .u64 0), ((I.of .u64 0), ())))), ((I.of .i64 4), ())), ())))
        (.again (((@I.add .i64 x1.1.2.2.1 (I.of .i64 1)), ()), (x1.2.1, (x1.2.2.1, (x1.2.2.2.1, (x1.2.2.2.2.1, ())))))))))
    K0 ((x0.1.1, ((I.of .u64 0), (x0.1.1, ((I.of .i64 0), ())))), (x0.2.1, (x0.2.2.1, (x0.2.2.2.1, (x0.2.2.2.2.1, ()))))))
    (.done (some ((x0.2.2.2.2.1, ((I.of .i64 0), ())), ()))))
 K0 (((I.of .i64 0), ()), (a, (b, (((I.of .u64 0), ((I.of .u64 0), ((I.of .u64 0), ((I.of .u64 0), ())))), (((I.of .u64 0), ((I.of .u64 0), ((I.of .u64 0), ((I.of .u64 0), ())))), ())))))

/-- pontage/uint256.FromUint64 -/
noncomputable def uint256_FromUint64 (x : (⟨[.pl (.int .u64)], []⟩ : Tm).D) : Option (⟨[.pl (.arr 4 (.int .u64))], []⟩ : Tm).D :=
 let a : I .u64 := x.1.1
 some (((a, ((I.of .u64 0), ((I.of .u64 0), ((I.of .u64 0), ())))), ()), ())

/-- pontage/uint256.SaturatingSub -/
noncomputable def uint256_SaturatingSub (x : (⟨[.pl (.arr 4 (.int .u64)), .pl (.arr 4 (.int .u64))], []⟩ : Tm).D) : Option (⟨[.pl (.arr 4 (.int .u64))], []⟩ : Tm).D :=
 let a : (I .u64) × (I .u64) × (I .u64) × (I .u64) × Unit := x.1.1
 let b : (I .u64) × (I .u64) × (I .u64) × (I .u64) × Unit := x.1.2.1
 optF (none) (uint256_Sub ((a, (b, ())), ())) fun y0 =>
 some ((y0.1.1, ()), ())

end Sym

/- The given functions as plain functions, as the printer told them. -/
namespace Sym
open Go

/-- pontage/int256.New -/
noncomputable def int256_New (x : (⟨[.pl .bool, .pl (.arr 4 (.int .u64))], []⟩ : Tm).D) : Option (⟨[.pl (.cons .bool (.cons (.arr 4 (.int .u64)) .nil))], []⟩ : Tm).D :=
 let a : Bool := x.1.1
 let b : (I .u64) × (I .u64) × (I .u64) × (I .u64) × Unit := x.1.2.1
 brn a
  (some ((((bnot (Ty.eqb (.arr 4 (.int .u64)) b ((I.of .u64 0), ((I.of .u64 0), ((I.of .u64 0), ((I.of .u64 0), ())))))), (b, ())), ()), ()))
  (some (((false, (b, ())), ()), ()))

/-- pontage/int256.Valid -/
noncomputable def int256_Valid (x : (⟨[.pl (.cons .bool (.cons (.arr 4 (.int .u64)) .nil))], []⟩ : Tm).D) : Option (⟨[.pl .bool], []⟩ : Tm).D :=
 let a : (Bool) × ((I .u64) × (I .u64) × (I .u64) × (I .u64) × Unit) × Unit := x.1.1
 brn (bnot a.1)
  (some ((true, ()), ()))
  (some (((bnot (Ty.eqb (.arr 4 (.int .u64)) a.2.1 ((I.of .u64 0), ((I.of .u64 0), ((I.of .u64 0), ((I.of .u64 0), ())))))), ()), ()))

/-- pontage/int256.DivFloor -/
noncomputable def int256_DivFloor (x : (⟨[.pl (.cons .bool (.cons (.arr 4 (.int .u64)) .nil)), .pl (.arr 4 (.int .u64))], []⟩ : Tm).D) : Option (⟨[.pl (.cons .bool (.cons (.arr 4 (.int .u64)) .nil)), .pl (.int .i64)], []⟩ : Tm).D :=
 let a : (Bool) × ((I .u64) × (I .u64) × (I .u64) × (I .u64) × Unit) × Unit := x.1.1
 let b : (I .u64) × (I .u64) × (I .u64) × (I .u64) × Unit := x.1.2.1
 optF (none) (int256_Valid ((a, ()), ())) fun y0 =>
 brn (bnot y0.1.1)
  (some (((false, (((I.of .u64 0), ((I.of .u64 0), ((I.of .u64 0), ((I.of .u64 0), ())))), ())), ((I.of .i64 2), ())), ()))
  (optF (none) (muldiv_DivMod ((a.2.1, (b, ())), ())) fun y1 =>
  brn (@I.neb .i64 y1.1.2.2.1 (I.of .i64 0))
   (some (((false, (((I.of .u64 0), ((I.of .u64 0), ((I.of .u64 0), ((I.of .u64 0), ())))), ())), (y1.1.2.2.1, ())), ()))
   (jn (fun (x2 : ((Bool × Unit) × ((Bool × (((I .u64) × ((I .u64) × ((I .u64) × ((I .u64) × Unit)))) × Unit)) × ((Bool × (((I .u64) × ((I .u64) × ((I .u64) × ((I .u64) × Unit)))) × Unit)) × (((I .u64) × ((I .u64) × ((I .u64) × ((I .u64) × Unit)))) × Unit))))) =>
     brn x2.1.1
      (optF (none) (uint256_FromUint64 (((I.of .u64 1), ()), ())) fun y3 =>
      optF (none) (uint256_Add ((x2.2.2.2.1, (y3.1.1, ())), ())) fun y4 =>
      optF (none) (int256_New ((x2.2.1.1, (y4.1.1, ())), ())) fun y5 =>
      some ((y5.1.1, ((I.of .i64 0), ())), ()))
      (optF (none) (int256_New ((x2.2.1.1, (x2.2.2.2.1, ())), ())) fun y3 =>
      some ((y3.1.1, ((I.of .i64 0), ())), ()))) fun j2 =>
   brn a.1
    (j2 (((bnot (Ty.eqb (.arr 4 (.int .u64)) y1.1.2.1 ((I.of .u64 0), ((I.of .u64 0), ((I.of .u64 0), ((I.of .u64 0), ())))))), ()), (a, ((false, (((I.of .u64 0), ((I.of .u64 0), ((I.of .u64 0), ((I.of .u64 0), ())))), ())), (y1.1.1, ())))))
    (j2 ((false, ()), (a, ((false, (((I.of .u64 0), ((I.of .u64 0), ((I.of .u64 0), ((I.of .u64 0), ())))), ())), (y1.1.1, ())))))))

/-- pontage/pontageref3.Valid -/
noncomputable def pontageref3_Valid (x : (⟨[.pl (.cons .bool (.cons (.arr 4 (.int .u64)) .nil))], []⟩ : Tm).D) : Option (⟨[.pl .bool], []⟩ : Tm).D :=
 let a : (Bool) × ((I .u64) × (I .u64) × (I .u64) × (I .u64) × Unit) × Unit := x.1.1
 brn a.1
  (optF (none) (pontageref1_IsZero ((a.2.1, ()), ())) fun y0 =>
  some (((bnot y0.1.1), ()), ()))
  (some ((true, ()), ()))

/-- pontage/pontageref3.Checked -/
noncomputable def pontageref3_Checked (x : (⟨[.pl (.cons .bool (.cons (.sl (.int .i64)) .nil))], []⟩ : Tm).D) : Option (⟨[.pl (.cons .bool (.cons (.arr 4 (.int .u64)) .nil)), .pl (.int .i64)], []⟩ : Tm).D :=
 let a : (Bool) × (List (I .i64)) × Unit := x.1.1
 optF (none) (pontageref1_Checked ((a.2.1, ()), ())) fun y0 =>
 brn (@I.neb .i64 y0.1.2.1 (I.of .i64 0))
  (some (((false, (((I.of .u64 0), ((I.of .u64 0), ((I.of .u64 0), ((I.of .u64 0), ())))), ())), (y0.1.2.1, ())), ()))
  (some (((a.1, (y0.1.1, ())), ((I.of .i64 0), ())), ()))

/-- pontage/pontageref3.sign -/
noncomputable def pontageref3_sign (x : (⟨[.pl .bool, .pl (.sl (.int .i64))], []⟩ : Tm).D) : Option (⟨[.pl (.cons .bool (.cons (.sl (.int .i64)) .nil))], []⟩ : Tm).D :=
 let a : Bool := x.1.1
 let b : List (I .i64) := x.1.2.1
 brn a
  (some ((((@I.ltb .i64 (I.of .i64 0) (I.ofNat .i64 (@lenL (I .i64) b))), (b, ())), ()), ()))
  (some (((false, (b, ())), ()), ()))

/-- pontage/pontageref3.DivFloor -/
noncomputable def pontageref3_DivFloor (x : (⟨[.pl (.cons .bool (.cons (.sl (.int .i64)) .nil)), .pl (.sl (.int .i64))], []⟩ : Tm).D) : Option (⟨[.pl (.cons .bool (.cons (.sl (.int .i64)) .nil))], []⟩ : Tm).D :=
 let a : (Bool) × (List (I .i64)) × Unit := x.1.1
 let b : List (I .i64) := x.1.2.1
 optF (none) (pontageref1_Div ((a.2.1, (b, ())), ())) fun y0 =>
 jn (fun (x1 : (((List (I .i64)) × (Bool × Unit)) × ((Bool × ((List (I .i64)) × Unit)) × ((Bool × ((List (I .i64)) × Unit)) × Unit)))) =>
   brn x1.1.2.1
    (optF (none) (pontageref1_FromUint64 (((I.of .u64 1), ()), ())) fun y2 =>
    optF (none) (pontageref1_Add ((x1.1.1, (y2.1.1, ())), ())) fun y3 =>
    optF (none) (pontageref3_sign ((x1.2.1.1, (y3.1.1, ())), ())) fun y4 =>
    some ((y4.1.1, ()), ()))
    (optF (none) (pontageref3_sign ((x1.2.1.1, (x1.1.1, ())), ())) fun y2 =>
    some ((y2.1.1, ()), ()))) fun j1 =>
 brn a.1
  (j1 ((y0.1.1, ((@I.ltb .i64 (I.of .i64 0) (I.ofNat .i64 (@lenL (I .i64) y0.1.2.1))), ())), (a, ((false, ([], ())), ()))))
  (j1 ((y0.1.1, (false, ())), (a, ((false, ([], ())), ()))))

/-- pontage/pontageref3.FromInt256 -/
noncomputable def pontageref3_FromInt256 (x : (⟨[.pl (.cons .bool (.cons (.arr 4 (.int .u64)) .nil))], []⟩ : Tm).D) : Option (⟨[.pl (.cons .bool (.cons (.sl (.int .i64)) .nil))], []⟩ : Tm).D :=
 let a : (Bool) × ((I .u64) × (I .u64) × (I .u64) × (I .u64) × Unit) × Unit := x.1.1
 optF (none) (pontageref1_FromUint256 ((a.2.1, ()), ())) fun y0 =>
 optF (none) (pontageref3_sign ((a.1, (y0.1.1, ())), ())) fun y1 =>
 some ((y1.1.1, ()), ())

/-- pontage/pontageref3.DivFloor256 -/
noncomputable def pontageref3_DivFloor256 (x : (⟨[.pl (.cons .bool (.cons (.arr 4 (.int .u64)) .nil)), .pl (.arr 4 (.int .u64))], []⟩ : Tm).D) : Option (⟨[.pl (.cons .bool (.cons (.arr 4 (.int .u64)) .nil)), .pl (.int .i64)], []⟩ : Tm).D :=
 let a : (Bool) × ((I .u64) × (I .u64) × (I .u64) × (I .u64) × Unit) × Unit := x.1.1
 let b : (I .u64) × (I .u64) × (I .u64) × (I .u64) × Unit := x.1.2.1
 optF (none) (pontageref3_Valid ((a, ()), ())) fun y0 =>
 brn (bnot y0.1.1)
  (some (((false, (((I.of .u64 0), ((I.of .u64 0), ((I.of .u64 0), ((I.of .u64 0), ())))), ())), ((I.of .i64 2), ())), ()))
  (optF (none) (pontageref1_IsZero ((b, ()), ())) fun y1 =>
  brn y1.1.1
   (some (((false, (((I.of .u64 0), ((I.of .u64 0), ((I.of .u64 0), ((I.of .u64 0), ())))), ())), ((I.of .i64 5), ())), ()))
   (optF (none) (pontageref3_FromInt256 ((a, ()), ())) fun y2 =>
   optF (none) (pontageref1_FromUint256 ((b, ()), ())) fun y3 =>
   optF (none) (pontageref3_DivFloor ((y2.1.1, (y3.1.1, ())), ())) fun y4 =>
   optF (none) (pontageref3_Checked ((y4.1.1, ()), ())) fun y5 =>
   some ((y5.1.1, (y5.1.2.1, ())), ())))

/-- pontage/int256.AddClamped -/
noncomputable def int256_AddClamped (x : (⟨[.pl (.arr 4 (.int .u64)), .pl (.cons .bool (.cons (.arr 4 (.int .u64)) .nil))], []⟩ : Tm).D) : Option (⟨[.pl (.arr 4 (.int .u64)), .pl (.int .i64)], []⟩ : Tm).D :=
 let a : (I .u64) × (I .u64) × (I .u64) × (I .u64) × Unit := x.1.1
 let b : (Bool) × ((I .u64) × (I .u64) × (I .u64) × (I .u64) × Unit) × Unit := x.1.2.1
 optF (none) (int256_Valid ((b, ()), ())) fun y0 =>
 brn (bnot y0.1.1)
  (some ((((I.of .u64 0), ((I.of .u64 0), ((I.of .u64 0), ((I.of .u64 0), ())))), ((I.of .i64 2), ())), ()))
  (brn b.1
   (optF (none) (uint256_SaturatingSub ((a, (b.2.1, ())), ())) fun y1 =>
   some ((y1.1.1, ((I.of .i64 0), ())), ()))
   (optF (none) (uint256_Add ((a, (b.2.1, ())), ())) fun y1 =>
   some ((y1.1.1, (y1.1.2.1, ())), ())))

/-- pontage/int256.FromInt64 -/
noncomputable def int256_FromInt64 (x : (⟨[.pl (.int .i64)], []⟩ : Tm).D) : Option (⟨[.pl (.cons .bool (.cons (.arr 4 (.int .u64)) .nil))], []⟩ : Tm).D :=
 let a : I .i64 := x.1.1
 brn (@I.ltb .i64 a (I.of .i64 0))
  (optF (none) (uint256_FromUint64 (((@I.add .u64 (I.conv (k := .i64) .u64 (@I.neg .i64 (@I.add .i64 a (I.of .i64 1)))) (I.of .u64 1)), ()), ())) fun y0 =>
  some (((true, (y0.1.1, ())), ()), ()))
  (optF (none) (uint256_FromUint64 (((I.conv (k := .i64) .u64 a), ()), ())) fun y0 =>
  some (((false, (y0.1.1, ())), ()), ()))

/-- pontage/pontagelaw3.awake -/
noncomputable def pontagelaw3_awake (x : (⟨[], []⟩ : Tm).D) : Option (⟨[.pl .bool], []⟩ : Tm).D :=
 optF (none) (int256_FromInt64 (((I.of .i64 (-7)), ()), ())) fun y0 =>
 optF (none) (int256_DivFloor ((y0.1.1, (((I.of .u64 2), ((I.of .u64 0), ((I.of .u64 0), ((I.of .u64 0), ())))), ())), ())) fun y1 =>
 optF (none) (int256_FromInt64 (((I.of .i64 (-5)), ()), ())) fun y2 =>
 optF (none) (int256_AddClamped ((((I.of .u64 3), ((I.of .u64 0), ((I.of .u64 0), ((I.of .u64 0), ())))), (y2.1.1, ())), ())) fun y3 =>
 optF (none) (int256_FromInt64 (((I.of .i64 (-4)), ()), ())) fun y4 =>
 brn (Ty.eqb (.cons .bool (.cons (.arr 4 (.int .u64)) .nil)) y1.1.1 y4.1.1)
  (brn (@I.eqb .i64 y1.1.2.1 (I.of .i64 0))
   (brn (Ty.eqb (.arr 4 (.int .u64)) y3.1.1 ((I.of .u64 0), ((I.of .u64 0), ((I.of .u64 0), ((I.of .u64 0), ())))))
    (brn (@I.eqb .i64 y3.1.2.1 (I.of .i64 0))
     (optF (none) (int256_Valid (((true, (((I.of .u64 0), ((I.of .u64 0), ((I.of .u64 0), ((I.of .u64 0), ())))), ())), ()), ())) fun y5 =>
     brn (bnot y5.1.1)
      (optF (none) (int256_FromInt64 (((I.of .i64 (-4)), ()), ())) fun y6 =>
      some (((Ty.eqb (.cons .bool (.cons (.arr 4 (.int .u64)) .nil)) y6.1.1 (true, (((I.of .u64 4), ((I.of .u64 0), ((I.of .u64 0), ((I.of .u64 0), ())))), ()))), ()), ()))
      (some ((false, ()), ())))
     (some ((false, ()), ())))
    (some ((false, ()), ())))
   (some ((false, ()), ())))
  (some ((false, ()), ()))

/-- pontage/pontagelaw3.Int256DivFloor -/
noncomputable def pontagelaw3_Int256DivFloor (x : (⟨[.pl (.cons .bool (.cons (.arr 4 (.int .u64)) .nil)), .pl (.arr 4 (.int .u64)), .pl (.int .u64)], []⟩ : Tm).D) : Option (⟨[.pl .bool], []⟩ : Tm).D :=
 let a : (Bool) × ((I .u64) × (I .u64) × (I .u64) × (I .u64) × Unit) × Unit := x.1.1
 let b : (I .u64) × (I .u64) × (I .u64) × (I .u64) × Unit := x.1.2.1
 let c : I .u64 := x.1.2.2.1
 optF (none) (int256_DivFloor ((a, (b, ())), ())) fun y0 =>
 optF (none) (pontageref3_DivFloor256 ((a, (b, ())), ())) fun y1 =>
 optF (none) (int256_DivFloor ((a, ((c, ((I.of .u64 0), ((I.of .u64 0), ((I.of .u64 0), ())))), ())), ())) fun y2 =>
 optF (none) (pontageref3_DivFloor256 ((a, ((c, ((I.of .u64 0), ((I.of .u64 0), ((I.of .u64 0), ())))), ())), ())) fun y3 =>
 brn (Ty.eqb (.cons .bool (.cons (.arr 4 (.int .u64)) .nil)) y0.1.1 y1.1.1)
  (brn (@I.eqb .i64 y0.1.2.1 y1.1.2.1)
   (brn (Ty.eqb (.cons .bool (.cons (.arr 4 (.int .u64)) .nil)) y2.1.1 y3.1.1)
    (brn (@I.eqb .i64 y2.1.2.1 y3.1.2.1)
     (optF (none) (pontagelaw3_awake ((), ())) fun y4 =>
     some ((y4.1.1, ()), ()))
     (some ((false, ()), ())))
    (some ((false, ()), ())))
   (some ((false, ()), ())))
  (some ((false, ()), ()))

/-- pontage/pontageref3.Add -/
noncomputable def pontageref3_Add (x : (⟨[.pl (.cons .bool (.cons (.sl (.int .i64)) .nil)), .pl (.cons .bool (.cons (.sl (.int .i64)) .nil))], []⟩ : Tm).D) : Option (⟨[.pl (.cons .bool (.cons (.sl (.int .i64)) .nil))], []⟩ : Tm).D :=
 let a : (Bool) × (List (I .i64)) × Unit := x.1.1
 let b : (Bool) × (List (I .i64)) × Unit := x.1.2.1
 brn (Ty.eqb .bool a.1 b.1)
  (optF (none) (pontageref1_Add ((a.2.1, (b.2.1, ())), ())) fun y0 =>
  optF (none) (pontageref3_sign ((a.1, (y0.1.1, ())), ())) fun y1 =>
  some ((y1.1.1, ()), ()))
  (optF (none) (pontageref1_Cmp ((a.2.1, (b.2.1, ())), ())) fun y0 =>
  brn (@I.leb .i64 (I.of .i64 0) y0.1.1)
   (optF (none) (pontageref1_Sub ((a.2.1, (b.2.1, ())), ())) fun y1 =>
   optF (none) (pontageref3_sign ((a.1, (y1.1.1, ())), ())) fun y2 =>
   some ((y2.1.1, ()), ()))
   (optF (none) (pontageref1_Sub ((b.2.1, (a.2.1, ())), ())) fun y1 =>
   optF (none) (pontageref3_sign ((b.1, (y1.1.1, ())), ())) fun y2 =>
   some ((y2.1.1, ()), ())))

/-- pontage/pontageref3.AddClamped -/
noncomputable def pontageref3_AddClamped (x : (⟨[.pl (.arr 4 (.int .u64)), .pl (.cons .bool (.cons (.arr 4 (.int .u64)) .nil))], []⟩ : Tm).D) : Option (⟨[.pl (.arr 4 (.int .u64)), .pl (.int .i64)], []⟩ : Tm).D :=
 let a : (I .u64) × (I .u64) × (I .u64) × (I .u64) × Unit := x.1.1
 let b : (Bool) × ((I .u64) × (I .u64) × (I .u64) × (I .u64) × Unit) × Unit := x.1.2.1
 optF (none) (pontageref3_Valid ((b, ()), ())) fun y0 =>
 brn (bnot y0.1.1)
  (some ((((I.of .u64 0), ((I.of .u64 0), ((I.of .u64 0), ((I.of .u64 0), ())))), ((I.of .i64 2), ())), ()))
  (optF (none) (pontageref1_FromUint256 ((a, ()), ())) fun y1 =>
  optF (none) (pontageref3_sign ((false, (y1.1.1, ())), ())) fun y2 =>
  optF (none) (pontageref3_FromInt256 ((b, ()), ())) fun y3 =>
  optF (none) (pontageref3_Add ((y2.1.1, (y3.1.1, ())), ())) fun y4 =>
  brn y4.1.1.1
   (some ((((I.of .u64 0), ((I.of .u64 0), ((I.of .u64 0), ((I.of .u64 0), ())))), ((I.of .i64 0), ())), ()))
   (optF (none) (pontageref1_Checked ((y4.1.1.2.1, ()), ())) fun y5 =>
   some ((y5.1.1, (y5.1.2.1, ())), ())))

/-- pontage/int256.Diff -/
noncomputable def int256_Diff (x : (⟨[.pl (.arr 4 (.int .u64)), .pl (.arr 4 (.int .u64))], []⟩ : Tm).D) : Option (⟨[.pl (.cons .bool (.cons (.arr 4 (.int .u64)) .nil))], []⟩ : Tm).D :=
 let a : (I .u64) × (I .u64) × (I .u64) × (I .u64) × Unit := x.1.1
 let b : (I .u64) × (I .u64) × (I .u64) × (I .u64) × Unit := x.1.2.1
 optF (none) (uint256_Cmp ((a, (b, ())), ())) fun y0 =>
 brn (@I.leb .i64 (I.of .i64 0) y0.1.1)
  (optF (none) (uint256_SaturatingSub ((a, (b, ())), ())) fun y1 =>
  optF (none) (int256_New ((false, (y1.1.1, ())), ())) fun y2 =>
  some ((y2.1.1, ()), ()))
  (optF (none) (uint256_SaturatingSub ((b, (a, ())), ())) fun y1 =>
  optF (none) (int256_New ((true, (y1.1.1, ())), ())) fun y2 =>
  some ((y2.1.1, ()), ()))

/-- pontage/pontageref3.Diff -/
noncomputable def pontageref3_Diff (x : (⟨[.pl (.arr 4 (.int .u64)), .pl (.arr 4 (.int .u64))], []⟩ : Tm).D) : Option (⟨[.pl (.cons .bool (.cons (.arr 4 (.int .u64)) .nil))], []⟩ : Tm).D :=
 let a : (I .u64) × (I .u64) × (I .u64) × (I .u64) × Unit := x.1.1
 let b : (I .u64) × (I .u64) × (I .u64) × (I .u64) × Unit := x.1.2.1
 optF (none) (pontageref1_FromUint256 ((a, ()), ())) fun y0 =>
 optF (none) (pontageref3_sign ((false, (y0.1.1, ())), ())) fun y1 =>
 optF (none) (pontageref1_FromUint256 ((b, ()), ())) fun y2 =>
 optF (none) (pontageref3_sign ((true, (y2.1.1, ())), ())) fun y3 =>
 optF (none) (pontageref3_Add ((y1.1.1, (y3.1.1, ())), ())) fun y4 =>
 optF (none) (pontageref3_Checked ((y4.1.1, ()), ())) fun y5 =>
 some ((y5.1.1, ()), ())

/-- pontage/pontagelaw3.Int256DiffAddClamped -/
noncomputable def pontagelaw3_Int256DiffAddClamped (x : (⟨[.pl (.arr 4 (.int .u64)), .pl (.arr 4 (.int .u64)), .pl (.cons .bool (.cons (.arr 4 (.int .u64)) .nil))], []⟩ : Tm).D) : Option (⟨[.pl .bool], []⟩ : Tm).D :=
 let a : (I .u64) × (I .u64) × (I .u64) × (I .u64) × Unit := x.1.1
 let b : (I .u64) × (I .u64) × (I .u64) × (I .u64) × Unit := x.1.2.1
 let c : (Bool) × ((I .u64) × (I .u64) × (I .u64) × (I .u64) × Unit) × Unit := x.1.2.2.1
 optF (none) (int256_AddClamped ((a, (c, ())), ())) fun y0 =>
 optF (none) (pontageref3_AddClamped ((a, (c, ())), ())) fun y1 =>
 optF (none) (int256_Diff ((a, (b, ())), ())) fun y2 =>
 optF (none) (pontageref3_Diff ((a, (b, ())), ())) fun y3 =>
 brn (Ty.eqb (.cons .bool (.cons (.arr 4 (.int .u64)) .nil)) y2.1.1 y3.1.1)
  (brn (Ty.eqb (.arr 4 (.int .u64)) y0.1.1 y1.1.1)
   (brn (@I.eqb .i64 y0.1.2.1 y1.1.2.1)
    (optF (none) (pontagelaw3_awake ((), ())) fun y4 =>
    some ((y4.1.1, ()), ()))
    (some ((false, ()), ())))
   (some ((false, ()), ())))
  (some ((false, ()), ()))

/-- pontage/int256.Neg -/
noncomputable def int256_Neg (x : (⟨[.pl (.cons .bool (.cons (.arr 4 (.int .u64)) .nil))], []⟩ : Tm).D) : Option (⟨[.pl (.cons .bool (.cons (.arr 4 (.int .u64)) .nil)), .pl (.int .i64)], []⟩ : Tm).D :=
 let a : (Bool) × ((I .u64) × (I .u64) × (I .u64) × (I .u64) × Unit) × Unit := x.1.1
 optF (none) (int256_Valid ((a, ()), ())) fun y0 =>
 brn (bnot y0.1.1)
  (some (((false, (((I.of .u64 0), ((I.of .u64 0), ((I.of .u64 0), ((I.of .u64 0), ())))), ())), ((I.of .i64 2), ())), ()))
  (optF (none) (int256_New (((bnot a.1), (a.2.1, ())), ())) fun y1 =>
  some ((y1.1.1, ((I.of .i64 0), ())), ()))

/-- pontage/int256.Cmp -/
noncomputable def int256_Cmp (x : (⟨[.pl (.cons .bool (.cons (.arr 4 (.int .u64)) .nil)), .pl (.cons .bool (.cons (.arr 4 (.int .u64)) .nil))], []⟩ : Tm).D) : Option (⟨[.pl (.int .i64)], []⟩ : Tm).D :=
 let a : (Bool) × ((I .u64) × (I .u64) × (I .u64) × (I .u64) × Unit) × Unit := x.1.1
 let b : (Bool) × ((I .u64) × (I .u64) × (I .u64) × (I .u64) × Unit) × Unit := x.1.2.1
 jn (fun (x0 : ((Bool × Unit) × ((Bool × (((I .u64) × ((I .u64) × ((I .u64) × ((I .u64) × Unit)))) × Unit)) × ((Bool × (((I .u64) × ((I .u64) × ((I .u64) × ((I .u64) × Unit)))) × Unit)) × Unit)))) =>
   brn x0.1.1
    (some (((I.of .i64 0), ()), ()))
    (jn (fun (x1 : ((Bool × Unit) × ((Bool × (((I .u64) × ((I .u64) × ((I .u64) × ((I .u64) × Unit)))) × Unit)) × ((Bool × (((I .u64) × ((I .u64) × ((I .u64) × ((I .u64) × Unit)))) × Unit)) × Unit)))) =>
      brn x1.1.1
       (optF (none) (uint256_Cmp ((x1.2.2.1.2.1, (x1.2.1.2.1, ())), ())) fun y2 =>
       some ((y2.1.1, ()), ()))
       (brn x1.2.1.1
        (some (((I.of .i64 (-1)), ()), ()))
        (brn x1.2.2.1.1
         (some (((I.of .i64 1), ()), ()))
         (optF (none) (uint256_Cmp ((x1.2.1.2.1, (x1.2.2.1.2.1, ())), ())) fun y2 =>
         some ((y2.1.1, ()), ()))))) fun j1 =>
    brn x0.2.1.1
     (j1 ((x0.2.2.1.1, ()), (x0.2.1, (x0.2.2.1, ()))))
     (j1 ((false, ()), (x0.2.1, (x0.2.2.1, ())))))) fun j0 =>
 optF (none) (int256_Valid ((a, ()), ())) fun y1 =>
 brn (bnot y1.1.1)
  (j0 ((true, ()), (a, (b, ()))))
  (optF (none) (int256_Valid ((b, ()), ())) fun y2 =>
  j0 (((bnot y2.1.1), ()), (a, (b, ()))))

/-- pontage/pontageref3.Negate -/
noncomputable def pontageref3_Negate (x : (⟨[.pl (.cons .bool (.cons (.sl (.int .i64)) .nil))], []⟩ : Tm).D) : Option (⟨[.pl (.cons .bool (.cons (.sl (.int .i64)) .nil))], []⟩ : Tm).D :=
 let a : (Bool) × (List (I .i64)) × Unit := x.1.1
 optF (none) (pontageref3_sign (((bnot a.1), (a.2.1, ())), ())) fun y0 =>
 some ((y0.1.1, ()), ())

/-- pontage/pontageref3.Cmp -/
noncomputable def pontageref3_Cmp (x : (⟨[.pl (.cons .bool (.cons (.arr 4 (.int .u64)) .nil)), .pl (.cons .bool (.cons (.arr 4 (.int .u64)) .nil))], []⟩ : Tm).D) : Option (⟨[.pl (.int .i64)], []⟩ : Tm).D :=
 let a : (Bool) × ((I .u64) × (I .u64) × (I .u64) × (I .u64) × Unit) × Unit := x.1.1
 let b : (Bool) × ((I .u64) × (I .u64) × (I .u64) × (I .u64) × Unit) × Unit := x.1.2.1
 jn (fun (x0 : (Unit × ((Bool × (((I .u64) × ((I .u64) × ((I .u64) × ((I .u64) × Unit)))) × Unit)) × ((Bool × (((I .u64) × ((I .u64) × ((I .u64) × ((I .u64) × Unit)))) × Unit)) × Unit)))) =>
   optF (none) (pontageref3_FromInt256 ((x0.2.1, ()), ())) fun y1 =>
   optF (none) (pontageref3_FromInt256 ((x0.2.2.1, ()), ())) fun y2 =>
   optF (none) (pontageref3_Negate ((y2.1.1, ()), ())) fun y3 =>
   optF (none) (pontageref3_Add ((y1.1.1, (y3.1.1, ())), ())) fun y4 =>
   brn y4.1.1.1
    (some (((I.of .i64 (-1)), ()), ()))
    (brn (@I.ltb .i64 (I.of .i64 0) (I.ofNat .i64 (@lenL (I .i64) y4.1.1.2.1)))
     (some (((I.of .i64 1), ()), ()))
     (some (((I.of .i64 0), ()), ())))) fun j0 =>
 optF (none) (pontageref3_Valid ((a, ()), ())) fun y1 =>
 brn (bnot y1.1.1)
  (some (((I.of .i64 0), ()), ()))
  (optF (none) (pontageref3_Valid ((b, ()), ())) fun y2 =>
  brn (bnot y2.1.1)
   (some (((I.of .i64 0), ()), ()))
   (j0 ((), (a, (b, ())))))

/-- pontage/pontageref3.FromInt64 -/
noncomputable def pontageref3_FromInt64 (x : (⟨[.pl (.int .i64)], []⟩ : Tm).D) : Option (⟨[.pl (.cons .bool (.cons (.arr 4 (.int .u64)) .nil))], []⟩ : Tm).D :=
 let a : I .i64 := x.1.1
 brn (@I.ltb .i64 a (I.of .i64 0))
  (some (((true, (((@I.add .u64 (I.conv (k := .i64) .u64 (@I.neg .i64 (@I.add .i64 a (I.of .i64 1)))) (I.of .u64 1)), ((I.of .u64 0), ((I.of .u64 0), ((I.of .u64 0), ())))), ())), ()), ()))
  (some (((false, (((I.conv (k := .i64) .u64 a), ((I.of .u64 0), ((I.of .u64 0), ((I.of .u64 0), ())))), ())), ()), ()))

/-- pontage/pontagelaw3.Int256Order -/
noncomputable def pontagelaw3_Int256Order (x : (⟨[.pl (.cons .bool (.cons (.arr 4 (.int .u64)) .nil)), .pl (.cons .bool (.cons (.arr 4 (.int .u64)) .nil)), .pl (.int .i64), .pl .bool], []⟩ : Tm).D) : Option (⟨[.pl .bool], []⟩ : Tm).D :=
 let a : (Bool) × ((I .u64) × (I .u64) × (I .u64) × (I .u64) × Unit) × Unit := x.1.1
 let b : (Bool) × ((I .u64) × (I .u64) × (I .u64) × (I .u64) × Unit) × Unit := x.1.2.1
 let c : I .i64 := x.1.2.2.1
 let d : Bool := x.1.2.2.2.1
 optF (none) (int256_Neg ((a, ()), ())) fun y0 =>
 jn (fun (x1 : (((I .i64) × (Bool × Unit)) × ((Bool × (((I .u64) × ((I .u64) × ((I .u64) × ((I .u64) × Unit)))) × Unit)) × ((Bool × (((I .u64) × ((I .u64) × ((I .u64) × ((I .u64) × Unit)))) × Unit)) × Unit)))) =>
   optF (none) (int256_New ((x1.1.2.1, (x1.2.2.1.2.1, ())), ())) fun y2 =>
   optF (none) (int256_Valid ((x1.2.1, ()), ())) fun y3 =>
   optF (none) (pontageref3_Valid ((x1.2.1, ()), ())) fun y4 =>
   brn (Ty.eqb .bool y3.1.1 y4.1.1)
    (optF (none) (int256_Cmp ((x1.2.1, (x1.2.2.1, ())), ())) fun y5 =>
    optF (none) (pontageref3_Cmp ((x1.2.1, (x1.2.2.1, ())), ())) fun y6 =>
    brn (@I.eqb .i64 y5.1.1 y6.1.1)
     (optF (none) (int256_FromInt64 ((x1.1.1, ()), ())) fun y7 =>
     optF (none) (pontageref3_FromInt64 ((x1.1.1, ()), ())) fun y8 =>
     brn (Ty.eqb (.cons .bool (.cons (.arr 4 (.int .u64)) .nil)) y7.1.1 y8.1.1)
      (optF (none) (int256_Valid ((y2.1.1, ()), ())) fun y9 =>
      brn y9.1.1
       (brn (Ty.eqb (.arr 4 (.int .u64)) y2.1.1.2.1 x1.2.2.1.2.1)
        (brn x1.1.2.1
         (brn (Ty.eqb .bool y2.1.1.1 (bnot (Ty.eqb (.arr 4 (.int .u64)) x1.2.2.1.2.1 ((I.of .u64 0), ((I.of .u64 0), ((I.of .u64 0), ((I.of .u64 0), ())))))))
          (optF (none) (pontagelaw3_awake ((), ())) fun y10 =>
          some ((y10.1.1, ()), ()))
          (some ((false, ()), ())))
         (brn (Ty.eqb .bool y2.1.1.1 false)
          (optF (none) (pontagelaw3_awake ((), ())) fun y10 =>
          some ((y10.1.1, ()), ()))
          (some ((false, ()), ()))))
        (some ((false, ()), ())))
       (some ((false, ()), ())))
      (some ((false, ()), ())))
     (some ((false, ()), ())))
    (some ((false, ()), ()))) fun j1 =>
 optF (none) (pontageref3_Valid ((a, ()), ())) fun y2 =>
 brn y2.1.1
  (jn (fun (x3 : (((I .i64) × (Bool × ((I .i64) × Unit))) × ((Bool × (((I .u64) × ((I .u64) × ((I .u64) × ((I .u64) × Unit)))) × Unit)) × ((Bool × (((I .u64) × ((I .u64) × ((I .u64) × ((I .u64) × Unit)))) × Unit)) × ((Bool × (((I .u64) × ((I .u64) × ((I .u64) × ((I .u64) × Unit)))) × Unit)) × ((Bool × (((I .u64) × ((I .u64) × ((I .u64) × ((I .u64) × Unit)))) × Unit)) × Unit)))))) =>
    brn (bnot (Ty.eqb (.cons .bool (.cons (.arr 4 (.int .u64)) .nil)) x3.2.2.2.1 x3.2.2.2.2.1))
     (some ((false, ()), ()))
     (brn (@I.neb .i64 x3.1.2.2.1 (I.of .i64 0))
      (some ((false, ()), ()))
      (j1 ((x3.1.1, (x3.1.2.1, ())), (x3.2.1, (x3.2.2.1, ())))))) fun j3 =>
  brn (bnot a.1)
   (j3 ((c, (d, (y0.1.2.1, ()))), (a, (b, (y0.1.1, (((bnot (Ty.eqb (.arr 4 (.int .u64)) a.2.1 ((I.of .u64 0), ((I.of .u64 0), ((I.of .u64 0), ((I.of .u64 0), ())))))), (a.2.1, ())), ()))))))
   (j3 ((c, (d, (y0.1.2.1, ()))), (a, (b, (y0.1.1, ((false, (a.2.1, ())), ())))))))
  (brn (@I.neb .i64 y0.1.2.1 (I.of .i64 2))
   (some ((false, ()), ()))
   (brn (bnot (Ty.eqb (.cons .bool (.cons (.arr 4 (.int .u64)) .nil)) y0.1.1 (false, (((I.of .u64 0), ((I.of .u64 0), ((I.of .u64 0), ((I.of .u64 0), ())))), ()))))
    (some ((false, ()), ()))
    (j1 ((c, (d, ())), (a, (b, ()))))))

/-- pontage/int256.Add -/
noncomputable def int256_Add (x : (⟨[.pl (.cons .bool (.cons (.arr 4 (.int .u64)) .nil)), .pl (.cons .bool (.cons (.arr 4 (.int .u64)) .nil))], []⟩ : Tm).D) : Option (⟨[.pl (.cons .bool (.cons (.arr 4 (.int .u64)) .nil)), .pl (.int .i64)], []⟩ : Tm).D :=
 let a : (Bool) × ((I .u64) × (I .u64) × (I .u64) × (I .u64) × Unit) × Unit := x.1.1
 let b : (Bool) × ((I .u64) × (I .u64) × (I .u64) × (I .u64) × Unit) × Unit := x.1.2.1
 jn (fun (x0 : (Unit × ((Bool × (((I .u64) × ((I .u64) × ((I .u64) × ((I .u64) × Unit)))) × Unit)) × ((Bool × (((I .u64) × ((I .u64) × ((I .u64) × ((I .u64) × Unit)))) × Unit)) × ((Bool × (((I .u64) × ((I .u64) × ((I .u64) × ((I .u64) × Unit)))) × Unit)) × Unit))))) =>
   brn (Ty.eqb .bool x0.2.1.1 x0.2.2.1.1)
    (optF (none) (uint256_Add ((x0.2.1.2.1, (x0.2.2.1.2.1, ())), ())) fun y1 =>
    brn (@I.neb .i64 y1.1.2.1 (I.of .i64 0))
     (some (((false, (((I.of .u64 0), ((I.of .u64 0), ((I.of .u64 0), ((I.of .u64 0), ())))), ())), (y1.1.2.1, ())), ()))
     (optF (none) (int256_New ((x0.2.1.1, (y1.1.1, ())), ())) fun y2 =>
     some ((y2.1.1, ((I.of .i64 0), ())), ())))
    (brn x0.2.1.1
     (optF (none) (int256_Diff ((x0.2.2.1.2.1, (x0.2.1.2.1, ())), ())) fun y1 =>
     some ((y1.1.1, ((I.of .i64 0), ())), ()))
     (optF (none) (int256_Diff ((x0.2.1.2.1, (x0.2.2.1.2.1, ())), ())) fun y1 =>
     some ((y1.1.1, ((I.of .i64 0), ())), ())))) fun j0 =>
 optF (none) (int256_Valid ((a, ()), ())) fun y1 =>
 brn (bnot y1.1.1)
  (some (((false, (((I.of .u64 0), ((I.of .u64 0), ((I.of .u64 0), ((I.of .u64 0), ())))), ())), ((I.of .i64 2), ())), ()))
  (optF (none) (int256_Valid ((b, ()), ())) fun y2 =>
  brn (bnot y2.1.1)
   (some (((false, (((I.of .u64 0), ((I.of .u64 0), ((I.of .u64 0), ((I.of .u64 0), ())))), ())), ((I.of .i64 2), ())), ()))
   (j0 ((), (a, (b, ((false, (((I.of .u64 0), ((I.of .u64 0), ((I.of .u64 0), ((I.of .u64 0), ())))), ())), ()))))))

/-- pontage/pontageref3.Mul -/
noncomputable def pontageref3_Mul (x : (⟨[.pl (.cons .bool (.cons (.sl (.int .i64)) .nil)), .pl (.cons .bool (.cons (.sl (.int .i64)) .nil))], []⟩ : Tm).D) : Option (⟨[.pl (.cons .bool (.cons (.sl (.int .i64)) .nil))], []⟩ : Tm).D :=
 let a : (Bool) × (List (I .i64)) × Unit := x.1.1
 let b : (Bool) × (List (I .i64)) × Unit := x.1.2.1
 optF (none) (pontageref1_Mul ((a.2.1, (b.2.1, ())), ())) fun y0 =>
 optF (none) (pontageref3_sign (((bnot (Ty.eqb .bool a.1 b.1)), (y0.1.1, ())), ())) fun y1 =>
 some ((y1.1.1, ()), ())

/-- pontage/pontageref3.Binary -/
noncomputable def pontageref3_Binary (x : (⟨[.pl (.int .i64), .pl (.cons .bool (.cons (.arr 4 (.int .u64)) .nil)), .pl (.cons .bool (.cons (.arr 4 (.int .u64)) .nil))], []⟩ : Tm).D) : Option (⟨[.pl (.cons .bool (.cons (.arr 4 (.int .u64)) .nil)), .pl (.int .i64)], []⟩ : Tm).D :=
 let a : I .i64 := x.1.1
 let b : (Bool) × ((I .u64) × (I .u64) × (I .u64) × (I .u64) × Unit) × Unit := x.1.2.1
 let c : (Bool) × ((I .u64) × (I .u64) × (I .u64) × (I .u64) × Unit) × Unit := x.1.2.2.1
 jn (fun (x0 : (((I .i64) × Unit) × ((Bool × (((I .u64) × ((I .u64) × ((I .u64) × ((I .u64) × Unit)))) × Unit)) × ((Bool × (((I .u64) × ((I .u64) × ((I .u64) × ((I .u64) × Unit)))) × Unit)) × ((Bool × (((I .u64) × ((I .u64) × ((I .u64) × ((I .u64) × Unit)))) × Unit)) × Unit))))) =>
   optF (none) (pontageref3_FromInt256 ((x0.2.1, ()), ())) fun y1 =>
   optF (none) (pontageref3_FromInt256 ((x0.2.2.1, ()), ())) fun y2 =>
   brn (@I.eqb .i64 x0.1.1 (I.of .i64 3))
    (optF (none) (pontageref3_Mul ((y1.1.1, (y2.1.1, ())), ())) fun y3 =>
    optF (none) (pontageref3_Checked ((y3.1.1, ()), ())) fun y4 =>
    some ((y4.1.1, (y4.1.2.1, ())), ()))
    (jn (fun (x3 : (Unit × ((Bool × (((I .u64) × ((I .u64) × ((I .u64) × ((I .u64) × Unit)))) × Unit)) × ((Bool × ((List (I .i64)) × Unit)) × ((Bool × ((List (I .i64)) × Unit)) × Unit))))) =>
      optF (none) (pontageref3_Add ((x3.2.2.1, (x3.2.2.2.1, ())), ())) fun y4 =>
      optF (none) (pontageref3_Checked ((y4.1.1, ()), ())) fun y5 =>
      some ((y5.1.1, (y5.1.2.1, ())), ())) fun j3 =>
    brn (@I.eqb .i64 x0.1.1 (I.of .i64 2))
     (optF (none) (pontageref3_Negate ((y2.1.1, ()), ())) fun y4 =>
     j3 ((), (x0.2.2.2.1, (y1.1.1, (y4.1.1, ())))))
     (j3 ((), (x0.2.2.2.1, (y1.1.1, (y2.1.1, ()))))))) fun j0 =>
 optF (none) (pontageref3_Valid ((b, ()), ())) fun y1 =>
 brn (bnot y1.1.1)
  (some (((false, (((I.of .u64 0), ((I.of .u64 0), ((I.of .u64 0), ((I.of .u64 0), ())))), ())), ((I.of .i64 2), ())), ()))
  (optF (none) (pontageref3_Valid ((c, ()), ())) fun y2 =>
  brn (bnot y2.1.1)
   (some (((false, (((I.of .u64 0), ((I.of .u64 0), ((I.of .u64 0), ((I.of .u64 0), ())))), ())), ((I.of .i64 2), ())), ()))
   (j0 ((a, ()), (b, (c, ((false, (((I.of .u64 0), ((I.of .u64 0), ((I.of .u64 0), ((I.of .u64 0), ())))), ())), ()))))))

/-- pontage/int256.Sub -/
noncomputable def int256_Sub (x : (⟨[.pl (.cons .bool (.cons (.arr 4 (.int .u64)) .nil)), .pl (.cons .bool (.cons (.arr 4 (.int .u64)) .nil))], []⟩ : Tm).D) : Option (⟨[.pl (.cons .bool (.cons (.arr 4 (.int .u64)) .nil)), .pl (.int .i64)], []⟩ : Tm).D :=
 let a : (Bool) × ((I .u64) × (I .u64) × (I .u64) × (I .u64) × Unit) × Unit := x.1.1
 let b : (Bool) × ((I .u64) × (I .u64) × (I .u64) × (I .u64) × Unit) × Unit := x.1.2.1
 optF (none) (int256_Neg ((b, ()), ())) fun y0 =>
 jn (fun (x1 : (Unit × ((Bool × (((I .u64) × ((I .u64) × ((I .u64) × ((I .u64) × Unit)))) × Unit)) × ((Bool × (((I .u64) × ((I .u64) × ((I .u64) × ((I .u64) × Unit)))) × Unit)) × ((Bool × (((I .u64) × ((I .u64) × ((I .u64) × ((I .u64) × Unit)))) × Unit)) × Unit))))) =>
   optF (none) (int256_Add ((x1.2.1, (x1.2.2.2.1, ())), ())) fun y2 =>
   some ((y2.1.1, (y2.1.2.1, ())), ())) fun j1 =>
 brn (@I.neb .i64 y0.1.2.1 (I.of .i64 0))
  (some (((false, (((I.of .u64 0), ((I.of .u64 0), ((I.of .u64 0), ((I.of .u64 0), ())))), ())), ((I.of .i64 2), ())), ()))
  (optF (none) (int256_Valid ((a, ()), ())) fun y2 =>
  brn (bnot y2.1.1)
   (some (((false, (((I.of .u64 0), ((I.of .u64 0), ((I.of .u64 0), ((I.of .u64 0), ())))), ())), ((I.of .i64 2), ())), ()))
   (j1 ((), (a, ((false, (((I.of .u64 0), ((I.of .u64 0), ((I.of .u64 0), ((I.of .u64 0), ())))), ())), (y0.1.1, ()))))))

/-- pontage/int256.Mul -/
noncomputable def int256_Mul (x : (⟨[.pl (.cons .bool (.cons (.arr 4 (.int .u64)) .nil)), .pl (.cons .bool (.cons (.arr 4 (.int .u64)) .nil))], []⟩ : Tm).D) : Option (⟨[.pl (.cons .bool (.cons (.arr 4 (.int .u64)) .nil)), .pl (.int .i64)], []⟩ : Tm).D :=
 let a : (Bool) × ((I .u64) × (I .u64) × (I .u64) × (I .u64) × Unit) × Unit := x.1.1
 let b : (Bool) × ((I .u64) × (I .u64) × (I .u64) × (I .u64) × Unit) × Unit := x.1.2.1
 jn (fun (x0 : (Unit × ((Bool × (((I .u64) × ((I .u64) × ((I .u64) × ((I .u64) × Unit)))) × Unit)) × ((Bool × (((I .u64) × ((I .u64) × ((I .u64) × ((I .u64) × Unit)))) × Unit)) × ((Bool × (((I .u64) × ((I .u64) × ((I .u64) × ((I .u64) × Unit)))) × Unit)) × Unit))))) =>
   optF (none) (uint256_Mul ((x0.2.1.2.1, (x0.2.2.1.2.1, ())), ())) fun y1 =>
   brn (@I.neb .i64 y1.1.2.1 (I.of .i64 0))
    (some (((false, (((I.of .u64 0), ((I.of .u64 0), ((I.of .u64 0), ((I.of .u64 0), ())))), ())), (y1.1.2.1, ())), ()))
    (optF (none) (int256_New (((bnot (Ty.eqb .bool x0.2.1.1 x0.2.2.1.1)), (y1.1.1, ())), ())) fun y2 =>
    some ((y2.1.1, ((I.of .i64 0), ())), ()))) fun j0 =>
 optF (none) (int256_Valid ((a, ()), ())) fun y1 =>
 brn (bnot y1.1.1)
  (some (((false, (((I.of .u64 0), ((I.of .u64 0), ((I.of .u64 0), ((I.of .u64 0), ())))), ())), ((I.of .i64 2), ())), ()))
  (optF (none) (int256_Valid ((b, ()), ())) fun y2 =>
  brn (bnot y2.1.1)
   (some (((false, (((I.of .u64 0), ((I.of .u64 0), ((I.of .u64 0), ((I.of .u64 0), ())))), ())), ((I.of .i64 2), ())), ()))
   (j0 ((), (a, (b, ((false, (((I.of .u64 0), ((I.of .u64 0), ((I.of .u64 0), ((I.of .u64 0), ())))), ())), ()))))))

/-- pontage/pontagelaw3.Int256Arithmetic -/
noncomputable def pontagelaw3_Int256Arithmetic (x : (⟨[.pl (.cons .bool (.cons (.arr 4 (.int .u64)) .nil)), .pl (.cons .bool (.cons (.arr 4 (.int .u64)) .nil))], []⟩ : Tm).D) : Option (⟨[.pl .bool], []⟩ : Tm).D :=
 let a : (Bool) × ((I .u64) × (I .u64) × (I .u64) × (I .u64) × Unit) × Unit := x.1.1
 let b : (Bool) × ((I .u64) × (I .u64) × (I .u64) × (I .u64) × Unit) × Unit := x.1.2.1
 optF (none) (int256_Add ((a, (b, ())), ())) fun y0 =>
 optF (none) (pontageref3_Binary (((I.of .i64 1), (a, (b, ()))), ())) fun y1 =>
 optF (none) (int256_Sub ((a, (b, ())), ())) fun y2 =>
 optF (none) (pontageref3_Binary (((I.of .i64 2), (a, (b, ()))), ())) fun y3 =>
 optF (none) (int256_Mul ((a, (b, ())), ())) fun y4 =>
 optF (none) (pontageref3_Binary (((I.of .i64 3), (a, (b, ()))), ())) fun y5 =>
 brn (Ty.eqb (.cons .bool (.cons (.arr 4 (.int .u64)) .nil)) y0.1.1 y1.1.1)
  (brn (@I.eqb .i64 y0.1.2.1 y1.1.2.1)
   (brn (Ty.eqb (.cons .bool (.cons (.arr 4 (.int .u64)) .nil)) y2.1.1 y3.1.1)
    (brn (@I.eqb .i64 y2.1.2.1 y3.1.2.1)
     (brn (Ty.eqb (.cons .bool (.cons (.arr 4 (.int .u64)) .nil)) y4.1.1 y5.1.1)
      (brn (@I.eqb .i64 y4.1.2.1 y5.1.2.1)
       (optF (none) (pontagelaw3_awake ((), ())) fun y6 =>
       some ((y6.1.1, ()), ()))
       (some ((false, ()), ())))
      (some ((false, ()), ())))
     (some ((false, ()), ())))
    (some ((false, ()), ())))
   (some ((false, ()), ())))
  (some ((false, ()), ()))

/-- pontage/pontagelaw0.Mod -/
noncomputable def pontagelaw0_Mod (x : (⟨[.pl (.int .i64), .pl (.int .i64)], []⟩ : Tm).D) : Option (⟨[.pl (.int .i64)], []⟩ : Tm).D :=
 let a : I .i64 := x.1.1
 let b : I .i64 := x.1.2.1
 brn (@I.nz .u64 (I.conv (k := .i64) .u64 b))
  (some (((I.conv (k := .u64) .i64 (@I.rem .u64 (I.conv (k := .i64) .u64 a) (I.conv (k := .i64) .u64 b))), ()), ()))
  (none)

/-- pontage/pontagelaw0.EdgeUint256 -/
noncomputable def pontagelaw0_EdgeUint256 (x : (⟨[.pl (.int .u64), .pl (.int .u64), .pl (.int .i64)], []⟩ : Tm).D) : Option (⟨[.pl (.arr 4 (.int .u64))], []⟩ : Tm).D :=
 let a : I .u64 := x.1.1
 let b : I .u64 := x.1.2.1
 let c : I .i64 := x.1.2.2.1
 optF (none) (pontagelaw0_Mod ((c, ((I.of .i64 9), ())), ())) fun y0 =>
 brn (@I.eqb .i64 y0.1.1 (I.of .i64 0))
  (some (((a, ((I.of .u64 0), ((I.of .u64 0), ((I.of .u64 0), ())))), ()), ()))
  (brn (@I.eqb .i64 y0.1.1 (I.of .i64 1))
   (some (((a, (b, ((I.of .u64 0), ((I.of .u64 0), ())))), ()), ()))
   (brn (@I.eqb .i64 y0.1.1 (I.of .i64 2))
    (some (((a, (b, (a, (b, ())))), ()), ()))
    (brn (@I.eqb .i64 y0.1.1 (I.of .i64 3))
     (some ((((@I.sub .u64 (I.of .u64 18446744073709551615) (@I.rem .u64 a (I.of .u64 4))), ((I.of .u64 18446744073709551615), ((I.of .u64 18446744073709551615), ((I.of .u64 18446744073709551615), ())))), ()), ()))
     (brn (@I.eqb .i64 y0.1.1 (I.of .i64 4))
      (some ((((@I.rem .u64 a (I.of .u64 4)), ((I.of .u64 0), ((@I.add .u64 (I.of .u64 1) (@I.rem .u64 b (I.of .u64 4))), ((I.of .u64 0), ())))), ()), ()))
      (brn (@I.eqb .i64 y0.1.1 (I.of .i64 5))
       (some ((((I.of .u64 18446744073709551615), ((I.of .u64 18446744073709551615), ((I.of .u64 0), ((I.of .u64 0), ())))), ()), ()))
       (brn (@I.eqb .i64 y0.1.1 (I.of .i64 6))
        (brn (@I.nn .u64 (@I.rem .u64 b (I.of .u64 64)))
         (some ((((I.of .u64 0), ((I.of .u64 0), ((I.of .u64 0), ((@I.shl .u64 .u64 (I.of .u64 1) (@I.rem .u64 b (I.of .u64 64))), ())))), ()), ()))
         (none))
        (brn (@I.eqb .i64 y0.1.1 (I.of .i64 7))
         (some ((((@I.rem .u64 a (I.of .u64 16)), ((I.of .u64 0), ((I.of .u64 0), ((I.of .u64 0), ())))), ()), ()))
         (some (((b, (a, (b, ((I.of .u64 0), ())))), ()), ())))))))))

/-- pontage/pontagelaw3.Int256Boundaries -/
noncomputable def pontagelaw3_Int256Boundaries (x : (⟨[.pl (.int .u64), .pl (.int .u64), .pl (.int .i64), .pl (.int .i64), .pl .bool, .pl .bool], []⟩ : Tm).D) : Option (⟨[.pl .bool], []⟩ : Tm).D :=
 let a : I .u64 := x.1.1
 let b : I .u64 := x.1.2.1
 let c : I .i64 := x.1.2.2.1
 let d : I .i64 := x.1.2.2.2.1
 let e : Bool := x.1.2.2.2.2.1
 let f : Bool := x.1.2.2.2.2.2.1
 optF (none) (pontagelaw0_EdgeUint256 ((a, (b, (c, ()))), ())) fun y0 =>
 optF (none) (int256_New ((e, (y0.1.1, ())), ())) fun y1 =>
 optF (none) (pontagelaw0_EdgeUint256 ((b, (a, (d, ()))), ())) fun y2 =>
 optF (none) (int256_New ((f, (y2.1.1, ())), ())) fun y3 =>
 optF (none) (int256_Add ((y1.1.1, (y3.1.1, ())), ())) fun y4 =>
 optF (none) (pontageref3_Binary (((I.of .i64 1), (y1.1.1, (y3.1.1, ()))), ())) fun y5 =>
 optF (none) (int256_Sub ((y1.1.1, (y3.1.1, ())), ())) fun y6 =>
 optF (none) (pontageref3_Binary (((I.of .i64 2), (y1.1.1, (y3.1.1, ()))), ())) fun y7 =>
 optF (none) (int256_Mul ((y1.1.1, (y3.1.1, ())), ())) fun y8 =>
 optF (none) (pontageref3_Binary (((I.of .i64 3), (y1.1.1, (y3.1.1, ()))), ())) fun y9 =>
 optF (none) (pontagelaw0_EdgeUint256 ((a, (a, (d, ()))), ())) fun y10 =>
 optF (none) (int256_AddClamped ((y10.1.1, (y3.1.1, ())), ())) fun y11 =>
 optF (none) (pontagelaw0_EdgeUint256 ((a, (a, (d, ()))), ())) fun y12 =>
 optF (none) (pontageref3_AddClamped ((y12.1.1, (y3.1.1, ())), ())) fun y13 =>
 brn (Ty.eqb (.cons .bool (.cons (.arr 4 (.int .u64)) .nil)) y4.1.1 y5.1.1)
  (brn (@I.eqb .i64 y4.1.2.1 y5.1.2.1)
   (brn (Ty.eqb (.cons .bool (.cons (.arr 4 (.int .u64)) .nil)) y6.1.1 y7.1.1)
    (brn (@I.eqb .i64 y6.1.2.1 y7.1.2.1)
     (brn (Ty.eqb (.cons .bool (.cons (.arr 4 (.int .u64)) .nil)) y8.1.1 y9.1.1)
      (brn (@I.eqb .i64 y8.1.2.1 y9.1.2.1)
       (brn (Ty.eqb (.arr 4 (.int .u64)) y11.1.1 y13.1.1)
        (brn (@I.eqb .i64 y11.1.2.1 y13.1.2.1)
         (optF (none) (pontagelaw3_awake ((), ())) fun y14 =>
         some ((y14.1.1, ()), ()))
         (some ((false, ()), ())))
        (some ((false, ()), ())))
       (some ((false, ()), ())))
      (some ((false, ()), ())))
     (some ((false, ()), ())))
    (some ((false, ()), ())))
   (some ((false, ()), ())))
  (some ((false, ()), ()))

/-- pontage/pontagelaw3.Int256Negation -/
noncomputable def pontagelaw3_Int256Negation (x : (⟨[.pl (.cons .bool (.cons (.arr 4 (.int .u64)) .nil)), .pl (.cons .bool (.cons (.arr 4 (.int .u64)) .nil))], []⟩ : Tm).D) : Option (⟨[.pl .bool], []⟩ : Tm).D :=
 let a : (Bool) × ((I .u64) × (I .u64) × (I .u64) × (I .u64) × Unit) × Unit := x.1.1
 let b : (Bool) × ((I .u64) × (I .u64) × (I .u64) × (I .u64) × Unit) × Unit := x.1.2.1
 jn (fun (x0 : (Unit × ((Bool × (((I .u64) × ((I .u64) × ((I .u64) × ((I .u64) × Unit)))) × Unit)) × ((Bool × (((I .u64) × ((I .u64) × ((I .u64) × ((I .u64) × Unit)))) × Unit)) × Unit)))) =>
   optF (none) (int256_Neg ((x0.2.1, ()), ())) fun y1 =>
   optF (none) (int256_Neg ((x0.2.2.1, ()), ())) fun y2 =>
   optF (none) (int256_Add ((x0.2.1, (x0.2.2.1, ())), ())) fun y3 =>
   optF (none) (int256_Add ((y1.1.1, (y2.1.1, ())), ())) fun y4 =>
   optF (none) (int256_Mul ((x0.2.1, (x0.2.2.1, ())), ())) fun y5 =>
   optF (none) (int256_Mul ((y1.1.1, (x0.2.2.1, ())), ())) fun y6 =>
   optF (none) (int256_Neg ((y3.1.1, ()), ())) fun y7 =>
   optF (none) (int256_Neg ((y5.1.1, ()), ())) fun y8 =>
   brn (@I.eqb .i64 y1.1.2.1 (I.of .i64 0))
    (brn (@I.eqb .i64 y2.1.2.1 (I.of .i64 0))
     (brn (@I.eqb .i64 y3.1.2.1 y4.1.2.1)
      (brn (@I.eqb .i64 y5.1.2.1 y6.1.2.1)
       (brn (@I.neb .i64 y3.1.2.1 (I.of .i64 0))
        (brn (@I.neb .i64 y5.1.2.1 (I.of .i64 0))
         (optF (none) (int256_Cmp ((y1.1.1, (y2.1.1, ())), ())) fun y9 =>
         optF (none) (int256_Cmp ((x0.2.2.1, (x0.2.1, ())), ())) fun y10 =>
         brn (@I.eqb .i64 y9.1.1 y10.1.1)
          (optF (none) (pontagelaw3_awake ((), ())) fun y11 =>
          some ((y11.1.1, ()), ()))
          (some ((false, ()), ())))
         (brn (Ty.eqb (.cons .bool (.cons (.arr 4 (.int .u64)) .nil)) y6.1.1 y8.1.1)
          (optF (none) (int256_Cmp ((y1.1.1, (y2.1.1, ())), ())) fun y9 =>
          optF (none) (int256_Cmp ((x0.2.2.1, (x0.2.1, ())), ())) fun y10 =>
          brn (@I.eqb .i64 y9.1.1 y10.1.1)
           (optF (none) (pontagelaw3_awake ((), ())) fun y11 =>
           some ((y11.1.1, ()), ()))
           (some ((false, ()), ())))
          (some ((false, ()), ()))))
        (brn (Ty.eqb (.cons .bool (.cons (.arr 4 (.int .u64)) .nil)) y4.1.1 y7.1.1)
         (brn (@I.neb .i64 y5.1.2.1 (I.of .i64 0))
          (optF (none) (int256_Cmp ((y1.1.1, (y2.1.1, ())), ())) fun y9 =>
          optF (none) (int256_Cmp ((x0.2.2.1, (x0.2.1, ())), ())) fun y10 =>
          brn (@I.eqb .i64 y9.1.1 y10.1.1)
           (optF (none) (pontagelaw3_awake ((), ())) fun y11 =>
           some ((y11.1.1, ()), ()))
           (some ((false, ()), ())))
          (brn (Ty.eqb (.cons .bool (.cons (.arr 4 (.int .u64)) .nil)) y6.1.1 y8.1.1)
           (optF (none) (int256_Cmp ((y1.1.1, (y2.1.1, ())), ())) fun y9 =>
           optF (none) (int256_Cmp ((x0.2.2.1, (x0.2.1, ())), ())) fun y10 =>
           brn (@I.eqb .i64 y9.1.1 y10.1.1)
            (optF (none) (pontagelaw3_awake ((), ())) fun y11 =>
            some ((y11.1.1, ()), ()))
            (some ((false, ()), ())))
           (some ((false, ()), ()))))
         (some ((false, ()), ()))))
       (some ((false, ()), ())))
      (some ((false, ()), ())))
     (some ((false, ()), ())))
    (some ((false, ()), ()))) fun j0 =>
 jn (fun (x1 : ((Bool × Unit) × ((Bool × (((I .u64) × ((I .u64) × ((I .u64) × ((I .u64) × Unit)))) × Unit)) × ((Bool × (((I .u64) × ((I .u64) × ((I .u64) × ((I .u64) × Unit)))) × Unit)) × Unit)))) =>
   brn x1.1.1
    (optF (none) (pontagelaw3_awake ((), ())) fun y2 =>
    some ((y2.1.1, ()), ()))
    (j0 ((), (x1.2.1, (x1.2.2.1, ()))))) fun j1 =>
 optF (none) (int256_Valid ((a, ()), ())) fun y2 =>
 brn (bnot y2.1.1)
  (j1 ((true, ()), (a, (b, ()))))
  (optF (none) (int256_Valid ((b, ()), ())) fun y3 =>
  j1 (((bnot y3.1.1), ()), (a, (b, ()))))

/-- pontage/pontagelaw3.Int256Algebra -/
noncomputable def pontagelaw3_Int256Algebra (x : (⟨[.pl (.cons .bool (.cons (.arr 4 (.int .u64)) .nil)), .pl (.cons .bool (.cons (.arr 4 (.int .u64)) .nil)), .pl (.int .u64)], []⟩ : Tm).D) : Option (⟨[.pl .bool], []⟩ : Tm).D :=
 let a : (Bool) × ((I .u64) × (I .u64) × (I .u64) × (I .u64) × Unit) × Unit := x.1.1
 let b : (Bool) × ((I .u64) × (I .u64) × (I .u64) × (I .u64) × Unit) × Unit := x.1.2.1
 let c : I .u64 := x.1.2.2.1
 jn (fun (x0 : (((I .u64) × Unit) × ((Bool × (((I .u64) × ((I .u64) × ((I .u64) × ((I .u64) × Unit)))) × Unit)) × ((Bool × (((I .u64) × ((I .u64) × ((I .u64) × ((I .u64) × Unit)))) × Unit)) × Unit)))) =>
   optF (none) (int256_Sub ((x0.2.1, (x0.2.2.1, ())), ())) fun y1 =>
   jn (fun (x2 : (((I .u64) × Unit) × ((Bool × (((I .u64) × ((I .u64) × ((I .u64) × ((I .u64) × Unit)))) × Unit)) × Unit))) =>
     brn (@I.eqb .u64 x2.1.1 (I.of .u64 0))
      (optF (none) (pontagelaw3_awake ((), ())) fun y3 =>
      some ((y3.1.1, ()), ()))
      (optF (none) (int256_DivFloor ((x2.2.1, ((x2.1.1, ((I.of .u64 0), ((I.of .u64 0), ((I.of .u64 0), ())))), ())), ())) fun y3 =>
      brn (@I.neb .i64 y3.1.2.1 (I.of .i64 0))
       (some ((false, ()), ()))
       (optF (none) (int256_New ((false, ((x2.1.1, ((I.of .u64 0), ((I.of .u64 0), ((I.of .u64 0), ())))), ())), ())) fun y4 =>
       optF (none) (int256_Mul ((y3.1.1, (y4.1.1, ())), ())) fun y5 =>
       brn (@I.neb .i64 y5.1.2.1 (I.of .i64 0))
        (brn x2.2.1.1
         (optF (none) (pontagelaw3_awake ((), ())) fun y6 =>
         some ((y6.1.1, ()), ()))
         (some ((false, ()), ())))
        (optF (none) (int256_Sub ((x2.2.1, (y5.1.1, ())), ())) fun y6 =>
        brn (@I.eqb .i64 y6.1.2.1 (I.of .i64 0))
         (brn (bnot y6.1.1.1)
          (optF (none) (int256_New ((false, ((x2.1.1, ((I.of .u64 0), ((I.of .u64 0), ((I.of .u64 0), ())))), ())), ())) fun y7 =>
          optF (none) (int256_Cmp ((y6.1.1, (y7.1.1, ())), ())) fun y8 =>
          brn (@I.ltb .i64 y8.1.1 (I.of .i64 0))
           (optF (none) (pontagelaw3_awake ((), ())) fun y9 =>
           some ((y9.1.1, ()), ()))
           (some ((false, ()), ())))
          (some ((false, ()), ())))
         (some ((false, ()), ())))))) fun j2 =>
   brn (@I.eqb .i64 y1.1.2.1 (I.of .i64 0))
    (optF (none) (int256_Add ((y1.1.1, (x0.2.2.1, ())), ())) fun y3 =>
    brn (@I.neb .i64 y3.1.2.1 (I.of .i64 0))
     (some ((false, ()), ()))
     (brn (bnot (Ty.eqb (.cons .bool (.cons (.arr 4 (.int .u64)) .nil)) y3.1.1 x0.2.1))
      (some ((false, ()), ()))
      (optF (none) (int256_Cmp ((x0.2.1, (x0.2.2.1, ())), ())) fun y4 =>
      brn (bnot (Ty.eqb .bool (@I.ltb .i64 y4.1.1 (I.of .i64 0)) y1.1.1.1))
       (some ((false, ()), ()))
       (j2 ((x0.1.1, ()), (x0.2.1, ()))))))
    (j2 ((x0.1.1, ()), (x0.2.1, ())))) fun j0 =>
 jn (fun (x1 : (((I .u64) × (Bool × Unit)) × ((Bool × (((I .u64) × ((I .u64) × ((I .u64) × ((I .u64) × Unit)))) × Unit)) × ((Bool × (((I .u64) × ((I .u64) × ((I .u64) × ((I .u64) × Unit)))) × Unit)) × Unit)))) =>
   brn x1.1.2.1
    (optF (none) (pontagelaw3_awake ((), ())) fun y2 =>
    some ((y2.1.1, ()), ()))
    (j0 ((x1.1.1, ()), (x1.2.1, (x1.2.2.1, ()))))) fun j1 =>
 optF (none) (int256_Valid ((a, ()), ())) fun y2 =>
 brn (bnot y2.1.1)
  (j1 ((c, (true, ())), (a, (b, ()))))
  (optF (none) (int256_Valid ((b, ()), ())) fun y3 =>
  j1 ((c, ((bnot y3.1.1), ())), (a, (b, ()))))

end Sym

/- Rules for what a printed function computes. -/
namespace Sym
open Go

/-- The result r has the property T. -/
def Wp {R : Type} (T : R → Prop) (r : R) : Prop := T r

theorem Wp.brn {R : Type} {T : R → Prop} {c : Bool} {t f : R} (h1 : c = true → Wp T t) (h2 : c = false → Wp T f) : Wp T (brn c t f) := by
  cases c
  · exact h2 rfl
  · exact h1 rfl

theorem Wp.brnT {R : Type} {T : R → Prop} {c : Bool} {t f : R} (hc : c = true) (h : Wp T t) : Wp T (Sym.brn c t f) := by subst hc; exact h
theorem Wp.brnF {R : Type} {T : R → Prop} {c : Bool} {t f : R} (hc : c = false) (h : Wp T f) : Wp T (Sym.brn c t f) := by subst hc; exact h

theorem Wp.optF {R Y : Type} {T : R → Prop} {fail : R} {o : Option Y} {k : Y → R} {y : Y} (ho : o = some y) (h : Wp T (k y)) : Wp T (optF fail o k) := by subst ho; exact h

theorem Wp.call {R Y : Type} {T : R → Prop} {fail : R} {o : Option Y} {k : Y → R} {P : Y → Prop} (ho : ∃ y, o = some y ∧ P y) (h : ∀ y, P y → Wp T (k y)) : Wp T (Sym.optF fail o k) := by
  obtain ⟨y, rfl, hp⟩ := ho
  exact h y hp

theorem Wp.jn {X R : Type} {T : R → Prop} {J : X → R} {f : (X → R) → R} (P : X → Prop) (h1 : ∀ x, P x → Wp T (J x)) (h2 : ∀ j : X → R, (∀ x, P x → Wp T (j x)) → Wp T (f j)) : Wp T (jn J f) := h2 J h1

/-- One round. -/
def Rnd {X R : Type} (T : R → Prop) (Inv : X → Prop) (μ : X → Nat) (m : Nat) (s : Stp X R) : Prop :=
  match s with
  | .again y => Inv y ∧ μ y < m
  | .done r => Wp T r

theorem Wp.again {X R : Type} {T : R → Prop} {Inv : X → Prop} {μ : X → Nat} {m : Nat} {y : X} (h1 : Inv y) (h2 : μ y < m) : Wp (Rnd T Inv μ m) (.again y : Stp X R) := ⟨h1, h2⟩
theorem Wp.done {X R : Type} {T : R → Prop} {Inv : X → Prop} {μ : X → Nat} {m : Nat} {r : R} (h : Wp T r) : Wp (Rnd T Inv μ m) (.done r : Stp X R) := h

theorem Wp.iter {X R : Type} {T : R → Prop} {fail : R} {f : X → Stp X R} {x : X} (Inv : X → Prop) (μ : X → Nat) {k : Nat} (h : ∀ x, Inv x → Wp (Rnd T Inv μ (μ x)) (f x)) (hi : Inv x) (hm : μ x < k) : Wp T (iter fail f k x) := by
  induction k generalizing x with
  | zero => omega
  | succ k ih =>
    have h1 := h x hi
    unfold Sym.iter
    cases hf : f x with
    | again y =>
      rw [hf] at h1
      exact ih h1.1 (Nat.lt_of_lt_of_le h1.2 (by omega))
    | done r =>
      rw [hf] at h1
      exact h1

/-- Behind one round. -/
def Nxt {X R : Type} (T : R → Prop) (fail : R) (f : X → Stp X R) (k : Nat) (s : Stp X R) : Prop :=
  match s with
  | .again y => Wp T (Sym.iter fail f k y)
  | .done r => Wp T r

theorem Wp.unroll {X R : Type} {T : R → Prop} {fail : R} {f : X → Stp X R} {x : X} {k : Nat} (h : Wp (Nxt T fail f k) (f x)) : Wp T (Sym.iter fail f (k + 1) x) := by
  unfold Sym.iter
  cases hf : f x with
  | again y => rw [hf] at h; exact h
  | done r => rw [hf] at h; exact h
theorem Wp.next {X R : Type} {T : R → Prop} {fail : R} {f : X → Stp X R} {y : X} {k : Nat} (h : Wp T (Sym.iter fail f k y)) : Wp (Nxt T fail f k) (.again y) := h
theorem Wp.stop {X R : Type} {T : R → Prop} {fail : R} {f : X → Stp X R} {r : R} {k : Nat} (h : Wp T r) : Wp (Nxt T fail f k) (.done r) := h

theorem Wp.some {Y : Type} {T : Y → Prop} {y : Y} (h : T y) : Wp (fun o : Option Y => ∃ y, o = some y ∧ T y) (some y) := ⟨y, rfl, h⟩
theorem Wp.out {R : Type} {T : R → Prop} {r : R} (h : Wp T r) : T r := h

/-! Whole numbers of a kind. -/
theorem I.of_val {k : IntKind} {n : Int} (h : k.min ≤ n ∧ n ≤ k.max) : (I.of k n).val = n := wrap_eq_of_range h

theorem of_u64 {n : Int} (h : 0 ≤ n ∧ n < 18446744073709551616) : (I.of .u64 n).val = n := I.of_val ⟨by simp [IntKind.min, IntKind.signed]; omega, by simp [IntKind.max, IntKind.bits, IntKind.signed]; omega⟩
theorem of_i64 {n : Int} (h : -9223372036854775808 ≤ n ∧ n < 9223372036854775808) : (I.of .i64 n).val = n := I.of_val ⟨by simp [IntKind.min, IntKind.bits, IntKind.signed]; omega, by simp [IntKind.max, IntKind.bits, IntKind.signed]; omega⟩
theorem of_u8 {n : Int} (h : 0 ≤ n ∧ n < 256) : (I.of .u8 n).val = n := I.of_val ⟨by simp [IntKind.min, IntKind.signed]; omega, by simp [IntKind.max, IntKind.bits, IntKind.signed]; omega⟩

theorem u64_range (x : I .u64) : 0 ≤ x.val ∧ x.val < 18446744073709551616 := I_range x
theorem i64_range (x : I .i64) : -9223372036854775808 ≤ x.val ∧ x.val < 9223372036854775808 := by
  have h := x.ok
  have h1 : (2 ^ IntKind.i64.bits : Int) = 18446744073709551616 := by decide
  have h2 : (2 ^ (IntKind.i64.bits - 1) : Int) = 9223372036854775808 := by decide
  have h3 : IntKind.i64.signed = true := rfl
  simp only [IntKind.wrap, h1, h2, h3, Bool.true_and, decide_eq_true_eq] at h
  split at h <;> omega
theorem u8_range (x : I .u8) : 0 ≤ x.val ∧ x.val < 256 := by
  have h := x.ok
  simp only [IntKind.wrap, IntKind.bits, IntKind.signed, Bool.false_and, Bool.false_eq_true, if_false] at h
  omega

theorem iff_ltb {k : IntKind} {a b : I k} : I.ltb a b = true ↔ a.val < b.val := by simp [I.ltb]
theorem iff_leb {k : IntKind} {a b : I k} : I.leb a b = true ↔ a.val ≤ b.val := by simp [I.leb]
theorem iff_eqb {k : IntKind} {a b : I k} : I.eqb a b = true ↔ a.val = b.val := by simp [I.eqb]
theorem iff_neb {k : IntKind} {a b : I k} : I.neb a b = true ↔ a.val ≠ b.val := by simp [I.neb]
theorem niff_ltb {k : IntKind} {a b : I k} : I.ltb a b = false ↔ b.val ≤ a.val := by simp [I.ltb]
theorem niff_leb {k : IntKind} {a b : I k} : I.leb a b = false ↔ b.val < a.val := by simp [I.leb]
theorem niff_eqb {k : IntKind} {a b : I k} : I.eqb a b = false ↔ a.val ≠ b.val := by simp [I.eqb]
theorem niff_neb {k : IntKind} {a b : I k} : I.neb a b = false ↔ a.val = b.val := by simp [I.neb]
theorem iff_nz {k : IntKind} {a : I k} : I.nz a = true ↔ a.val ≠ 0 := by simp [I.nz]
theorem iff_nn {k : IntKind} {a : I k} : I.nn a = true ↔ 0 ≤ a.val := by simp [I.nn]
theorem iff_inB {k : IntKind} {a : I k} {n : Nat} : inB a n = true ↔ 0 ≤ a.val ∧ a.val < n := by simp [inB]
theorem iff_fits {n : Nat} : fitsLen n = true ↔ n ≤ 1073741824 := by simp [fitsLen]

theorem I.eq_of {k : IntKind} {a b : I k} (h : I.eqb a b = true) : a = b := I.ext' (iff_eqb.1 h)
theorem ofNat_i64 {n : Nat} (h : n < 9223372036854775808) : (I.ofNat .i64 n).val = n := of_i64 ⟨by omega, by omega⟩
theorem add_i64 {a b : I .i64} (h : -9223372036854775808 ≤ a.val + b.val ∧ a.val + b.val < 9223372036854775808) : (I.add a b).val = a.val + b.val := of_i64 h
theorem sub_i64 {a b : I .i64} (h : -9223372036854775808 ≤ a.val - b.val ∧ a.val - b.val < 9223372036854775808) : (I.sub a b).val = a.val - b.val := of_i64 h
theorem mul_i64 {a b : I .i64} (h : -9223372036854775808 ≤ a.val * b.val ∧ a.val * b.val < 9223372036854775808) : (I.mul a b).val = a.val * b.val := of_i64 h
theorem rem_i64 {a b : I .i64} (h : 0 ≤ a.val) (h2 : 0 < b.val) : (I.rem a b).val = a.val % b.val := by
  have ha := i64_range a
  have hb := i64_range b
  have e : a.val.tmod b.val = a.val % b.val := Int.tmod_eq_emod_of_nonneg h
  have h3 := Int.emod_nonneg a.val (b := b.val) (by omega)
  have h4 := Int.emod_lt_of_pos a.val h2
  unfold I.rem
  rw [e]
  exact of_i64 ⟨by omega, by omega⟩
theorem quo_i64 {a b : I .i64} (h : 0 ≤ a.val) (h2 : 0 < b.val) : (I.quo a b).val = a.val / b.val := by
  have ha := i64_range a
  have e : a.val.tdiv b.val = a.val / b.val := Int.tdiv_eq_ediv_of_nonneg h
  have h3 : 0 ≤ a.val / b.val := Int.ediv_nonneg h (by omega)
  have h4 : a.val / b.val ≤ a.val := Int.ediv_le_self _ h
  unfold I.quo
  rw [e]
  exact of_i64 ⟨by omega, by omega⟩
theorem add_u64 {a b : I .u64} (h : a.val + b.val < 18446744073709551616) : (I.add a b).val = a.val + b.val := of_u64 ⟨by have := u64_range a; have := u64_range b; omega, h⟩
theorem sub_u64 {a b : I .u64} (h : b.val ≤ a.val) : (I.sub a b).val = a.val - b.val := of_u64 ⟨by omega, by have := u64_range a; have := u64_range b; omega⟩
theorem rem_u64 {a b : I .u64} (h2 : b.val ≠ 0) : (I.rem a b).val = a.val % b.val := by
  have ha := u64_range a
  have hb := u64_range b
  have e : a.val.tmod b.val = a.val % b.val := Int.tmod_eq_emod_of_nonneg ha.1
  have h3 := Int.emod_nonneg a.val (b := b.val) (by omega)
  have h4 := Int.emod_lt_of_pos a.val (b := b.val) (by omega)
  unfold I.rem
  rw [e]
  exact of_u64 ⟨by omega, by omega⟩
theorem quo_u64 {a b : I .u64} : (I.quo a b).val = a.val / b.val := by
  have ha := u64_range a
  have hb := u64_range b
  have e : a.val.tdiv b.val = a.val / b.val := Int.tdiv_eq_ediv_of_nonneg ha.1
  have h3 : 0 ≤ a.val / b.val := Int.ediv_nonneg ha.1 hb.1
  have h4 : a.val / b.val ≤ a.val := Int.ediv_le_self _ ha.1
  unfold I.quo
  rw [e]
  exact of_u64 ⟨by omega, by omega⟩
theorem nn_u64 (a : I .u64) : I.nn a = true := iff_nn.2 (u64_range a).1
/-- A power of two by a shift of one. -/
theorem shl_one {a : I .u64} (h : a.val < 64) : (I.shl (I.of .u64 1) a).val = 2 ^ a.val.toNat := by
  have ha := u64_range a
  have hm : min a.val.toNat IntKind.u64.bits = a.val.toNat := by
    have : IntKind.u64.bits = 64 := rfl
    omega
  have h1 : (I.of .u64 1).val = 1 := rfl
  unfold I.shl
  rw [hm, h1, Int.one_mul]
  refine of_u64 ⟨Int.le_of_lt (Int.pow_pos (by decide)), ?_⟩
  have h3 : 2 ^ a.val.toNat ≤ 2 ^ 63 := Nat.pow_le_pow_right (by decide) (by omega)
  have h4 : ((2 ^ a.val.toNat : Nat) : Int) = 2 ^ a.val.toNat := by simp
  rw [← h4]
  omega
end Sym

/- Natural numbers by digits of 65536: what the reference's first functions compute. -/
namespace Sym
open Go

abbrev Dg : Type := I .i64

/-- The digits' value. -/
def bv : List Dg → Nat
  | [] => 0
  | d :: l => d.nat + 65536 * bv l

def DigOk (d : Dg) : Prop := 0 ≤ d.val ∧ d.val < 65536
def Digs (l : List Dg) : Prop := ∀ d ∈ l, DigOk d

/-- No zero stands in front. -/
def Lead : List Dg → Prop
  | [] => True
  | [d] => d.val ≠ 0
  | _ :: e :: l => Lead (e :: l)

/-- l is the number n. -/
structure IsB (l : List Dg) (n : Nat) : Prop where
  dig : Digs l
  lead : Lead l
  val : bv l = n

theorem DigOk.nat {d : Dg} (h : DigOk d) : (d.nat : Int) = d.val ∧ d.nat < 65536 := by
  unfold DigOk at h
  unfold I.nat
  omega

theorem digs_cons {d : Dg} {l : List Dg} : Digs (d :: l) ↔ DigOk d ∧ Digs l := by
  unfold Digs
  simp
theorem digs_app {l r : List Dg} : Digs (l ++ r) ↔ Digs l ∧ Digs r := by
  unfold Digs
  simp only [List.mem_append]
  exact ⟨fun h => ⟨fun d hd => h d (.inl hd), fun d hd => h d (.inr hd)⟩, fun h d hd => hd.elim (h.1 d) (h.2 d)⟩
theorem digs_take {l : List Dg} (h : Digs l) (n : Nat) : Digs (l.take n) := fun d hd => h d (List.mem_of_mem_take hd)
theorem digs_drop {l : List Dg} (h : Digs l) (n : Nat) : Digs (l.drop n) := fun d hd => h d (List.mem_of_mem_drop hd)

theorem bv_lt : ∀ {l : List Dg}, Digs l → bv l < 65536 ^ l.length
  | [], _ => by simp [bv]
  | d :: l, h => by
    have h := digs_cons.1 h
    have h1 := h.1.nat.2
    have h2 := bv_lt h.2
    simp only [bv, List.length_cons, Nat.pow_succ]
    omega

theorem lead_cons {d : Dg} {l : List Dg} (h : Lead (d :: l)) : Lead l := by
  cases l with
  | nil => trivial
  | cons e l => exact h

theorem bv_pos : ∀ {l : List Dg}, Digs l → Lead l → l ≠ [] → 0 < bv l
  | [], _, _, h => absurd rfl h
  | [d], hd, hl, _ => by
    have h := (digs_cons.1 hd).1.nat.1
    have : d.val ≠ 0 := hl
    simp only [bv]
    omega
  | d :: e :: l, hd, hl, _ => by
    have := bv_pos (l := e :: l) (digs_cons.1 hd).2 hl (by simp)
    simp only [bv] at *
    omega

theorem isB_nil : IsB [] 0 := ⟨fun _ h => by simp at h, trivial, rfl⟩

theorem dig_ext {d e : Dg} (hd : DigOk d) (he : DigOk e) (h : d.nat = e.nat) : d = e := by
  apply I.ext'
  have := hd.nat.1
  have := he.nat.1
  omega

/-- A number has one list. -/
theorem IsB.unique : ∀ {l r : List Dg} {n : Nat}, IsB l n → IsB r n → l = r
  | [], [], _, _, _ => rfl
  | [], e :: r, n, h1, h2 => by
    have := bv_pos h2.dig h2.lead (by simp)
    have h3 := h1.val
    have h4 := h2.val
    simp only [bv] at h3 h4 this
    omega
  | d :: l, [], n, h1, h2 => by
    have := bv_pos h1.dig h1.lead (by simp)
    have h3 := h1.val
    have h4 := h2.val
    simp only [bv] at h3 h4 this
    omega
  | d :: l, e :: r, n, h1, h2 => by
    have d1 := digs_cons.1 h1.dig
    have d2 := digs_cons.1 h2.dig
    have h3 := h1.val
    have h4 := h2.val
    simp only [bv] at h3 h4
    have := d1.1.nat.2
    have := d2.1.nat.2
    rw [dig_ext d1.1 d2.1 (by omega), IsB.unique (n := bv l) ⟨d1.2, lead_cons h1.lead, rfl⟩ ⟨d2.2, lead_cons h2.lead, by omega⟩]

theorem bv_app : ∀ (l r : List Dg), bv (l ++ r) = bv l + 65536 ^ l.length * bv r
  | [], r => by simp [bv]
  | d :: l, r => by
    simp only [List.cons_append, bv, List.length_cons, bv_app l r, Nat.pow_succ, Nat.mul_add]
    rw [Nat.mul_comm (65536 ^ l.length) 65536, Nat.mul_assoc]
    omega

theorem lead_snoc : ∀ (l : List Dg) (d : Dg), d.val ≠ 0 → Lead (l ++ [d])
  | [], d, h => h
  | [e], d, h => h
  | e :: f :: l, d, h => lead_snoc (f :: l) d h

theorem bv_ge : ∀ {l : List Dg}, Digs l → Lead l → l ≠ [] → 65536 ^ (l.length - 1) ≤ bv l
  | [], _, _, h => absurd rfl h
  | [d], hd, hl, _ => by
    have h := (digs_cons.1 hd).1.nat.1
    have : d.val ≠ 0 := hl
    simp only [bv, List.length_singleton, Nat.sub_self, Nat.pow_zero]
    omega
  | d :: e :: l, hd, hl, _ => by
    have := bv_ge (l := e :: l) (digs_cons.1 hd).2 hl (by simp)
    simp only [List.length_cons, Nat.add_sub_cancel] at this ⊢
    simp only [bv, Nat.pow_succ] at *
    omega

theorem IsB.len {l : List Dg} {n k : Nat} (h : IsB l n) : l.length ≤ k ↔ n < 65536 ^ k := by
  have h1 := bv_lt h.dig
  rw [h.val] at h1
  constructor
  · intro hk
    exact Nat.lt_of_lt_of_le h1 (Nat.pow_le_pow_right (by decide) hk)
  · intro hn
    rcases Nat.lt_or_ge k l.length with hk | hk
    · have h2 := bv_ge h.dig h.lead (by intro e; subst e; simp at hk)
      rw [h.val] at h2
      have h3 : 65536 ^ k ≤ 65536 ^ (l.length - 1) := Nat.pow_le_pow_right (by decide) (by omega)
      omega
    · exact hk

theorem rdL_eq {X : Type} (d : X) : ∀ (l : List X) (i : Nat) (h : i < l.length), rdL d l i = l[i]
  | x :: l, 0, _ => rfl
  | x :: l, i + 1, h => rdL_eq d l i (by simpa using h)

theorem K0_ge (n : Nat) (h : n < 2 ^ 64) : n < K0 := by rw [K0_eq]; exact h

/-- A list of digits without the zeros in front. -/
theorem norm_ok (l : List Dg) (hd : Digs l) (hl : l.length ≤ 1073741824) : ∃ r, pontageref1_norm ((l, ()), ()) = some ((r, ()), ()) ∧ IsB r (bv l) := by
  have key : Wp (fun o => ∃ r, o = some ((r, ()), ()) ∧ IsB r (bv l)) (pontageref1_norm ((l, ()), ())) := by
    have hlen : (I.ofNat .i64 (lenL l)).val = l.length := ofNat_i64 (by show l.length < _; omega)
    have c1 : (I.of .i64 1).val = 1 := rfl
    have c0 : (I.of .i64 0).val = 0 := rfl
    unfold pontageref1_norm
    refine Wp.iter (fun x => x.1.1 = l ∧ 0 ≤ x.1.2.1.val ∧ x.1.2.1.val ≤ (l.length : Int) ∧ bv (l.take x.1.2.1.val.toNat) = bv l) (fun x => x.1.2.1.val.toNat) ?_ ?_ ?_
    · rintro ⟨⟨l', i, ⟨⟩⟩, ⟨⟩⟩ ⟨e1, hi0, hi1, hb⟩
      simp only at e1 hi0 hi1 hb
      subst e1
      have cut : inB' i (lenL l') = true := by
        show (decide (0 ≤ i.val) && decide (i.val ≤ ((l'.length : Nat) : Int))) = true
        simp [hi0, hi1]
      have sub : subL l' 0 (I.nat i) = l'.take i.val.toNat := by simp [subL, I.nat]
      refine Wp.brn (fun h => ?_) (fun h => ?_)
      · have h := iff_ltb.1 h
        simp only [c0] at h
        have hs : (I.sub i (I.of .i64 1)).val = i.val - 1 := by rw [sub_i64 (by omega)]; omega
        have hidx : (I.nat (I.sub i (I.of .i64 1))) = i.val.toNat - 1 := by unfold I.nat; omega
        have hlt : i.val.toNat - 1 < l'.length := by omega
        have hrd : rdL (I.of .i64 0) l' (I.nat (I.sub i (I.of .i64 1))) = l'[i.val.toNat - 1] := by rw [hidx]; exact rdL_eq _ _ _ hlt
        have htk : l'.take i.val.toNat = l'.take (i.val.toNat - 1) ++ [l'[i.val.toNat - 1]] := by
          rw [List.take_append_getElem hlt]
          congr 1
          omega
        refine Wp.brnT (iff_inB.2 ⟨by show 0 ≤ (I.sub i (I.of .i64 1)).val; omega, by show (I.sub i (I.of .i64 1)).val < (l'.length : Int); omega⟩) ?_
        refine Wp.brn (fun h2 => ?_) (fun h2 => ?_)
        · have h2 := iff_eqb.1 h2
          simp only [hrd] at h2
          refine Wp.again ⟨rfl, ?_, ?_, ?_⟩ ?_
          · show 0 ≤ (I.sub i (I.of .i64 1)).val; omega
          · show (I.sub i (I.of .i64 1)).val ≤ _; omega
          · show bv (l'.take (I.sub i (I.of .i64 1)).val.toNat) = _
            have e : (I.sub i (I.of .i64 1)).val.toNat = i.val.toNat - 1 := by omega
            rw [e, ← hb, htk, bv_app]
            have hz : (l'[i.val.toNat - 1]).nat = 0 := by unfold I.nat; rw [h2]; rfl
            simp [bv, hz]
          · show (I.sub i (I.of .i64 1)).val.toNat < _
            simp only; omega
        · have h2 := niff_eqb.1 h2
          simp only [hrd] at h2
          refine Wp.done (Wp.brnT cut ⟨_, rfl, ?_⟩)
          show IsB (subL l' 0 (I.nat i)) _
          rw [sub]
          refine ⟨digs_take hd _, ?_, hb⟩
          rw [htk]
          exact lead_snoc _ _ h2
      · have h := niff_ltb.1 h
        simp only [c0] at h
        refine Wp.done (Wp.brnT cut ⟨_, rfl, ?_⟩)
        show IsB (subL l' 0 (I.nat i)) _
        rw [sub]
        have e : i.val.toNat = 0 := by omega
        rw [e] at hb ⊢
        simp only [List.take_zero] at hb ⊢
        rw [← hb]
        exact isB_nil
    · refine ⟨rfl, ?_, ?_, ?_⟩
      · show 0 ≤ (I.ofNat .i64 (lenL l)).val; omega
      · show (I.ofNat .i64 (lenL l)).val ≤ _; omega
      · show bv (l.take (I.ofNat .i64 (lenL l)).val.toNat) = _
        rw [hlen, Int.toNat_natCast, List.take_length]
    · refine K0_ge _ ?_
      show (I.ofNat .i64 (lenL l)).val.toNat < _
      omega
  exact key.out
end Sym

/- Natural numbers by digits of 65536: from and to 256 bits, comparison. -/
namespace Sym
open Go

theorem setAt_eq {X : Type} : ∀ (l : List X) (i : Nat) (v : X), setAt l i v = l.set i v
  | [], _, _ => rfl
  | _ :: _, 0, _ => rfl
  | x :: l, i + 1, v => by simp [setAt, setAt_eq l i v]

theorem and_mask (k : IntKind) (hk : k.bits = 64) (x : I k) (h : 0 ≤ x.val) (hx : x.val < 18446744073709551616) : ((BitVec.ofInt k.bits x.val &&& BitVec.ofInt k.bits 65535).toNat : Int) = x.val % 65536 := by
  rw [hk, BitVec.toNat_and]
  have h1 : (BitVec.ofInt 64 65535).toNat = 2 ^ 16 - 1 := rfl
  rw [h1, Nat.and_two_pow_sub_one_eq_mod, BitVec.toNat_ofInt]
  omega

theorem and_u64 (x : I .u64) : (I.and x (I.of .u64 65535)).val = x.val % 65536 := by
  have h := u64_range x
  have := and_mask .u64 rfl x h.1 h.2
  have e : (I.of .u64 65535).val = 65535 := rfl
  show (I.of .u64 _).val = _
  rw [e, this]
  exact of_u64 ⟨by omega, by omega⟩

theorem and_i64 (x : I .i64) (h : 0 ≤ x.val) : (I.and x (I.of .i64 65535)).val = x.val % 65536 := by
  have h2 := i64_range x
  have := and_mask .i64 rfl x h (by omega)
  have e : (I.of .i64 65535).val = 65535 := rfl
  show (I.of .i64 _).val = _
  rw [e, this]
  exact of_i64 ⟨by omega, by omega⟩

theorem fdiv_pos (a : Int) (n : Nat) (h : 0 ≤ a) : a.fdiv ((2 : Int) ^ n) = a / (2 : Int) ^ n := by
  have h2 : (0 : Int) ≤ (2 : Int) ^ n := Int.le_of_lt (Int.pow_pos (by decide))
  rw [Int.fdiv_eq_ediv_of_nonneg _ h2]

theorem shr_u64 (x s : I .u64) (hs : s.val < 64) : (I.shr x s).val = x.val / (2 : Int) ^ s.val.toNat := by
  have hx := u64_range x
  have h0 := u64_range s
  have hm : min s.val.toNat IntKind.u64.bits = s.val.toNat := by
    have : IntKind.u64.bits = 64 := rfl
    omega
  unfold I.shr
  rw [hm, fdiv_pos _ _ hx.1]
  have h2 : (0 : Int) < (2 : Int) ^ s.val.toNat := Int.pow_pos (by decide)
  have h3 : 0 ≤ x.val / (2 : Int) ^ s.val.toNat := Int.ediv_nonneg hx.1 (by omega)
  have h4 : x.val / (2 : Int) ^ s.val.toNat ≤ x.val := Int.ediv_le_self _ hx.1
  exact of_u64 ⟨by omega, by omega⟩

theorem shr_i64_16 (x : I .i64) (h : 0 ≤ x.val) : (I.shr x (I.of .u64 16)).val = x.val / 65536 := by
  have hx := i64_range x
  have hm : min (I.of .u64 16).val.toNat IntKind.i64.bits = 16 := rfl
  unfold I.shr
  rw [hm, fdiv_pos _ _ h]
  have e : (2 : Int) ^ 16 = 65536 := by decide
  rw [e]
  exact of_i64 ⟨by omega, by omega⟩

/-- The j-th digit of 256 bits. -/
def digF (a : U) (j : Nat) : Dg := I.conv .i64 (I.and (I.shr (Arr.sel (I.of .u64 0) 4 a (j / 4)) (I.of .u64 (16 * (j % 4) : Nat))) (I.of .u64 65535))

theorem digF_nat (a : U) (j : Nat) : (digF a j).val = (Arr.sel (I.of .u64 0) 4 a (j / 4)).val / (2 : Int) ^ (16 * (j % 4)) % 65536 := by
  have h1 : (I.of .u64 (16 * (j % 4) : Nat)).val = (16 * (j % 4) : Nat) := of_u64 ⟨by omega, by omega⟩
  have h2 := shr_u64 (Arr.sel (I.of .u64 0) 4 a (j / 4)) (I.of .u64 (16 * (j % 4) : Nat)) (by omega)
  rw [h1, Int.toNat_natCast] at h2
  unfold digF
  show (I.of .i64 _).val = _
  rw [and_u64, h2]
  exact of_i64 ⟨by omega, by omega⟩

theorem digF_ok (a : U) (j : Nat) : DigOk (digF a j) := by
  unfold DigOk
  rw [digF_nat]
  omega

theorem limb (x : I .u64) (d0 d1 d2 d3 : Nat) (h0 : (d0 : Int) = x.val / (2 : Int) ^ 0 % 65536) (h1 : (d1 : Int) = x.val / (2 : Int) ^ 16 % 65536) (h2 : (d2 : Int) = x.val / (2 : Int) ^ 32 % 65536) (h3 : (d3 : Int) = x.val / (2 : Int) ^ 48 % 65536) :
    x.nat = d0 + 65536 * d1 + 4294967296 * d2 + 281474976710656 * d3 := by
  have p0 : (2 : Int) ^ 0 = 1 := by decide
  have p1 : (2 : Int) ^ 16 = 65536 := by decide
  have p2 : (2 : Int) ^ 32 = 4294967296 := by decide
  have p3 : (2 : Int) ^ 48 = 281474976710656 := by decide
  rw [p0] at h0
  rw [p1] at h1
  rw [p2] at h2
  rw [p3] at h3
  have hx := u64_range x
  have hn := nat_val x
  omega

theorem comb (a0 a1 a2 a3 d0 d1 d2 d3 d4 d5 d6 d7 d8 d9 d10 d11 d12 d13 d14 d15 : Nat) (v0 : a0 = d0 + 65536 * d1 + 4294967296 * d2 + 281474976710656 * d3) (v1 : a1 = d4 + 65536 * d5 + 4294967296 * d6 + 281474976710656 * d7)
    (v2 : a2 = d8 + 65536 * d9 + 4294967296 * d10 + 281474976710656 * d11) (v3 : a3 = d12 + 65536 * d13 + 4294967296 * d14 + 281474976710656 * d15) :
    d0 + 65536 * (d1 + 65536 * (d2 + 65536 * (d3 + 65536 * (d4 + 65536 * (d5 + 65536 * (d6 + 65536 * (d7 + 65536 * (d8 + 65536 * (d9 + 65536 * (d10 + 65536 * (d11 + 65536 * (d12 + 65536 * (d13 + 65536 * (d14 + 65536 * (d15 + 65536 * 0))))))))))))))) =
      a0 + 18446744073709551616 * (a1 + 18446744073709551616 * (a2 + 18446744073709551616 * a3)) := by
  subst v0 v1 v2 v3
  omega

theorem digs_of_U (a : U) : bv ((List.range 16).map (digF a)) = a.val := by
  obtain ⟨a0, a1, a2, a3, ⟨⟩⟩ := a
  have n : ∀ j, ((digF (a0, a1, a2, a3, ()) j).nat : Int) = (Arr.sel (I.of .u64 0) 4 (a0, a1, a2, a3, ()) (j / 4)).val / (2 : Int) ^ (16 * (j % 4)) % 65536 := fun j => (digF_ok _ j).nat.1.trans (digF_nat _ j)
  exact comb _ _ _ _ _ _ _ _ _ _ _ _ _ _ _ _ _ _ _ _ (limb a0 _ _ _ _ (n 0) (n 1) (n 2) (n 3)) (limb a1 _ _ _ _ (n 4) (n 5) (n 6) (n 7)) (limb a2 _ _ _ _ (n 8) (n 9) (n 10) (n 11)) (limb a3 _ _ _ _ (n 12) (n 13) (n 14) (n 15))

theorem FromUint256_ok (a : U) : ∃ r, pontageref1_FromUint256 ((a, ()), ()) = some ((r, ()), ()) ∧ IsB r a.val := by
  have key : Wp (fun o => ∃ r, o = some ((r, ()), ()) ∧ IsB r a.val) (pontageref1_FromUint256 ((a, ()), ())) := by
    have c16 : (I.of .i64 16).val = 16 := rfl
    have c4 : (I.of .i64 4).val = 4 := rfl
    have c1 : (I.of .i64 1).val = 1 := rfl
    unfold pontageref1_FromUint256
    refine Wp.iter (fun x => 0 ≤ x.1.1.val ∧ x.1.1.val ≤ 16 ∧ x.2.1 = a ∧ x.2.2.1 = (List.range x.1.1.val.toNat).map (digF a) ++ List.replicate (16 - x.1.1.val.toNat) (I.of .i64 0)) (fun x => (16 - x.1.1.val).toNat) ?_ ?_ ?_
    · rintro ⟨⟨i, ⟨⟩⟩, a', out, ⟨⟩⟩ ⟨hi0, hi1, e1, e2⟩
      simp only at hi0 hi1 e1 e2
      subst e1
      refine Wp.brn (fun h => ?_) (fun h => ?_)
      · have h := iff_ltb.1 h
        simp only [c16] at h
        have hq : (I.quo i (I.of .i64 4)).val = i.val / 4 := quo_i64 hi0 (by decide)
        have hr : (I.rem i (I.of .i64 4)).val = i.val % 4 := rem_i64 hi0 (by decide)
        have hlen : out.length = 16 := by rw [e2]; simp; omega
        have hs : (I.add i (I.of .i64 1)).val = i.val + 1 := by rw [add_i64 (by omega)]; omega
        have hm : (I.mul (I.of .i64 16) (I.rem i (I.of .i64 4))).val = 16 * (i.val % 4) := by rw [mul_i64 (by rw [c16, hr]; omega), hr, c16]
        refine Wp.brnT (iff_inB.2 ⟨by show 0 ≤ (I.quo i (I.of .i64 4)).val; omega, by show (I.quo i (I.of .i64 4)).val < ((4 : Nat) : Int); omega⟩) ?_
        refine Wp.brnT (nn_u64 _) ?_
        refine Wp.brnT (iff_inB.2 ⟨hi0, by show i.val < ((out.length : Nat) : Int); omega⟩) ?_
        refine Wp.again ⟨?_, ?_, rfl, ?_⟩ ?_
        · show 0 ≤ (I.add i (I.of .i64 1)).val; omega
        · show (I.add i (I.of .i64 1)).val ≤ 16; omega
        · have ed : I.conv .i64 (I.and (I.shr (Arr.sel (I.of .u64 0) 4 a' (I.nat (I.quo i (I.of .i64 4)))) (I.conv .u64 (I.mul (I.of .i64 16) (I.rem i (I.of .i64 4))))) (I.of .u64 65535)) = digF a' i.val.toNat := by
            unfold digF
            have e1 : I.nat (I.quo i (I.of .i64 4)) = i.val.toNat / 4 := by unfold I.nat; omega
            have e2 : I.conv .u64 (I.mul (I.of .i64 16) (I.rem i (I.of .i64 4))) = I.of .u64 (16 * (i.val.toNat % 4) : Nat) := by
              show I.of .u64 _ = _
              rw [hm]
              congr 1
              omega
            rw [e1, e2]
          show setAt out (I.nat i) _ = (List.range (I.add i (I.of .i64 1)).val.toNat).map (digF a') ++ List.replicate (16 - (I.add i (I.of .i64 1)).val.toNat) (I.of .i64 0)
          have e3 : (I.add i (I.of .i64 1)).val.toNat = i.val.toNat + 1 := by omega
          have e4 : I.nat i = ((List.range i.val.toNat).map (digF a')).length := by simp [I.nat]
          have e5 : 16 - i.val.toNat = (16 - (i.val.toNat + 1)) + 1 := by omega
          rw [setAt_eq, e2, e3, e4, List.set_append_right _ _ (Nat.le_refl _), Nat.sub_self, e5, List.replicate_succ, List.set_cons_zero, List.range_succ, List.map_append, List.map_cons, List.map_nil, List.append_assoc]
          show _ ++ _ = _ ++ ([_] ++ _)
          rw [← ed]
          rfl
        · show (16 - (I.add i (I.of .i64 1)).val).toNat < _
          simp only; omega
      · have h := niff_ltb.1 h
        simp only [c16] at h
        have hi : i.val.toNat = 16 := by omega
        rw [hi] at e2
        simp only [Nat.sub_self, List.replicate_zero, List.append_nil] at e2
        subst e2
        have hd : Digs ((List.range 16).map (digF a')) := by
          intro d hd
          rw [List.mem_map] at hd
          obtain ⟨j, _, rfl⟩ := hd
          exact digF_ok a' j
        obtain ⟨r, hr, hB⟩ := norm_ok _ hd (by simp)
        exact Wp.done (Wp.optF hr ⟨r, rfl, hB.dig, hB.lead, hB.val.trans (digs_of_U a')⟩)
    · exact ⟨by show 0 ≤ (I.of .i64 0).val; decide, by show (I.of .i64 0).val ≤ 16; decide, rfl, rfl⟩
    · exact K0_ge _ (by show (16 - (I.of .i64 0).val).toNat < _; decide)
  exact key.out
end Sym

/- Natural numbers by digits of 65536: to 256 bits, comparison. -/
namespace Sym
open Go

theorem shl_u64 (x s : I .u64) (hs : s.val < 64) (h : x.val * (2 : Int) ^ s.val.toNat < 18446744073709551616) : (I.shl x s).val = x.val * (2 : Int) ^ s.val.toNat := by
  have hx := u64_range x
  have h0 := u64_range s
  have hm : min s.val.toNat IntKind.u64.bits = s.val.toNat := by
    have : IntKind.u64.bits = 64 := rfl
    omega
  have h2 : (0 : Int) ≤ (2 : Int) ^ s.val.toNat := Int.le_of_lt (Int.pow_pos (by decide))
  unfold I.shl
  rw [hm]
  exact of_u64 ⟨Int.mul_nonneg hx.1 h2, h⟩

theorem add_shl (x : I .u64) (d r S : Nat) (hd : d < 65536) (hr : r < 4) (hS : (S : Int) = (2 : Int) ^ (16 * r)) (hx : x.nat < S) (hl : S ≤ 281474976710656) : (I.add x (I.shl (I.of .u64 d) (I.of .u64 (16 * r : Nat)))).nat = x.nat + S * d := by
  have h1 : (I.of .u64 (16 * r : Nat)).val = (16 * r : Nat) := of_u64 ⟨by omega, by omega⟩
  have h2 : (I.of .u64 (d : Int)).val = d := of_u64 ⟨by omega, by omega⟩
  have hv := nat_val x
  have hdS : (d : Int) * S = ((S * d : Nat) : Int) := by rw [Nat.mul_comm, Int.natCast_mul]
  have hle : S * d ≤ 281474976710656 * 65535 := Nat.mul_le_mul hl (by omega)
  have h3 : (I.shl (I.of .u64 d) (I.of .u64 (16 * r : Nat))).val = ((S * d : Nat) : Int) := by
    rw [shl_u64 _ _ (by omega) (by rw [h1, h2, Int.toNat_natCast, ← hS, hdS]; omega), h1, h2, Int.toNat_natCast, ← hS, hdS]
  have h4 := add_u64 (a := x) (b := I.shl (I.of .u64 d) (I.of .u64 (16 * r : Nat))) (by rw [h3]; omega)
  rw [h3] at h4
  have h5 := nat_val (I.add x (I.shl (I.of .u64 d) (I.of .u64 (16 * r : Nat))))
  omega

theorem toU_step (u : U) (d : Nat) (j : Nat) (hj : j < 16) (hu : u.val < 65536 ^ j) (hd : d < 65536) :
    U.val (Arr.upd 4 u (j / 4) (I.add (Arr.sel (I.of .u64 0) 4 u (j / 4)) (I.shl (I.of .u64 d) (I.of .u64 (16 * (j % 4) : Nat))))) = u.val + 65536 ^ j * d := by
  obtain ⟨u0, u1, u2, u3, ⟨⟩⟩ := u
  have n0 := nat_lt u0
  have n1 := nat_lt u1
  have n2 := nat_lt u2
  have n3 := nat_lt u3
  unfold U.val at hu
  simp only at hu
  have hc : j = 0 ∨ j = 1 ∨ j = 2 ∨ j = 3 ∨ j = 4 ∨ j = 5 ∨ j = 6 ∨ j = 7 ∨ j = 8 ∨ j = 9 ∨ j = 10 ∨ j = 11 ∨ j = 12 ∨ j = 13 ∨ j = 14 ∨ j = 15 := by omega
  rcases hc with rfl | rfl | rfl | rfl | rfl | rfl | rfl | rfl | rfl | rfl | rfl | rfl | rfl | rfl | rfl | rfl
  · have p : 65536 ^ 0 = 1 := by decide
    rw [p] at hu ⊢
    have k := add_shl u0 d 0 1 hd (by decide) (by decide) (by omega) (by decide)
    show U.val ((I.add u0 (I.shl (I.of .u64 d) (I.of .u64 (16 * 0 : Nat)))), u1, u2, u3, ()) = _
    unfold U.val
    simp only
    omega
  · have p : 65536 ^ 1 = 65536 := by decide
    rw [p] at hu ⊢
    have k := add_shl u0 d 1 65536 hd (by decide) (by decide) (by omega) (by decide)
    show U.val ((I.add u0 (I.shl (I.of .u64 d) (I.of .u64 (16 * 1 : Nat)))), u1, u2, u3, ()) = _
    unfold U.val
    simp only
    omega
  · have p : 65536 ^ 2 = 4294967296 := by decide
    rw [p] at hu ⊢
    have k := add_shl u0 d 2 4294967296 hd (by decide) (by decide) (by omega) (by decide)
    show U.val ((I.add u0 (I.shl (I.of .u64 d) (I.of .u64 (16 * 2 : Nat)))), u1, u2, u3, ()) = _
    unfold U.val
    simp only
    omega
  · have p : 65536 ^ 3 = 281474976710656 := by decide
    rw [p] at hu ⊢
    have k := add_shl u0 d 3 281474976710656 hd (by decide) (by decide) (by omega) (by decide)
    show U.val ((I.add u0 (I.shl (I.of .u64 d) (I.of .u64 (16 * 3 : Nat)))), u1, u2, u3, ()) = _
    unfold U.val
    simp only
    omega
  · have p : 65536 ^ 4 = 18446744073709551616 := by decide
    rw [p] at hu ⊢
    have k := add_shl u1 d 0 1 hd (by decide) (by decide) (by omega) (by decide)
    show U.val (u0, (I.add u1 (I.shl (I.of .u64 d) (I.of .u64 (16 * 0 : Nat)))), u2, u3, ()) = _
    unfold U.val
    simp only
    omega
  · have p : 65536 ^ 5 = 1208925819614629174706176 := by decide
    rw [p] at hu ⊢
    have k := add_shl u1 d 1 65536 hd (by decide) (by decide) (by omega) (by decide)
    show U.val (u0, (I.add u1 (I.shl (I.of .u64 d) (I.of .u64 (16 * 1 : Nat)))), u2, u3, ()) = _
    unfold U.val
    simp only
    omega
  · have p : 65536 ^ 6 = 79228162514264337593543950336 := by decide
    rw [p] at hu ⊢
    have k := add_shl u1 d 2 4294967296 hd (by decide) (by decide) (by omega) (by decide)
    show U.val (u0, (I.add u1 (I.shl (I.of .u64 d) (I.of .u64 (16 * 2 : Nat)))), u2, u3, ()) = _
    unfold U.val
    simp only
    omega
  · have p : 65536 ^ 7 = 5192296858534827628530496329220096 := by decide
    rw [p] at hu ⊢
    have k := add_shl u1 d 3 281474976710656 hd (by decide) (by decide) (by omega) (by decide)
    show U.val (u0, (I.add u1 (I.shl (I.of .u64 d) (I.of .u64 (16 * 3 : Nat)))), u2, u3, ()) = _
    unfold U.val
    simp only
    omega
  · have p : 65536 ^ 8 = 340282366920938463463374607431768211456 := by decide
    rw [p] at hu ⊢
    have k := add_shl u2 d 0 1 hd (by decide) (by decide) (by omega) (by decide)
    show U.val (u0, u1, (I.add u2 (I.shl (I.of .u64 d) (I.of .u64 (16 * 0 : Nat)))), u3, ()) = _
    unfold U.val
    simp only
    omega
  · have p : 65536 ^ 9 = 22300745198530623141535718272648361505980416 := by decide
    rw [p] at hu ⊢
    have k := add_shl u2 d 1 65536 hd (by decide) (by decide) (by omega) (by decide)
    show U.val (u0, u1, (I.add u2 (I.shl (I.of .u64 d) (I.of .u64 (16 * 1 : Nat)))), u3, ()) = _
    unfold U.val
    simp only
    omega
  · have p : 65536 ^ 10 = 1461501637330902918203684832716283019655932542976 := by decide
    rw [p] at hu ⊢
    have k := add_shl u2 d 2 4294967296 hd (by decide) (by decide) (by omega) (by decide)
    show U.val (u0, u1, (I.add u2 (I.shl (I.of .u64 d) (I.of .u64 (16 * 2 : Nat)))), u3, ()) = _
    unfold U.val
    simp only
    omega
  · have p : 65536 ^ 11 = 95780971304118053647396689196894323976171195136475136 := by decide
    rw [p] at hu ⊢
    have k := add_shl u2 d 3 281474976710656 hd (by decide) (by decide) (by omega) (by decide)
    show U.val (u0, u1, (I.add u2 (I.shl (I.of .u64 d) (I.of .u64 (16 * 3 : Nat)))), u3, ()) = _
    unfold U.val
    simp only
    omega
  · have p : 65536 ^ 12 = 6277101735386680763835789423207666416102355444464034512896 := by decide
    rw [p] at hu ⊢
    have k := add_shl u3 d 0 1 hd (by decide) (by decide) (by omega) (by decide)
    show U.val (u0, u1, u2, (I.add u3 (I.shl (I.of .u64 d) (I.of .u64 (16 * 0 : Nat)))), ()) = _
    unfold U.val
    simp only
    omega
  · have p : 65536 ^ 13 = 411376139330301510538742295639337626245683966408394965837152256 := by decide
    rw [p] at hu ⊢
    have k := add_shl u3 d 1 65536 hd (by decide) (by decide) (by omega) (by decide)
    show U.val (u0, u1, u2, (I.add u3 (I.shl (I.of .u64 d) (I.of .u64 (16 * 1 : Nat)))), ()) = _
    unfold U.val
    simp only
    omega
  · have p : 65536 ^ 14 = 26959946667150639794667015087019630673637144422540572481103610249216 := by decide
    rw [p] at hu ⊢
    have k := add_shl u3 d 2 4294967296 hd (by decide) (by decide) (by omega) (by decide)
    show U.val (u0, u1, u2, (I.add u3 (I.shl (I.of .u64 d) (I.of .u64 (16 * 2 : Nat)))), ()) = _
    unfold U.val
    simp only
    omega
  · have p : 65536 ^ 15 = 1766847064778384329583297500742918515827483896875618958121606201292619776 := by decide
    rw [p] at hu ⊢
    have k := add_shl u3 d 3 281474976710656 hd (by decide) (by decide) (by omega) (by decide)
    show U.val (u0, u1, u2, (I.add u3 (I.shl (I.of .u64 d) (I.of .u64 (16 * 3 : Nat)))), ()) = _
    unfold U.val
    simp only
    omega

theorem bv_take_succ {l : List Dg} {i : Nat} (h : i < l.length) : bv (l.take (i + 1)) = bv (l.take i) + 65536 ^ i * (l[i]).nat := by
  rw [← List.take_append_getElem h, bv_app]
  have e : (l.take i).length = i := by simp; omega
  simp [bv, e]

theorem ToUint256_ok {l : List Dg} {n : Nat} (hl : IsB l n) (hn : n < U.top) : pontageref1_ToUint256 ((l, ()), ()) = some ((U.of n, ()), ()) := by
  have ht : U.top = 65536 ^ 16 := by decide
  have hlen : l.length ≤ 16 := hl.len.2 (by rw [← ht]; exact hn)
  have c16 : (I.of .i64 16).val = 16 := rfl
  have c4 : (I.of .i64 4).val = 4 := rfl
  have c1 : (I.of .i64 1).val = 1 := rfl
  have hol : (I.ofNat .i64 (lenL l)).val = l.length := ofNat_i64 (by show l.length < _; omega)
  have key : Wp (fun o => o = some ((U.of n, ()), ())) (pontageref1_ToUint256 ((l, ()), ())) := by
    unfold pontageref1_ToUint256
    refine Wp.iter (fun x => x.1.1 = l ∧ 0 ≤ x.1.2.1.val ∧ x.1.2.1.val ≤ (l.length : Int) ∧ U.val x.2.2.1 = bv (l.take x.1.2.1.val.toNat)) (fun x => ((l.length : Int) - x.1.2.1.val).toNat) ?_ ?_ ?_
    · rintro ⟨⟨l', i, ⟨⟩⟩, r0, u, ⟨⟩⟩ ⟨e1, hi0, hi1, hu⟩
      simp only at e1 hi0 hi1 hu
      subst e1
      have fin : i.val.toNat = l'.length → u = U.of n := by
        intro e
        rw [e, List.take_length, hl.val] at hu
        rw [← hu]
        exact (U.of_val u).symm
      refine Wp.brn (fun h => ?_) (fun h => ?_)
      · have h := iff_ltb.1 h
        simp only [hol] at h
        have hlt : i.val.toNat < l'.length := by omega
        refine Wp.brnT (iff_ltb.2 (by show i.val < (I.of .i64 16).val; omega)) ?_
        have hq : (I.quo i (I.of .i64 4)).val = i.val / 4 := quo_i64 hi0 (by decide)
        have hr : (I.rem i (I.of .i64 4)).val = i.val % 4 := rem_i64 hi0 (by decide)
        have hs : (I.add i (I.of .i64 1)).val = i.val + 1 := by rw [add_i64 (by omega)]; omega
        have hm : (I.mul (I.of .i64 16) (I.rem i (I.of .i64 4))).val = 16 * (i.val % 4) := by rw [mul_i64 (by rw [c16, hr]; omega), hr, c16]
        have hin : inB (I.quo i (I.of .i64 4)) 4 = true := iff_inB.2 ⟨by omega, by omega⟩
        refine Wp.brnT hin ?_
        refine Wp.brnT (iff_inB.2 ⟨hi0, by show i.val < ((l'.length : Nat) : Int); omega⟩) ?_
        refine Wp.brnT (nn_u64 _) ?_
        refine Wp.brnT hin ?_
        have hdig : DigOk l'[i.val.toNat] := hl.dig _ (List.getElem_mem hlt)
        have hrd : rdL (I.of .i64 0) l' (I.nat i) = l'[i.val.toNat] := rdL_eq _ _ _ hlt
        have e1 : I.nat (I.quo i (I.of .i64 4)) = i.val.toNat / 4 := by unfold I.nat; omega
        have e2 : I.conv .u64 (I.mul (I.of .i64 16) (I.rem i (I.of .i64 4))) = I.of .u64 (16 * (i.val.toNat % 4) : Nat) := by
          show I.of .u64 _ = _
          rw [hm]
          congr 1
          omega
        have e3 : I.conv .u64 (rdL (I.of .i64 0) l' (I.nat i)) = I.of .u64 ((l'[i.val.toNat]).nat : Int) := by
          show I.of .u64 _ = _
          rw [hrd, hdig.nat.1]
        have hub : U.val u < 65536 ^ i.val.toNat := by
          rw [hu]
          have := bv_lt (digs_take hl.dig i.val.toNat)
          rw [List.length_take] at this
          rwa [Nat.min_eq_left (by omega)] at this
        have st := toU_step u (l'[i.val.toNat]).nat i.val.toNat (by omega) hub hdig.nat.2
        refine Wp.again ⟨rfl, ?_, ?_, ?_⟩ ?_
        · show 0 ≤ (I.add i (I.of .i64 1)).val; omega
        · show (I.add i (I.of .i64 1)).val ≤ _; omega
        · show U.val (Arr.upd 4 u (I.nat (I.quo i (I.of .i64 4))) (I.add (Arr.sel (I.of .u64 0) 4 u (I.nat (I.quo i (I.of .i64 4)))) (I.shl (I.conv .u64 (rdL (I.of .i64 0) l' (I.nat i))) (I.conv .u64 (I.mul (I.of .i64 16) (I.rem i (I.of .i64 4))))))) = bv (l'.take (I.add i (I.of .i64 1)).val.toNat)
          have e4 : (I.add i (I.of .i64 1)).val.toNat = i.val.toNat + 1 := by omega
          rw [e1, e2, e3, e4, st, bv_take_succ hlt, ← hu]
        · show ((l'.length : Int) - (I.add i (I.of .i64 1)).val).toNat < _
          simp only; omega
      · have h := niff_ltb.1 h
        simp only [hol] at h
        have := fin (by omega)
        subst this
        exact Wp.done rfl
    · refine ⟨rfl, by show 0 ≤ (I.of .i64 0).val; decide, by show (I.of .i64 0).val ≤ (l.length : Int); have : (I.of .i64 0).val = 0 := rfl; omega, ?_⟩
      show U.val _ = bv (l.take (I.of .i64 0).val.toNat)
      rfl
    · exact K0_ge _ (by show ((l.length : Int) - (I.of .i64 0).val).toNat < _; have : (I.of .i64 0).val = 0 := rfl; omega)
  exact key.out

def errS (n : Nat) : U × I .i64 := if n < U.top then (U.of n, I.of .i64 0) else (U.of 0, I.of .i64 4)

theorem Fits_ok {l : List Dg} {n : Nat} (hl : IsB l n) (hlen : l.length < 9223372036854775808) : pontageref1_Fits ((l, ()), ()) = some ((decide (n < U.top), ()), ()) := by
  have ht : U.top = 65536 ^ 16 := by decide
  have h := hl.len (k := 16)
  have hol : (I.ofNat .i64 (lenL l)).val = l.length := ofNat_i64 hlen
  have c16 : (I.of .i64 16).val = 16 := rfl
  have e : I.leb (I.ofNat .i64 (lenL l)) (I.of .i64 16) = decide (n < U.top) := by
    unfold I.leb
    rw [hol, c16, ht]
    by_cases hc : l.length ≤ 16
    · have := h.1 hc
      simp [this]; omega
    · have : ¬ n < 65536 ^ 16 := fun hh => hc (h.2 hh)
      simp [this]; omega
  refine Wp.out (T := fun o => o = _) ?_
  unfold pontageref1_Fits
  show some ((I.leb (I.ofNat .i64 (lenL l)) (I.of .i64 16), ()), ()) = _
  rw [e]

theorem Checked_ok {l : List Dg} {n : Nat} (hl : IsB l n) (hlen : l.length < 9223372036854775808) : pontageref1_Checked ((l, ()), ()) = some (((errS n).1, (errS n).2, ()), ()) := by
  refine Wp.out (T := fun o => o = _) ?_
  unfold pontageref1_Checked errS
  refine Wp.optF (Fits_ok hl hlen) ?_
  by_cases h : n < U.top
  · refine Wp.brnF (by show (!decide (n < U.top)) = false; simp [h]) ?_
    refine Wp.optF (ToUint256_ok hl h) ?_
    show _ = _
    rw [if_pos h]
    rfl
  · refine Wp.brnT (by show (!decide (n < U.top)) = true; simp [h]) ?_
    show _ = _
    rw [if_neg h]
    rfl

theorem Checked_ok' {l : List Dg} {n : Nat} (hl : IsB l n) (hlen : l.length ≤ 1000000) : pontageref1_Checked ((l, ()), ()) = some (((errS n).1, (errS n).2, ()), ()) := Checked_ok hl (by omega)

def u64U (x : I .u64) : U := (x, I.of .u64 0, I.of .u64 0, I.of .u64 0, ())

theorem u64U_val (x : I .u64) : (u64U x).val = x.nat := by
  unfold u64U U.val
  have : (I.of .u64 0).nat = 0 := rfl
  simp only [this]
  omega

theorem FromUint64_ok (x : I .u64) : ∃ r, pontageref1_FromUint64 ((x, ()), ()) = some ((r, ()), ()) ∧ IsB r x.nat := by
  obtain ⟨r, hr, hB⟩ := FromUint256_ok (u64U x)
  rw [u64U_val] at hB
  refine ⟨r, ?_, hB⟩
  refine Wp.out (T := fun o => o = _) ?_
  unfold pontageref1_FromUint64
  exact Wp.optF hr rfl
end Sym

/- Natural numbers by digits of 65536: sums, differences, comparison. -/
namespace Sym
open Go

theorem rdL_out {X : Type} (d : X) : ∀ (l : List X) (i : Nat), l.length ≤ i → rdL d l i = d
  | [], _, _ => rfl
  | x :: l, 0, h => by simp at h
  | x :: l, i + 1, h => rdL_out d l i (by simpa using h)

abbrev rd0 (l : List Dg) (i : Nat) : Dg := rdL (I.of .i64 0) l i

theorem digOk0 : DigOk (I.of .i64 0) := by unfold DigOk; decide

theorem rd0_ok {l : List Dg} (h : Digs l) (i : Nat) : DigOk (rd0 l i) := by
  rcases Nat.lt_or_ge i l.length with hi | hi
  · rw [rd0, rdL_eq _ _ _ hi]; exact h _ (List.getElem_mem hi)
  · rw [rd0, rdL_out _ _ _ hi]; exact digOk0

theorem rd0_zero {l : List Dg} {i : Nat} (h : l.length ≤ i) : (rd0 l i).nat = 0 := by rw [rd0, rdL_out _ _ _ h]; rfl

theorem bv_drop : ∀ (l : List Dg) (i : Nat), bv (l.drop i) = (rd0 l i).nat + 65536 * bv (l.drop (i + 1))
  | [], i => by simp [bv, rd0, rdL]; rfl
  | x :: l, 0 => by simp [bv, rd0, rdL]
  | x :: l, i + 1 => by simpa [rd0, rdL] using bv_drop l i

theorem bv_take1 (l : List Dg) (i : Nat) : bv (l.take (i + 1)) = bv (l.take i) + 65536 ^ i * (rd0 l i).nat := by
  rcases Nat.lt_or_ge i l.length with hi | hi
  · rw [bv_take_succ hi, rd0, rdL_eq _ _ _ hi]
  · rw [rd0_zero hi, List.take_of_length_le (by omega), List.take_of_length_le hi]; simp

theorem lead_last : ∀ {l : List Dg}, Lead l → ∀ (i : Nat), i + 1 = l.length → (rd0 l i).val ≠ 0
  | [], _, i, h => by simp at h
  | [d], h, i, hi => by
    have : i = 0 := by simpa using hi
    subst this
    exact h
  | d :: e :: l, h, 0, hi => by simp at hi
  | d :: e :: l, h, i + 1, hi => lead_last (l := e :: l) h i (by simpa using hi)

structure AddInv (a b : List Dg) (over i : I .i64) (out : List Dg) : Prop where
  o0 : 0 ≤ over.val
  o1 : over.val ≤ 1
  i0 : 0 ≤ i.val
  i1 : i.val ≤ max a.length b.length ∨ (over.val = 0 ∧ i.val = max a.length b.length + 1)
  len : (out.length : Int) = i.val
  dig : Digs out
  sum : bv out + 65536 ^ i.val.toNat * (over.nat + bv (a.drop i.val.toNat) + bv (b.drop i.val.toNat)) = bv a + bv b
  lead : over.val = 0 → (a.length : Int) ≤ i.val → (b.length : Int) ≤ i.val → Lead out

theorem add_step {a b : List Dg} {over i s : I .i64} {out : List Dg} (ha : Digs a) (hb : Digs b) (la : Lead a) (lb : Lead b) (hal : a.length ≤ 1000000) (hbl : b.length ≤ 1000000) (h : AddInv a b over i out)
    (hc : i.val < a.length ∨ i.val < b.length ∨ 0 < over.val) (hs : s.val = over.val + (rd0 a i.val.toNat).val + (rd0 b i.val.toNat).val) :
    AddInv a b (I.shr s (I.of .u64 16)) (I.add i (I.of .i64 1)) (appL out [I.and s (I.of .i64 65535)]) := by
  have c1 : (I.of .i64 1).val = 1 := rfl
  have da := rd0_ok ha i.val.toNat
  have db := rd0_ok hb i.val.toNat
  have da2 := da.nat
  have db2 := db.nat
  unfold DigOk at da db
  have ho0 := h.o0
  have ho1 := h.o1
  have hi0 := h.i0
  have hi1 := h.i1
  have hsh := shr_i64_16 s (by omega)
  have han := and_i64 s (by omega)
  have hi : (I.add i (I.of .i64 1)).val = i.val + 1 := by rw [add_i64 (by omega)]; omega
  have hin : (I.add i (I.of .i64 1)).val.toNat = i.val.toNat + 1 := by omega
  have hout : out.length = i.val.toNat := by have := h.len; omega
  refine ⟨by omega, by omega, by omega, ?_, ?_, ?_, ?_, ?_⟩
  · rcases hi1 with hi1 | hi1
    · rcases Int.lt_or_le i.val (max a.length b.length) with hlt | hge
      · left; omega
      · right
        have z1 := rd0_zero (l := a) (i := i.val.toNat) (by omega)
        have z2 := rd0_zero (l := b) (i := i.val.toNat) (by omega)
        omega
    · exfalso; omega
  · show ((appL out [_]).length : Int) = _
    simp only [appL, List.length_append, List.length_singleton]
    have := h.len
    omega
  · exact digs_app.2 ⟨h.dig, digs_cons.2 ⟨by unfold DigOk; omega, fun _ h => by simp at h⟩⟩
  · have hsum := h.sum
    rw [bv_drop a, bv_drop b] at hsum
    rw [hin]
    have hn1 : (I.and s (I.of .i64 65535)).nat + 65536 * (I.shr s (I.of .u64 16)).nat = over.nat + (rd0 a i.val.toNat).nat + (rd0 b i.val.toNat).nat := by
      unfold I.nat at *
      omega
    have e : over.nat + ((rd0 a i.val.toNat).nat + 65536 * bv (a.drop (i.val.toNat + 1))) + ((rd0 b i.val.toNat).nat + 65536 * bv (b.drop (i.val.toNat + 1))) =
        (I.and s (I.of .i64 65535)).nat + 65536 * ((I.shr s (I.of .u64 16)).nat + bv (a.drop (i.val.toNat + 1)) + bv (b.drop (i.val.toNat + 1))) := by omega
    rw [e, Nat.mul_add, ← Nat.mul_assoc] at hsum
    rw [← hsum, appL, bv_app, hout, Nat.pow_succ]
    simp only [bv, Nat.mul_zero, Nat.add_zero]
    omega
  · intro hz h1 h2
    refine lead_snoc _ _ ?_
    intro hz2
    have hs0 : s.val = 0 := by omega
    rcases hc with hc | hc | hc
    · have := lead_last la i.val.toNat (by omega)
      omega
    · have := lead_last lb i.val.toNat (by omega)
      omega
    · omega

theorem Add_ok {a b : List Dg} {m n : Nat} (ha : IsB a m) (hb : IsB b n) (hal : a.length ≤ 1000000) (hbl : b.length ≤ 1000000) : ∃ r, pontageref1_Add ((a, b, ()), ()) = some ((r, ()), ()) ∧ IsB r (m + n) := by
  have hol : (I.ofNat .i64 (lenL a)).val = a.length := ofNat_i64 (by show a.length < _; omega)
  have hol2 : (I.ofNat .i64 (lenL b)).val = b.length := ofNat_i64 (by show b.length < _; omega)
  have c0 : (I.of .i64 0).val = 0 := rfl
  have key : Wp (fun o => ∃ r, o = some ((r, ()), ()) ∧ IsB r (m + n)) (pontageref1_Add ((a, b, ()), ())) := by
    unfold pontageref1_Add
    refine Wp.iter (fun x => x.1.1 = a ∧ x.1.2.1 = b ∧ AddInv a b x.1.2.2.1 x.1.2.2.2.1 x.2.1) (fun x => ((max a.length b.length : Int) + 2 - x.1.2.2.2.1.val).toNat) ?_ ?_ ?_
    · rintro ⟨⟨a', b', over, i, ⟨⟩⟩, out, ⟨⟩⟩ ⟨e1, e2, hI⟩
      simp only at e1 e2 hI
      subst e1 e2
      have hi0 := hI.i0
      have hi1 := hI.i1
      have ho0 := hI.o0
      have ho1 := hI.o1
      have again : ∀ (s : I .i64), (i.val < a'.length ∨ i.val < b'.length ∨ 0 < over.val) → s.val = over.val + (rd0 a' i.val.toNat).val + (rd0 b' i.val.toNat).val →
          AddInv a' b' (I.shr s (I.of .u64 16)) (I.add i (I.of .i64 1)) (appL out [I.and s (I.of .i64 65535)]) ∧ ((max a'.length b'.length : Int) + 2 - (I.add i (I.of .i64 1)).val).toNat < ((max a'.length b'.length : Int) + 2 - i.val).toNat := by
        intro s hc hs
        refine ⟨add_step ha.dig hb.dig ha.lead hb.lead hal hbl hI hc hs, ?_⟩
        have c1 : (I.of .i64 1).val = 1 := rfl
        have hi : (I.add i (I.of .i64 1)).val = i.val + 1 := by rw [add_i64 (by omega)]; omega
        omega
      have fits : fitsLen (lenL (appL out [I.of .i64 0])) = true := iff_fits.2 (by show (appL out [_]).length ≤ _; rw [appL, List.length_append, List.length_singleton]; have := hI.len; omega)
      have fits' : ∀ d : Dg, fitsLen (lenL (appL out [d])) = true := fun d => iff_fits.2 (by show (appL out [_]).length ≤ _; rw [appL, List.length_append, List.length_singleton]; have := hI.len; omega)
      refine Wp.jn (fun x => x.1.1 = a' ∧ x.1.2.1 = b' ∧ x.1.2.2.1 = over ∧ x.1.2.2.2.1 = i ∧ x.2.1 = out ∧ (i.val < a'.length ∨ i.val < b'.length ∨ 0 < over.val)) ?_ ?_
      · rintro ⟨⟨a1, b1, over1, i1, ⟨⟩⟩, out1, ⟨⟩⟩ ⟨e1, e2, e3, e4, e5, hc⟩
        simp only at e1 e2 e3 e4 e5
        subst e1 e2 e3 e4 e5
        have ra := rd0_ok ha.dig i1.val.toNat
        have rb := rd0_ok hb.dig i1.val.toNat
        unfold DigOk at ra rb
        refine Wp.jn (fun x => x.1.1 = a1 ∧ x.1.2.1 = b1 ∧ x.1.2.2.1.val = over1.val + (rd0 a1 i1.val.toNat).val ∧ x.1.2.2.2.1 = i1 ∧ x.2.1 = out1) ?_ ?_
        · rintro ⟨⟨a2, b2, over2, i2, ⟨⟩⟩, out2, ⟨⟩⟩ ⟨e1, e2, e3, e4, e5⟩
          simp only at e1 e2 e3 e4 e5
          subst e1 e2 e4 e5
          refine Wp.brn (fun h => ?_) (fun h => ?_)
          · have h := iff_ltb.1 h
            simp only [hol2] at h
            refine Wp.brnT (iff_inB.2 ⟨hi0, by show i2.val < ((b2.length : Nat) : Int); omega⟩) ?_
            have hs : (I.add over2 (rd0 b2 i2.val.toNat)).val = over1.val + (rd0 a2 i2.val.toNat).val + (rd0 b2 i2.val.toNat).val := by rw [add_i64 (by omega)]; omega
            have := again _ hc hs
            exact Wp.brnT (fits' _) (Wp.again ⟨rfl, rfl, this.1⟩ this.2)
          · have h := niff_ltb.1 h
            simp only [hol2] at h
            have hz := rd0_zero (l := b2) (i := i2.val.toNat) (by omega)
            have hz2 : (rd0 b2 i2.val.toNat).val = 0 := by unfold I.nat at hz; omega
            have := again over2 hc (by omega)
            exact Wp.brnT (fits' _) (Wp.again ⟨rfl, rfl, this.1⟩ this.2)
        · intro j2 hj2
          refine Wp.brn (fun h => ?_) (fun h => ?_)
          · have h := iff_ltb.1 h
            simp only [hol] at h
            refine Wp.brnT (iff_inB.2 ⟨hi0, by show i1.val < ((a1.length : Nat) : Int); omega⟩) ?_
            exact hj2 _ ⟨rfl, rfl, add_i64 (by show _ ≤ over1.val + (rd0 a1 i1.val.toNat).val ∧ over1.val + (rd0 a1 i1.val.toNat).val < _; omega), rfl, rfl⟩
          · have h := niff_ltb.1 h
            simp only [hol] at h
            have hz := rd0_zero (l := a1) (i := i1.val.toNat) (by omega)
            have hz2 : (rd0 a1 i1.val.toNat).val = 0 := by unfold I.nat at hz; omega
            exact hj2 _ ⟨rfl, rfl, by show over1.val = _; omega, rfl, rfl⟩
      · intro j1 hj1
        refine Wp.brn (fun h => ?_) (fun h => ?_)
        · have h := iff_ltb.1 h
          simp only [hol] at h
          exact hj1 _ ⟨rfl, rfl, rfl, rfl, rfl, .inl h⟩
        · have h := niff_ltb.1 h
          simp only [hol] at h
          refine Wp.brn (fun h2 => ?_) (fun h2 => ?_)
          · have h2 := iff_ltb.1 h2
            simp only [hol2] at h2
            exact hj1 _ ⟨rfl, rfl, rfl, rfl, rfl, .inr (.inl h2)⟩
          · have h2 := niff_ltb.1 h2
            simp only [hol2] at h2
            refine Wp.brn (fun h3 => ?_) (fun h3 => ?_)
            · have h3 := iff_ltb.1 h3
              simp only [c0] at h3
              exact hj1 _ ⟨rfl, rfl, rfl, rfl, rfl, .inr (.inr h3)⟩
            · have h3 := niff_ltb.1 h3
              simp only [c0] at h3
              refine Wp.done ⟨out, rfl, hI.dig, hI.lead (by omega) (by omega) (by omega), ?_⟩
              have hsum := hI.sum
              have hz : over.nat = 0 := by unfold I.nat; omega
              rw [List.drop_of_length_le (l := a') (by omega), List.drop_of_length_le (l := b') (by omega), hz] at hsum
              simp only [bv, Nat.mul_zero, Nat.add_zero] at hsum
              rw [hsum, ha.val, hb.val]
    · refine ⟨rfl, rfl, ?_⟩
      show AddInv a b (I.of .i64 0) (I.of .i64 0) []
      refine ⟨by decide, by decide, by decide, ?_, rfl, fun _ h => by simp at h, ?_, fun _ _ _ => trivial⟩
      · left; show (I.of .i64 0).val ≤ _; omega
      · show bv [] + 65536 ^ (I.of .i64 0).val.toNat * ((I.of .i64 0).nat + bv (a.drop (I.of .i64 0).val.toNat) + bv (b.drop (I.of .i64 0).val.toNat)) = _
        have e : (I.of .i64 0).val.toNat = 0 := rfl
        have e2 : (I.of .i64 0).nat = 0 := rfl
        rw [e, e2]
        simp [bv]
    · exact K0_ge _ (by show ((max a.length b.length : Int) + 2 - (I.of .i64 0).val).toNat < _; omega)
  exact key.out
end Sym

/- Natural numbers by digits of 65536: differences, comparison. -/
namespace Sym
open Go

theorem repL_digs : ∀ (n : Nat), Digs (repL n (I.of .i64 0))
  | 0 => fun _ h => by simp [repL] at h
  | n + 1 => digs_cons.2 ⟨digOk0, repL_digs n⟩

theorem repL_length {X : Type} : ∀ (n : Nat) (x : X), (repL n x).length = n
  | 0, _ => rfl
  | n + 1, x => by simp [repL, repL_length n x]

theorem take_set_succ {X : Type} (l : List X) (i : Nat) (v : X) (h : i < l.length) : (l.set i v).take (i + 1) = l.take i ++ [v] := by
  have h2 : i < (l.set i v).length := by simpa using h
  rw [← List.take_append_getElem h2]
  simp [List.take_set_of_le]

theorem digs_set {l : List Dg} (h : Digs l) (i : Nat) {d : Dg} (hd : DigOk d) : Digs (l.set i d) := by
  intro e he
  rcases List.mem_or_eq_of_mem_set he with h1 | h1
  · exact h e h1
  · subst h1; exact hd

structure SubInv (a b : List Dg) (under i : I .i64) (out : List Dg) : Prop where
  u0 : 0 ≤ under.val
  u1 : under.val ≤ 1
  i0 : 0 ≤ i.val
  i1 : i.val ≤ a.length
  len : out.length = a.length
  dig : Digs out
  sum : bv (out.take i.val.toNat) + bv (b.take i.val.toNat) = bv (a.take i.val.toNat) + 65536 ^ i.val.toNat * under.nat

theorem sub_step {a b : List Dg} {under i d un : I .i64} {out : List Dg} (ha : Digs a) (hb : Digs b) (hal : a.length ≤ 1000000) (h : SubInv a b under i out) (hc : i.val < a.length)
    (hd : DigOk d) (hu : un.val = 0 ∨ un.val = 1) (hs : d.val = (rd0 a i.val.toNat).val - under.val - (rd0 b i.val.toNat).val + 65536 * un.val) :
    SubInv a b un (I.add i (I.of .i64 1)) (setAt out (I.nat i) d) := by
  have c1 : (I.of .i64 1).val = 1 := rfl
  have da2 := (rd0_ok ha i.val.toNat).nat
  have db2 := (rd0_ok hb i.val.toNat).nat
  have hd2 := hd.nat
  have hu0 := h.u0
  have hu1 := h.u1
  have hi0 := h.i0
  have hi : (I.add i (I.of .i64 1)).val = i.val + 1 := by rw [add_i64 (by omega)]; omega
  have hin : (I.add i (I.of .i64 1)).val.toNat = i.val.toNat + 1 := by omega
  have hlen := h.len
  have hni : I.nat i = i.val.toNat := rfl
  rw [setAt_eq, hni]
  refine ⟨by omega, by omega, by omega, by omega, by simpa using hlen, digs_set h.dig _ hd, ?_⟩
  rw [hin, take_set_succ _ _ _ (by omega), bv_app, bv_take1 a, bv_take1 b]
  have el : (out.take i.val.toNat).length = i.val.toNat := by simp; omega
  rw [el, Nat.pow_succ]
  simp only [bv, Nat.mul_zero, Nat.add_zero]
  have hsum := h.sum
  have e : d.nat + (rd0 b i.val.toNat).nat + under.nat = (rd0 a i.val.toNat).nat + 65536 * un.nat := by
    unfold I.nat at *
    omega
  have e2 := congrArg (fun z => 65536 ^ i.val.toNat * z) e
  simp only [Nat.mul_add] at e2
  rw [← Nat.mul_assoc] at e2
  omega

theorem Sub_ok {a b : List Dg} {m n : Nat} (ha : IsB a m) (hb : IsB b n) (hmn : n ≤ m) (hal : a.length ≤ 1000000) : ∃ r, pontageref1_Sub ((a, b, ()), ()) = some ((r, ()), ()) ∧ IsB r (m - n) := by
  have hbl : b.length ≤ a.length := hb.len.2 (Nat.lt_of_le_of_lt hmn (ha.len.1 (Nat.le_refl _)))
  have hol : (I.ofNat .i64 (lenL a)).val = a.length := ofNat_i64 (by show a.length < _; omega)
  have hol2 : (I.ofNat .i64 (lenL b)).val = b.length := ofNat_i64 (by show b.length < _; omega)
  have c0 : (I.of .i64 0).val = 0 := rfl
  have hn : I.nat (I.ofNat .i64 (lenL a)) = a.length := by unfold I.nat; omega
  have key : Wp (fun o => ∃ r, o = some ((r, ()), ()) ∧ IsB r (m - n)) (pontageref1_Sub ((a, b, ()), ())) := by
    unfold pontageref1_Sub
    refine Wp.brnT ?_ ?_
    · show (decide (0 ≤ (I.ofNat .i64 (lenL a)).val) && decide ((I.ofNat .i64 (lenL a)).val ≤ ((I.nat (I.ofNat .i64 (lenL a)) : Nat) : Int))) = true
      rw [hn, hol]; simp
    refine Wp.brnT ?_ ?_
    · show (decide (0 ≤ (I.ofNat .i64 (lenL a)).val) && decide ((I.ofNat .i64 (lenL a)).val ≤ ((1073741824 : Nat) : Int))) = true
      rw [hol]; simp; omega
    refine Wp.iter (fun x => x.1.1 = a ∧ x.1.2.1 = b ∧ SubInv a b x.1.2.2.1 x.1.2.2.2.1 x.2.1) (fun x => ((a.length : Int) - x.1.2.2.2.1.val).toNat) ?_ ?_ ?_
    · rintro ⟨⟨a', b', under, i, ⟨⟩⟩, out, ⟨⟩⟩ ⟨e1, e2, hI⟩
      simp only at e1 e2 hI
      subst e1 e2
      have hi0 := hI.i0
      have hi1 := hI.i1
      have hu0 := hI.u0
      have hu1 := hI.u1
      refine Wp.brn (fun h => ?_) (fun h => ?_)
      · have hlt := iff_ltb.1 h
        simp only [hol] at hlt
        clear h
        have ra := rd0_ok ha.dig i.val.toNat
        have rb := rd0_ok hb.dig i.val.toNat
        have ra' := ra
        have rb' := rb
        unfold DigOk at ra rb
        have c1 : (I.of .i64 1).val = 1 := rfl
        have hi : (I.add i (I.of .i64 1)).val = i.val + 1 := by rw [add_i64 (by omega)]; omega
        have hm : ((a'.length : Int) - (I.add i (I.of .i64 1)).val).toNat < ((a'.length : Int) - i.val).toNat := by omega
        have hlen := hI.len
        refine Wp.brnT (iff_inB.2 ⟨hi0, by show i.val < ((a'.length : Nat) : Int); omega⟩) ?_
        refine Wp.jn (fun x => x.1.1 = a' ∧ x.1.2.1 = b' ∧ x.1.2.2.1 = i ∧ x.1.2.2.2.1.val = (rd0 a' i.val.toNat).val - under.val - (rd0 b' i.val.toNat).val ∧ x.2.1 = out) ?_ ?_
        · rintro ⟨⟨a1, b1, i1, x, ⟨⟩⟩, out1, ⟨⟩⟩ ⟨e1, e2, e3, e4, e5⟩
          simp only at e1 e2 e3 e4 e5
          subst e1 e2 e3 e5
          refine Wp.brn (fun h2 => ?_) (fun h2 => ?_)
          · have h2 := iff_ltb.1 h2
            simp only [c0] at h2
            refine Wp.brnT (iff_inB.2 ⟨hi0, by show i1.val < ((out1.length : Nat) : Int); omega⟩) ?_
            have c6 : (I.of .i64 65536).val = 65536 := rfl
            have hx : (I.add x (I.of .i64 65536)).val = x.val + 65536 := by rw [add_i64 (by omega)]; omega
            have st := sub_step (un := I.of .i64 1) (d := I.add x (I.of .i64 65536)) ha.dig hb.dig hal hI hlt (by unfold DigOk; omega) (.inr rfl) (by omega)
            exact Wp.again ⟨rfl, rfl, st⟩ hm
          · have h2 := niff_ltb.1 h2
            simp only [c0] at h2
            refine Wp.brnT (iff_inB.2 ⟨hi0, by show i1.val < ((out1.length : Nat) : Int); omega⟩) ?_
            have st := sub_step (un := I.of .i64 0) (d := x) ha.dig hb.dig hal hI hlt (by unfold DigOk; omega) (.inl rfl) (by omega)
            exact Wp.again ⟨rfl, rfl, st⟩ hm
        · intro j hj
          have hs1 : (I.sub (rd0 a' i.val.toNat) under).val = (rd0 a' i.val.toNat).val - under.val := sub_i64 (by omega)
          refine Wp.brn (fun h2 => ?_) (fun h2 => ?_)
          · have h2 := iff_ltb.1 h2
            simp only [hol2] at h2
            refine Wp.brnT (iff_inB.2 ⟨hi0, by show i.val < ((b'.length : Nat) : Int); omega⟩) ?_
            refine hj _ ⟨rfl, rfl, rfl, ?_, rfl⟩
            show (I.sub (I.sub (rd0 a' i.val.toNat) under) (rd0 b' i.val.toNat)).val = _
            rw [sub_i64 (by omega), hs1]
          · have h2 := niff_ltb.1 h2
            simp only [hol2] at h2
            have hz := rd0_zero (l := b') (i := i.val.toNat) (by omega)
            have hz2 : (rd0 b' i.val.toNat).val = 0 := by unfold I.nat at hz; omega
            refine hj _ ⟨rfl, rfl, rfl, ?_, rfl⟩
            show (I.sub (rd0 a' i.val.toNat) under).val = _
            omega
      · have h := niff_ltb.1 h
        simp only [hol] at h
        have hlen := hI.len
        have hsum := hI.sum
        have hi : i.val.toNat = a'.length := by omega
        rw [hi, List.take_of_length_le (by omega), List.take_of_length_le hbl, List.take_length, ha.val, hb.val] at hsum
        have hlt := bv_lt hI.dig
        rw [hlen] at hlt
        have hz : under.nat = 0 := by
          unfold I.nat
          rcases Int.lt_or_le under.val 1 with h1 | h1
          · omega
          · exfalso
            have : under.nat = 1 := by unfold I.nat; omega
            rw [this] at hsum
            omega
        rw [hz, Nat.mul_zero, Nat.add_zero] at hsum
        have hbv : bv out = m - n := by omega
        have holen : (I.ofNat .i64 (lenL out)).val = out.length := ofNat_i64 (by show out.length < _; omega)
        clear hsum h
        refine Wp.done ?_
        refine Wp.iter (fun x => x.2.1 = out ∧ 0 ≤ x.1.1.val ∧ x.1.1.val ≤ (out.length : Int) ∧ bv (out.take x.1.1.val.toNat) = bv out) (fun x => x.1.1.val.toNat) ?_ ?_ ?_
        · rintro ⟨⟨j, r⟩, out', ⟨⟩⟩ ⟨e1, hj0, hj1, hb⟩
          simp only at e1 hj0 hj1 hb
          subst e1
          have c1 : (I.of .i64 1).val = 1 := rfl
          have cut : inB' j (lenL out') = true := by
            show (decide (0 ≤ j.val) && decide (j.val ≤ ((out'.length : Nat) : Int))) = true
            simp [hj0, hj1]
          have sub : subL out' 0 (I.nat j) = out'.take j.val.toNat := by simp [subL, I.nat]
          refine Wp.brn (fun h => ?_) (fun h => ?_)
          · have h := iff_ltb.1 h
            have h : (I.of .i64 0).val < j.val := h
            have hs : (I.sub j (I.of .i64 1)).val = j.val - 1 := by rw [sub_i64 (by omega)]; omega
            have hidx : (I.nat (I.sub j (I.of .i64 1))) = j.val.toNat - 1 := by unfold I.nat; omega
            have hlt : j.val.toNat - 1 < out'.length := by omega
            have hrd : rdL (I.of .i64 0) out' (I.nat (I.sub j (I.of .i64 1))) = out'[j.val.toNat - 1] := by rw [hidx]; exact rdL_eq _ _ _ hlt
            have htk : out'.take j.val.toNat = out'.take (j.val.toNat - 1) ++ [out'[j.val.toNat - 1]] := by
              rw [List.take_append_getElem hlt]
              congr 1
              omega
            refine Wp.brnT (iff_inB.2 ⟨by show 0 ≤ (I.sub j (I.of .i64 1)).val; omega, by show (I.sub j (I.of .i64 1)).val < (out'.length : Int); omega⟩) ?_
            refine Wp.brn (fun h2 => ?_) (fun h2 => ?_)
            · have h2 := iff_eqb.1 h2
              have h2 : (rdL (I.of .i64 0) out' (I.nat (I.sub j (I.of .i64 1)))).val = (I.of .i64 0).val := h2
              rw [hrd] at h2
              refine Wp.again ⟨rfl, ?_, ?_, ?_⟩ ?_
              · show 0 ≤ (I.sub j (I.of .i64 1)).val; omega
              · show (I.sub j (I.of .i64 1)).val ≤ _; omega
              · show bv (out'.take (I.sub j (I.of .i64 1)).val.toNat) = _
                have e : (I.sub j (I.of .i64 1)).val.toNat = j.val.toNat - 1 := by omega
                rw [e, ← hb, htk, bv_app]
                have hz : (out'[j.val.toNat - 1]).nat = 0 := by unfold I.nat; rw [h2]; rfl
                simp [bv, hz]
              · show (I.sub j (I.of .i64 1)).val.toNat < j.val.toNat
                omega
            · have h2 := niff_eqb.1 h2
              have h2 : (rdL (I.of .i64 0) out' (I.nat (I.sub j (I.of .i64 1)))).val ≠ (I.of .i64 0).val := h2
              rw [hrd] at h2
              refine Wp.done (Wp.brnT cut ⟨_, rfl, ?_⟩)
              show IsB (subL out' 0 (I.nat j)) _
              rw [sub]
              refine ⟨digs_take hI.dig _, ?_, hb.trans hbv⟩
              rw [htk]
              exact lead_snoc _ _ h2
          · have h := niff_ltb.1 h
            have h : j.val ≤ (I.of .i64 0).val := h
            refine Wp.done (Wp.brnT cut ⟨_, rfl, ?_⟩)
            show IsB (subL out' 0 (I.nat j)) _
            rw [sub]
            have e : j.val.toNat = 0 := by omega
            rw [e] at hb ⊢
            simp only [List.take_zero] at hb ⊢
            rw [← hbv, ← hb]
            exact isB_nil
        · refine ⟨rfl, ?_, ?_, ?_⟩
          · show 0 ≤ (I.ofNat .i64 (lenL out)).val; omega
          · show (I.ofNat .i64 (lenL out)).val ≤ _; omega
          · show bv (out.take (I.ofNat .i64 (lenL out)).val.toNat) = _
            rw [holen, Int.toNat_natCast, List.take_length]
        · refine K0_ge _ ?_
          show (I.ofNat .i64 (lenL out)).val.toNat < _
          omega
    · refine ⟨rfl, rfl, ?_⟩
      show SubInv a b (I.of .i64 0) (I.of .i64 0) (repL (I.nat (I.ofNat .i64 (lenL a))) (I.of .i64 0))
      rw [hn]
      have e : (I.of .i64 0).val.toNat = 0 := rfl
      refine ⟨by decide, by decide, by decide, by omega, repL_length _ _, repL_digs _, ?_⟩
      rw [e]
      rfl
    · exact K0_ge _ (by show ((a.length : Int) - (I.of .i64 0).val).toNat < _; omega)
  exact key.out

/-- -1, 0 or 1. -/
def cmpN (m n : Nat) : I .i64 := if m < n then I.of .i64 (-1) else if n < m then I.of .i64 1 else I.of .i64 0

theorem cmp_at {a b : List Dg} (ha : Digs a) (hb : Digs b) (i : Nat) (hd : bv (a.drop (i + 1)) = bv (b.drop (i + 1))) (hlt : (rd0 a i).nat < (rd0 b i).nat) (hia : i ≤ a.length) (hib : i ≤ b.length) : bv a < bv b := by
  have e1 : bv a = bv (a.take i) + 65536 ^ i * bv (a.drop i) := by
    have := bv_app (a.take i) (a.drop i)
    rw [List.take_append_drop] at this
    rw [this]; simp [Nat.min_eq_left hia]
  have e2 : bv b = bv (b.take i) + 65536 ^ i * bv (b.drop i) := by
    have := bv_app (b.take i) (b.drop i)
    rw [List.take_append_drop] at this
    rw [this]; simp [Nat.min_eq_left hib]
  have h1 := bv_lt (digs_take ha i)
  rw [List.length_take, Nat.min_eq_left hia] at h1
  have h2 : bv (a.drop i) + 1 ≤ bv (b.drop i) := by rw [bv_drop a, bv_drop b]; omega
  have h3 := Nat.mul_le_mul_left (65536 ^ i) h2
  rw [Nat.mul_add] at h3
  omega

theorem Cmp_ok {a b : List Dg} {m n : Nat} (ha : IsB a m) (hb : IsB b n) (hal : a.length ≤ 1000000) (hbl : b.length ≤ 1000000) : pontageref1_Cmp ((a, b, ()), ()) = some ((cmpN m n, ()), ()) := by
  have hol : (I.ofNat .i64 (lenL a)).val = a.length := ofNat_i64 (by show a.length < _; omega)
  have hol2 : (I.ofNat .i64 (lenL b)).val = b.length := ofNat_i64 (by show b.length < _; omega)
  have c0 : (I.of .i64 0).val = 0 := rfl
  have c1 : (I.of .i64 1).val = 1 := rfl
  have key : Wp (fun o => o = some ((cmpN m n, ()), ())) (pontageref1_Cmp ((a, b, ()), ())) := by
    unfold pontageref1_Cmp
    refine Wp.brn (fun h => ?_) (fun h => ?_)
    · have h := iff_neb.1 h
      simp only [hol, hol2] at h
      refine Wp.brn (fun h2 => ?_) (fun h2 => ?_)
      · have h2 := iff_ltb.1 h2
        simp only [hol, hol2] at h2
        have h3 : m < n := by
          rcases Nat.lt_or_ge m n with h3 | h3
          · exact h3
          · have := hb.len.2 (Nat.lt_of_le_of_lt h3 (ha.len.1 (Nat.le_refl _)))
            omega
        show _ = _
        unfold cmpN
        rw [if_pos h3]
        rfl
      · have h2 := niff_ltb.1 h2
        simp only [hol, hol2] at h2
        have h3 : n < m := by
          rcases Nat.lt_or_ge n m with h3 | h3
          · exact h3
          · have := ha.len.2 (Nat.lt_of_le_of_lt h3 (hb.len.1 (Nat.le_refl _)))
            omega
        show _ = _
        unfold cmpN
        rw [if_neg (by omega), if_pos h3]
        rfl
    · have h := niff_neb.1 h
      simp only [hol, hol2] at h
      have hs : (I.sub (I.ofNat .i64 (lenL a)) (I.of .i64 1)).val = a.length - 1 := by rw [sub_i64 (by omega)]; omega
      refine Wp.iter (fun x => x.1.1 = a ∧ x.1.2.1 = b ∧ -1 ≤ x.1.2.2.1.val ∧ x.1.2.2.1.val < (a.length : Int) ∧ bv (a.drop (x.1.2.2.1.val + 1).toNat) = bv (b.drop (x.1.2.2.1.val + 1).toNat)) (fun x => (x.1.2.2.1.val + 1).toNat) ?_ ?_ ?_
      · rintro ⟨⟨a', b', i, ⟨⟩⟩, ⟨⟩⟩ ⟨e1, e2, hi0, hi1, hd⟩
        simp only at e1 e2 hi0 hi1 hd
        subst e1 e2
        refine Wp.brn (fun h2 => ?_) (fun h2 => ?_)
        · have h2 := iff_leb.1 h2
          simp only [c0] at h2
          have ha1 : inB i (lenL a') = true := iff_inB.2 ⟨h2, by show i.val < ((a'.length : Nat) : Int); omega⟩
          have hb1 : inB i (lenL b') = true := iff_inB.2 ⟨h2, by show i.val < ((b'.length : Nat) : Int); omega⟩
          have en : (i.val + 1).toNat = i.val.toNat + 1 := by omega
          rw [en] at hd
          have na := (rd0_ok ha.dig i.val.toNat).nat
          have nb := (rd0_ok hb.dig i.val.toNat).nat
          refine Wp.brnT ha1 (Wp.brnT hb1 ?_)
          refine Wp.brn (fun h3 => ?_) (fun h3 => ?_)
          · have h3 := iff_ltb.1 h3
            have h3 : (rd0 a' i.val.toNat).val < (rd0 b' i.val.toNat).val := h3
            have := cmp_at ha.dig hb.dig i.val.toNat hd (by omega) (by omega) (by omega)
            rw [ha.val, hb.val] at this
            refine Wp.done ?_
            show _ = _
            unfold cmpN
            rw [if_pos this]
            rfl
          · have h3 := niff_ltb.1 h3
            have h3 : (rd0 b' i.val.toNat).val ≤ (rd0 a' i.val.toNat).val := h3
            refine Wp.brnT ha1 (Wp.brnT hb1 ?_)
            refine Wp.brn (fun h4 => ?_) (fun h4 => ?_)
            · have h4 := iff_ltb.1 h4
              have h4 : (rd0 b' i.val.toNat).val < (rd0 a' i.val.toNat).val := h4
              have := cmp_at hb.dig ha.dig i.val.toNat hd.symm (by omega) (by omega) (by omega)
              rw [ha.val, hb.val] at this
              refine Wp.done ?_
              show _ = _
              unfold cmpN
              rw [if_neg (by omega), if_pos this]
              rfl
            · have h4 := niff_ltb.1 h4
              have h4 : (rd0 a' i.val.toNat).val ≤ (rd0 b' i.val.toNat).val := h4
              have hsi : (I.sub i (I.of .i64 1)).val = i.val - 1 := by rw [sub_i64 (by omega)]; omega
              refine Wp.again ⟨rfl, rfl, ?_, ?_, ?_⟩ ?_
              · show -1 ≤ (I.sub i (I.of .i64 1)).val; omega
              · show (I.sub i (I.of .i64 1)).val < _; omega
              · show bv (a'.drop ((I.sub i (I.of .i64 1)).val + 1).toNat) = bv (b'.drop ((I.sub i (I.of .i64 1)).val + 1).toNat)
                have e : ((I.sub i (I.of .i64 1)).val + 1).toNat = i.val.toNat := by omega
                rw [e, bv_drop a', bv_drop b', hd]
                omega
              · show ((I.sub i (I.of .i64 1)).val + 1).toNat < _
                simp only; omega
        · have h2 := niff_leb.1 h2
          simp only [c0] at h2
          have e : (i.val + 1).toNat = 0 := by omega
          rw [e] at hd
          simp only [List.drop_zero] at hd
          rw [ha.val, hb.val] at hd
          refine Wp.done ?_
          show _ = _
          unfold cmpN
          rw [if_neg (by omega), if_neg (by omega)]
          rfl
      · refine ⟨rfl, rfl, ?_, ?_, ?_⟩
        · show -1 ≤ (I.sub (I.ofNat .i64 (lenL a)) (I.of .i64 1)).val; omega
        · show (I.sub (I.ofNat .i64 (lenL a)) (I.of .i64 1)).val < _; omega
        · show bv (a.drop ((I.sub (I.ofNat .i64 (lenL a)) (I.of .i64 1)).val + 1).toNat) = bv (b.drop ((I.sub (I.ofNat .i64 (lenL a)) (I.of .i64 1)).val + 1).toNat)
          have e : ((I.sub (I.ofNat .i64 (lenL a)) (I.of .i64 1)).val + 1).toNat = a.length := by omega
          rw [e, List.drop_of_length_le (Nat.le_refl _), List.drop_of_length_le (by omega)]
      · exact K0_ge _ (by show ((I.sub (I.ofNat .i64 (lenL a)) (I.of .i64 1)).val + 1).toNat < _; omega)
  exact key.out
end Sym

/- Limbs of 256 bits; products of 64 bits. -/
namespace Sym
open Go

abbrev W64 : Nat := 18446744073709551616

/-- The i-th limb. -/
def limb' (a : U) (i : Nat) : Nat := (Arr.sel (I.of .u64 0) 4 a i).nat

theorem limb_lt (a : U) (i : Nat) : limb' a i < W64 := nat_lt _

theorem limb_mod (a : U) (i : Nat) (h : i < 4) : a.val % W64 ^ (i + 1) = a.val % W64 ^ i + W64 ^ i * limb' a i := by
  obtain ⟨a0, a1, a2, a3, ⟨⟩⟩ := a
  have n0 := nat_lt a0
  have n1 := nat_lt a1
  have n2 := nat_lt a2
  have n3 := nat_lt a3
  have p0 : W64 ^ 0 = 1 := by decide
  have p1 : W64 ^ 1 = 18446744073709551616 := by decide
  have p2 : W64 ^ 2 = 340282366920938463463374607431768211456 := by decide
  have p3 : W64 ^ 3 = 6277101735386680763835789423207666416102355444464034512896 := by decide
  have p4 : W64 ^ 4 = 115792089237316195423570985008687907853269984665640564039457584007913129639936 := by decide
  have hc : i = 0 ∨ i = 1 ∨ i = 2 ∨ i = 3 := by omega
  rcases hc with rfl | rfl | rfl | rfl
  · show U.val _ % W64 ^ 1 = U.val _ % W64 ^ 0 + W64 ^ 0 * a0.nat
    rw [p0, p1]; unfold U.val; simp only; omega
  · show U.val _ % W64 ^ 2 = U.val _ % W64 ^ 1 + W64 ^ 1 * a1.nat
    rw [p1, p2]; unfold U.val; simp only; omega
  · show U.val _ % W64 ^ 3 = U.val _ % W64 ^ 2 + W64 ^ 2 * a2.nat
    rw [p2, p3]; unfold U.val; simp only; omega
  · show U.val _ % W64 ^ 4 = U.val _ % W64 ^ 3 + W64 ^ 3 * a3.nat
    rw [p3, p4]; unfold U.val; simp only; omega

theorem upd_val (a : U) (i : Nat) (z : I .u64) (h : i < 4) : U.val (Arr.upd 4 a i z) + W64 ^ i * limb' a i = a.val + W64 ^ i * z.nat := by
  obtain ⟨a0, a1, a2, a3, ⟨⟩⟩ := a
  have p0 : W64 ^ 0 = 1 := by decide
  have p1 : W64 ^ 1 = 18446744073709551616 := by decide
  have p2 : W64 ^ 2 = 340282366920938463463374607431768211456 := by decide
  have p3 : W64 ^ 3 = 6277101735386680763835789423207666416102355444464034512896 := by decide
  have hc : i = 0 ∨ i = 1 ∨ i = 2 ∨ i = 3 := by omega
  rcases hc with rfl | rfl | rfl | rfl
  · show U.val (z, a1, a2, a3, ()) + W64 ^ 0 * a0.nat = U.val (a0, a1, a2, a3, ()) + W64 ^ 0 * z.nat
    rw [p0]; unfold U.val; simp only; omega
  · show U.val (a0, z, a2, a3, ()) + W64 ^ 1 * a1.nat = U.val (a0, a1, a2, a3, ()) + W64 ^ 1 * z.nat
    rw [p1]; unfold U.val; simp only; omega
  · show U.val (a0, a1, z, a3, ()) + W64 ^ 2 * a2.nat = U.val (a0, a1, a2, a3, ()) + W64 ^ 2 * z.nat
    rw [p2]; unfold U.val; simp only; omega
  · show U.val (a0, a1, a2, z, ()) + W64 ^ 3 * a3.nat = U.val (a0, a1, a2, a3, ()) + W64 ^ 3 * z.nat
    rw [p3]; unfold U.val; simp only; omega

theorem and_low (x : I .u64) (n : Nat) (m : I .u64) (hn : n < 64) (hm : m.val = ((2 ^ n - 1 : Nat) : Int)) : (I.and x m).nat = x.nat % 2 ^ n := by
  have hx := u64_range x
  have h1 : (BitVec.ofInt 64 x.val).toNat = x.nat := by rw [BitVec.toNat_ofInt]; unfold I.nat; omega
  have hp : 2 ^ n ≤ 2 ^ 63 := Nat.pow_le_pow_right (by decide) (by omega)
  have h2 : (BitVec.ofInt 64 m.val).toNat = 2 ^ n - 1 := by rw [BitVec.toNat_ofInt, hm]; omega
  have h3 : (BitVec.ofInt IntKind.u64.bits x.val &&& BitVec.ofInt IntKind.u64.bits m.val).toNat = x.nat % 2 ^ n := by
    show (BitVec.ofInt 64 x.val &&& BitVec.ofInt 64 m.val).toNat = _
    rw [BitVec.toNat_and, h1, h2, Nat.and_two_pow_sub_one_eq_mod]
  unfold I.and
  rw [h3]
  have h4 : x.nat % 2 ^ n < 2 ^ n := Nat.mod_lt _ (Nat.pow_pos (by decide))
  exact of_nat (by omega)

theorem shr_nat (x s : I .u64) (hs : s.nat < 64) : (I.shr x s).nat = x.nat / 2 ^ s.nat := by
  have h0 := u64_range s
  have hx := u64_range x
  have h := shr_u64 x s (by unfold I.nat at hs; omega)
  have e : s.val.toNat = s.nat := rfl
  rw [e] at h
  have h1 : ((x.nat / 2 ^ s.nat : Nat) : Int) = x.val / (2 : Int) ^ s.nat := by
    rw [Int.natCast_ediv, nat_val]
    simp
  have := nat_val (I.shr x s)
  omega

theorem mul_nat (a b : I .u64) : (I.mul a b).nat = a.nat * b.nat % W64 := by
  have h1 := nat_val a
  have h2 := nat_val b
  unfold I.mul
  have : a.val * b.val = ((a.nat * b.nat : Nat) : Int) := by rw [← h1, ← h2, Int.natCast_mul]
  rw [this]
  show (IntKind.u64.wrap _).toNat = _ % 18446744073709551616
  rw [wrap_u64]
  omega
theorem add_nat (a b : I .u64) : (I.add a b).nat = (a.nat + b.nat) % W64 := by
  have h1 := nat_val a
  have h2 := nat_val b
  show (IntKind.u64.wrap (a.val + b.val)).toNat = _ % 18446744073709551616
  rw [wrap_u64]
  omega

theorem Mul64_ok (a b : I .u64) : ∃ hi lo : I .u64, math_bits_Mul64 ((a, b, ()), ()) = some ((hi, lo, ()), ()) ∧ lo.nat + W64 * hi.nat = a.nat * b.nat := by
  refine ⟨_, _, rfl, ?_⟩
  show (I.mul a b).nat + W64 * (I.add (I.add (I.mul (I.shr a (I.of .u64 32)) (I.shr b (I.of .u64 32))) (I.shr (I.add (I.mul (I.shr a (I.of .u64 32)) (I.and b (I.of .u64 4294967295))) (I.shr (I.mul (I.and a (I.of .u64 4294967295)) (I.and b (I.of .u64 4294967295))) (I.of .u64 32))) (I.of .u64 32)))
    (I.shr (I.add (I.and (I.add (I.mul (I.shr a (I.of .u64 32)) (I.and b (I.of .u64 4294967295))) (I.shr (I.mul (I.and a (I.of .u64 4294967295)) (I.and b (I.of .u64 4294967295))) (I.of .u64 32))) (I.of .u64 4294967295)) (I.mul (I.and a (I.of .u64 4294967295)) (I.shr b (I.of .u64 32)))) (I.of .u64 32))).nat = _
  have c32 : (I.of .u64 32).nat = 32 := rfl
  have p32 : 2 ^ 32 = 4294967296 := by decide
  have sh : ∀ x : I .u64, (I.shr x (I.of .u64 32)).nat = x.nat / 4294967296 := fun x => by rw [shr_nat _ _ (by decide), c32, p32]
  have an : ∀ x : I .u64, (I.and x (I.of .u64 4294967295)).nat = x.nat % 4294967296 := fun x => by rw [and_low x 32 _ (by decide) (by decide), p32]
  simp only [mul_nat, add_nat, sh, an]
  have ha := nat_lt a
  have hb := nat_lt b
  have ea : a.nat = 4294967296 * (a.nat / 4294967296) + a.nat % 4294967296 := by omega
  have eb : b.nat = 4294967296 * (b.nat / 4294967296) + b.nat % 4294967296 := by omega
  generalize hA1 : a.nat / 4294967296 = a1 at *
  generalize hA0 : a.nat % 4294967296 = a0 at *
  generalize hB1 : b.nat / 4294967296 = b1 at *
  generalize hB0 : b.nat % 4294967296 = b0 at *
  have la1 : a1 ≤ 4294967295 := by omega
  have la0 : a0 ≤ 4294967295 := by omega
  have lb1 : b1 ≤ 4294967295 := by omega
  have lb0 : b0 ≤ 4294967295 := by omega
  have m11 : a1 * b1 ≤ 4294967295 * 4294967295 := Nat.mul_le_mul la1 lb1
  have m10 : a1 * b0 ≤ 4294967295 * 4294967295 := Nat.mul_le_mul la1 lb0
  have m01 : a0 * b1 ≤ 4294967295 * 4294967295 := Nat.mul_le_mul la0 lb1
  have m00 : a0 * b0 ≤ 4294967295 * 4294967295 := Nat.mul_le_mul la0 lb0
  have prod : a.nat * b.nat = 18446744073709551616 * (a1 * b1) + 4294967296 * (a1 * b0) + 4294967296 * (a0 * b1) + a0 * b0 := by
    rw [ea, eb, Nat.add_mul, Nat.mul_add, Nat.mul_add]
    have e1 : 4294967296 * a1 * (4294967296 * b1) = 18446744073709551616 * (a1 * b1) := by
      rw [Nat.mul_mul_mul_comm]
    have e2 : 4294967296 * a1 * b0 = 4294967296 * (a1 * b0) := Nat.mul_assoc _ _ _
    have e3 : a0 * (4294967296 * b1) = 4294967296 * (a0 * b1) := Nat.mul_left_comm _ _ _
    rw [e1, e2, e3]
    omega
  rw [prod]
  generalize a1 * b1 = p11 at *
  generalize a1 * b0 = p10 at *
  generalize a0 * b1 = p01 at *
  generalize a0 * b0 = p00 at *
  clear ea eb prod ha hb hA1 hA0 hB1 hB0
  unfold W64
  omega
end Sym

/- Products of 256 bits. -/
namespace Sym
open Go

theorem or_zero (x y : I .u64) : I.neb (I.or x y) (I.of .u64 0) = false ↔ x.nat = 0 ∧ y.nat = 0 := by
  rw [niff_neb]
  have c0 : (I.of .u64 0).val = 0 := rfl
  have h1 : (BitVec.ofInt 64 x.val).toNat = x.nat := by have := u64_range x; rw [BitVec.toNat_ofInt]; unfold I.nat; omega
  have h2 : (BitVec.ofInt 64 y.val).toNat = y.nat := by have := u64_range y; rw [BitVec.toNat_ofInt]; unfold I.nat; omega
  have h3 : (BitVec.ofInt IntKind.u64.bits x.val ||| BitVec.ofInt IntKind.u64.bits y.val).toNat = x.nat ||| y.nat := by
    show (BitVec.ofInt 64 x.val ||| BitVec.ofInt 64 y.val).toNat = _
    rw [BitVec.toNat_or, h1, h2]
  have hlt : x.nat ||| y.nat < 2 ^ 64 := Nat.or_lt_two_pow (nat_lt x) (nat_lt y)
  have h4 : (I.or x y).val = ((x.nat ||| y.nat : Nat) : Int) := by
    unfold I.or
    rw [h3]
    exact of_u64 ⟨by omega, by omega⟩
  rw [h4, c0]
  constructor
  · intro h
    have : x.nat ||| y.nat = 0 := by omega
    exact Nat.or_eq_zero_iff.1 this
  · rintro ⟨h5, h6⟩
    rw [h5, h6]; rfl

theorem limb_le (a : U) (i : Nat) (h : i < 4) : W64 ^ i * limb' a i ≤ a.val := by
  have h1 := limb_mod a i h
  have h2 := Nat.mod_le a.val (W64 ^ (i + 1))
  rw [h1] at h2
  exact Nat.le_trans (Nat.le_add_left _ _) h2

theorem over_prod {a b : U} {i k : Nat} (hi : i < 4) (hk : k < 4) (h : 3 < i + k) (hp : limb' a i * limb' b k ≠ 0) : U.top ≤ a.val * b.val := by
  have h1 := Nat.mul_le_mul (limb_le a i hi) (limb_le b k hk)
  rw [Nat.mul_mul_mul_comm, ← Nat.pow_add] at h1
  have h2 : U.top = W64 ^ 4 := by decide
  have h3 : W64 ^ 4 ≤ W64 ^ (i + k) := Nat.pow_le_pow_right (by decide) (by omega)
  have h4 : W64 ^ (i + k) * 1 ≤ W64 ^ (i + k) * (limb' a i * limb' b k) := Nat.mul_le_mul_left _ (by omega)
  omega

theorem mod_mul_le (a b : U) (n : Nat) : (a.val % n) * b.val ≤ a.val * b.val := Nat.mul_le_mul_right _ (Nat.mod_le _ _)

theorem top_W : W64 ^ 4 = U.top := by decide

/-- One round of the inner loop, of numbers. -/
theorem mul_round {P c L B M i k hi lo z1 q1 z2 q2 p c' P' bk : Nat} (inv : P + c * W64 ^ (i + k) = M + L * W64 ^ i * B) (h1 : lo + W64 * hi = L * bk) (h2 : z1 + W64 * q1 = lo + c) (h3 : z2 + W64 * q2 = p + z1)
    (hc : c' = hi + q1 + q2) (hP : P' + W64 ^ (i + k) * p = P + W64 ^ (i + k) * z2) : P' + c' * W64 ^ (i + k + 1) = M + L * W64 ^ i * (B + W64 ^ k * bk) := by
  have e1 : L * W64 ^ i * (B + W64 ^ k * bk) = L * W64 ^ i * B + W64 ^ (i + k) * (L * bk) := by
    rw [Nat.mul_add, Nat.pow_add]
    congr 1
    simp only [Nat.mul_comm, Nat.mul_left_comm, Nat.mul_assoc]
  have e2 : c' * W64 ^ (i + k + 1) = W64 ^ (i + k) * (W64 * c') := by
    rw [Nat.pow_succ]
    simp only [Nat.mul_comm, Nat.mul_left_comm, Nat.mul_assoc]
  have e3 : W64 * c' = L * bk + c + p - z2 ∧ z2 ≤ L * bk + c + p := by
    subst hc
    unfold W64 at *
    omega
  have e4 : W64 * c' + z2 = L * bk + c + p := by omega
  have e5 := congrArg (fun t => W64 ^ (i + k) * t) e4
  simp only [Nat.mul_add] at e5
  have e6 : c * W64 ^ (i + k) = W64 ^ (i + k) * c := Nat.mul_comm _ _
  rw [e1, e2]
  omega

theorem Mul_ok (a b : U) : uint256_Mul ((a, b, ()), ()) = some (((errS (a.val * b.val)).1, (errS (a.val * b.val)).2, ()), ()) := by
  have c0 : (I.of .i64 0).val = 0 := rfl
  have c1 : (I.of .i64 1).val = 1 := rfl
  have c3 : (I.of .i64 3).val = 3 := rfl
  have c4 : (I.of .i64 4).val = 4 := rfl
  have over : U.top ≤ a.val * b.val → some (((I.of .u64 0, I.of .u64 0, I.of .u64 0, I.of .u64 0, ()), I.of .i64 4, ()), ()) = some (((errS (a.val * b.val)).1, (errS (a.val * b.val)).2, ()), ()) := by
    intro h
    rw [show errS (a.val * b.val) = (U.of 0, I.of .i64 4) from if_neg (by omega)]
    rfl
  have key : Wp (fun o => o = some (((errS (a.val * b.val)).1, (errS (a.val * b.val)).2, ()), ())) (uint256_Mul ((a, b, ()), ())) := by
    unfold uint256_Mul
    refine Wp.iter (fun x => 0 ≤ x.1.1.val ∧ x.1.1.val ≤ 4 ∧ x.2.1 = a ∧ x.2.2.1 = b ∧ U.val x.2.2.2.2.1 = (a.val % W64 ^ x.1.1.val.toNat) * b.val) (fun x => (4 - x.1.1.val).toNat) ?_ ?_ ?_
    · rintro ⟨⟨i, ⟨⟩⟩, a', b', r0, p0, ⟨⟩⟩ ⟨hi0, hi1, e1, e2, hp⟩
      simp only at hi0 hi1 e1 e2 hp
      subst e1 e2
      refine Wp.brn (fun h => ?_) (fun h => ?_)
      · have hlt := iff_ltb.1 h
        simp only [c4] at hlt
        clear h
        have si : (I.add i (I.of .i64 1)).val = i.val + 1 := by rw [add_i64 (by omega)]; omega
        have sin : (I.add i (I.of .i64 1)).val.toNat = i.val.toNat + 1 := by omega
        have ini : inB i 4 = true := iff_inB.2 ⟨hi0, by omega⟩
        refine Wp.iter (fun x => x.1.1 = i ∧ x.1.2.2.1 = i ∧ 0 ≤ x.1.2.2.2.1.val ∧ x.1.2.2.2.1.val ≤ 4 ∧ x.2.1 = a' ∧ x.2.2.1 = b' ∧
          U.val x.2.2.2.2.1 + I.nat (k := .u64) x.1.2.1 * W64 ^ (min (i.val.toNat + x.1.2.2.2.1.val.toNat) 4) = (U.val a' % W64 ^ i.val.toNat) * U.val b' + limb' a' i.val.toNat * W64 ^ i.val.toNat * (U.val b' % W64 ^ x.1.2.2.2.1.val.toNat)) (fun x => (4 - x.1.2.2.2.1.val).toNat) ?_ ?_ ?_
        · rintro ⟨⟨i2, c, i1, k, ⟨⟩⟩, a1, b1, r1, p, ⟨⟩⟩ ⟨e1, e2, hk0, hk1, e3, e4, hinv⟩
          simp only at e1 e2 hk0 hk1 e3 e4 hinv
          subst e1 e2 e3 e4
          refine Wp.brn (fun h => ?_) (fun h => ?_)
          · have hkl := iff_ltb.1 h
            simp only [c4] at hkl
            clear h
            have sk : (I.add k (I.of .i64 1)).val = k.val + 1 := by rw [add_i64 (by omega)]; omega
            have skn : (I.add k (I.of .i64 1)).val.toNat = k.val.toNat + 1 := by omega
            have sik : (I.add i1 k).val = i1.val + k.val := add_i64 (by omega)
            have hm : (4 - (I.add k (I.of .i64 1)).val).toNat < (4 - k.val).toNat := by omega
            have bmod := limb_mod b1 k.val.toNat (by omega)
            refine Wp.brnT ini (Wp.brnT (iff_inB.2 ⟨hk0, by show k.val < ((4 : Nat) : Int); omega⟩) ?_)
            obtain ⟨hi, lo, hmul, hprod⟩ := Mul64_ok (Arr.sel (I.of .u64 0) 4 a1 (I.nat i1)) (Arr.sel (I.of .u64 0) 4 b1 (I.nat k))
            have hprod : lo.nat + W64 * hi.nat = limb' a1 i1.val.toNat * limb' b1 k.val.toNat := hprod
            refine Wp.optF hmul ?_
            refine Wp.brn (fun h => ?_) (fun h => ?_)
            · have h := iff_ltb.1 h
              have h : (I.of .i64 3).val < (I.add i1 k).val := h
              refine Wp.brn (fun h2 => ?_) (fun h2 => ?_)
              · refine Wp.done (Wp.done (over ?_))
                refine over_prod (i := i1.val.toNat) (k := k.val.toNat) (by omega) (by omega) (by omega) ?_
                intro hz
                have h3 : hi.nat = 0 ∧ lo.nat = 0 := by rw [hz] at hprod; unfold W64 at hprod; omega
                have := (or_zero hi lo).2 h3
                exact absurd (h2.symm.trans this) (by decide)
              · have h3 := (or_zero hi lo).1 h2
                have hz : limb' a1 i1.val.toNat * limb' b1 k.val.toNat = 0 := by rw [← hprod, h3.1, h3.2, Nat.mul_zero]
                refine Wp.again ⟨rfl, rfl, ?_, ?_, rfl, rfl, ?_⟩ hm
                · show 0 ≤ (I.add k (I.of .i64 1)).val; omega
                · show (I.add k (I.of .i64 1)).val ≤ 4; omega
                · show U.val p + c.nat * W64 ^ (min (i1.val.toNat + (I.add k (I.of .i64 1)).val.toNat) 4) = _ + _ * (U.val b1 % W64 ^ (I.add k (I.of .i64 1)).val.toNat)
                  rw [skn, bmod, Nat.mul_add]
                  have e1 : limb' a1 i1.val.toNat * W64 ^ i1.val.toNat * (W64 ^ k.val.toNat * limb' b1 k.val.toNat) = 0 := by
                    have : limb' a1 i1.val.toNat * W64 ^ i1.val.toNat * (W64 ^ k.val.toNat * limb' b1 k.val.toNat) = W64 ^ i1.val.toNat * W64 ^ k.val.toNat * (limb' a1 i1.val.toNat * limb' b1 k.val.toNat) := by simp only [Nat.mul_comm, Nat.mul_left_comm, Nat.mul_assoc]
                    rw [this, hz, Nat.mul_zero]
                  rw [Nat.min_eq_right (by omega)] at hinv
                  rw [e1, Nat.min_eq_right (by omega)]
                  exact hinv
            · have h := niff_ltb.1 h
              have h : (I.add i1 k).val ≤ (I.of .i64 3).val := h
              have inik : inB (I.add i1 k) 4 = true := iff_inB.2 ⟨by omega, by omega⟩
              obtain ⟨z1, q1, ha1, hs1, hq1⟩ := add64_nat lo c (I.of .u64 0) (by decide)
              refine Wp.optF ha1 ?_
              refine Wp.brnT inik ?_
              obtain ⟨z2, q2, ha2, hs2, hq2⟩ := add64_nat (Arr.sel (I.of .u64 0) 4 p (I.nat (I.add i1 k))) z1 (I.of .u64 0) (by decide)
              refine Wp.optF ha2 ?_
              refine Wp.brnT inik ?_
              have z0 : (I.of .u64 0).nat = 0 := rfl
              have en : I.nat (I.add i1 k) = i1.val.toNat + k.val.toNat := by unfold I.nat; omega
              have hup := upd_val p (i1.val.toNat + k.val.toNat) z2 (by omega)
              have hs2' : z2.nat + W64 * q2.nat = limb' p (i1.val.toNat + k.val.toNat) + z1.nat := by
                have : (Arr.sel (I.of .u64 0) 4 p (I.nat (I.add i1 k))).nat = limb' p (i1.val.toNat + k.val.toNat) := by rw [en]; rfl
                unfold W64
                omega
              have hcv : (I.add (I.add hi q1) q2).nat = hi.nat + q1.nat + q2.nat := by
                have l1 := limb_lt a1 i1.val.toNat
                have l2 := limb_lt b1 k.val.toNat
                have l3 := limb_lt p (i1.val.toNat + k.val.toNat)
                have l4 := nat_lt c
                have l5 : limb' a1 i1.val.toNat * limb' b1 k.val.toNat ≤ (W64 - 1) * (W64 - 1) := Nat.mul_le_mul (by omega) (by omega)
                rw [add_nat, add_nat]
                unfold W64 at *
                omega
              refine Wp.again ⟨rfl, rfl, ?_, ?_, rfl, rfl, ?_⟩ hm
              · show 0 ≤ (I.add k (I.of .i64 1)).val; omega
              · show (I.add k (I.of .i64 1)).val ≤ 4; omega
              · show U.val (Arr.upd 4 p (I.nat (I.add i1 k)) z2) + (I.add (I.add hi q1) q2).nat * W64 ^ (min (i1.val.toNat + (I.add k (I.of .i64 1)).val.toNat) 4) = _ + _ * (U.val b1 % W64 ^ (I.add k (I.of .i64 1)).val.toNat)
                rw [skn, bmod, en, Nat.min_eq_left (by omega)]
                rw [Nat.min_eq_left (by omega)] at hinv
                exact mul_round hinv hprod (by unfold W64; omega) hs2' hcv hup
          · have h := niff_ltb.1 h
            simp only [c4] at h
            have hk : k.val.toNat = 4 := by omega
            rw [hk, Nat.min_eq_right (by omega), top_W, Nat.mod_eq_of_lt (U.lt b1)] at hinv
            have amod := limb_mod a1 i1.val.toNat (by omega)
            have hA : U.val p + c.nat * U.top = (U.val a1 % W64 ^ (i1.val.toNat + 1)) * U.val b1 := by
              rw [hinv, amod, Nat.add_mul]
              congr 1
              simp only [Nat.mul_comm, Nat.mul_left_comm, Nat.mul_assoc]
            refine Wp.done ?_
            refine Wp.brn (fun h2 => ?_) (fun h2 => ?_)
            · refine Wp.done (over ?_)
              have h2 := iff_neb.1 h2
              have h2 : c.val ≠ (I.of .u64 0).val := h2
              have z0 : (I.of .u64 0).val = 0 := rfl
              have hc1 : 1 ≤ c.nat := by have := nat_val c; omega
              have h3 := mod_mul_le a1 b1 (W64 ^ (i1.val.toNat + 1))
              have h4 : 1 * U.top ≤ c.nat * U.top := Nat.mul_le_mul_right _ hc1
              omega
            · have h2 := niff_neb.1 h2
              have h2 : c.val = (I.of .u64 0).val := h2
              have z0 : (I.of .u64 0).val = 0 := rfl
              have hc1 : c.nat = 0 := by have := nat_val c; omega
              rw [hc1, Nat.zero_mul, Nat.add_zero] at hA
              refine Wp.again ⟨?_, ?_, rfl, rfl, ?_⟩ ?_
              · show 0 ≤ (I.add i1 (I.of .i64 1)).val; omega
              · show (I.add i1 (I.of .i64 1)).val ≤ 4; omega
              · show U.val p = U.val a1 % W64 ^ (I.add i1 (I.of .i64 1)).val.toNat * U.val b1
                rw [sin]; exact hA
              · show (4 - (I.add i1 (I.of .i64 1)).val).toNat < (4 - i1.val).toNat
                omega
        · refine ⟨rfl, rfl, by show 0 ≤ (I.of .i64 0).val; decide, by show (I.of .i64 0).val ≤ 4; decide, rfl, rfl, ?_⟩
          show U.val p0 + (I.of .u64 0).nat * _ = _ + _ * (U.val b' % W64 ^ (I.of .i64 0).val.toNat)
          have e1 : (I.of .u64 0).nat = 0 := rfl
          have e2 : (I.of .i64 0).val.toNat = 0 := rfl
          rw [e1, e2, Nat.zero_mul, Nat.pow_zero, Nat.mod_one, Nat.mul_zero, hp]
        · exact K0_ge _ (by show (4 - (I.of .i64 0).val).toNat < _; decide)
      · have h := niff_ltb.1 h
        simp only [c4] at h
        have hi : i.val.toNat = 4 := by omega
        rw [hi, top_W, Nat.mod_eq_of_lt (U.lt a')] at hp
        refine Wp.done ?_
        show some ((p0, I.of .i64 0, ()), ()) = _
        have hlt : U.val a' * U.val b' < U.top := by rw [← hp]; exact U.lt p0
        rw [show errS (U.val a' * U.val b') = (U.of (U.val a' * U.val b'), I.of .i64 0) from if_pos hlt]
        have hU : p0 = U.of (U.val a' * U.val b') := by
          have := U.of_val p0
          rw [hp] at this
          exact this.symm
        exact congrArg (fun z : U => some ((z, I.of .i64 0, ()), ())) hU
    · refine ⟨by show 0 ≤ (I.of .i64 0).val; decide, by show (I.of .i64 0).val ≤ 4; decide, rfl, rfl, ?_⟩
      show U.val (I.of .u64 0, I.of .u64 0, I.of .u64 0, I.of .u64 0, ()) = (a.val % W64 ^ (I.of .i64 0).val.toNat) * b.val
      have e2 : (I.of .i64 0).val.toNat = 0 := rfl
      rw [e2, Nat.pow_zero, Nat.mod_one, Nat.zero_mul]
      rfl
    · exact K0_ge _ (by show (4 - (I.of .i64 0).val).toNat < _; decide)
  exact key.out
end Sym

/- Equality and order of 256 bits. -/
namespace Sym
open Go

theorem eqb_u256 (a b : U) : Ty.eqb (.arr 4 (.int .u64)) a b = decide (a.val = b.val) := by
  by_cases h : a.val = b.val
  · have := U.ext h
    subst this
    simp [Ty.eqb, Arr.eqb]
  · simp only [h, decide_false]
    cases hb : Ty.eqb (.arr 4 (.int .u64)) a b with
    | false => rfl
    | true =>
      exfalso
      apply h
      obtain ⟨a0, a1, a2, a3, ⟨⟩⟩ := a
      obtain ⟨b0, b1, b2, b3, ⟨⟩⟩ := b
      simp only [Ty.eqb, Arr.eqb, Bool.and_eq_true, decide_eq_true_eq, and_true] at hb
      obtain ⟨h0, h1, h2, h3⟩ := hb
      rw [I.ext' h0, I.ext' h1, I.ext' h2, I.ext' h3]

theorem cmp_le (a b : U) (h : a.val ≤ b.val) : I.leb (cmpS a b) (I.of .i64 0) = true := by
  unfold cmpS
  split
  · rfl
  · rw [if_neg (by omega)]; rfl

theorem cmp_lt (a b : U) (h : a.val < b.val) : I.ltb (cmpS a b) (I.of .i64 0) = true := by
  unfold cmpS
  rw [if_pos h]; rfl

end Sym

/- Quotients of 512 by 256 bits. -/
namespace Sym
open Go

theorem u256_FromUint64 (x : I .u64) : uint256_FromUint64 ((x, ()), ()) = some ((u64U x, ()), ()) := rfl

theorem SatSub_ok (a b : U) : uint256_SaturatingSub ((a, b, ()), ()) = some ((U.of (a.val - b.val), ()), ()) := by
  refine Wp.out (T := fun o => o = _) ?_
  unfold uint256_SaturatingSub
  refine Wp.optF (uint256_Sub_eq a b) ?_
  unfold subS
  by_cases h : b.val ≤ a.val
  · rw [if_pos h]; rfl
  · rw [if_neg h, show a.val - b.val = 0 by omega]; rfl

theorem or_add (x y : I .u64) (n : Nat) (hy : y.nat < 2 ^ n) (hx : x.nat % 2 ^ n = 0) : (I.or x y).nat = x.nat + y.nat := by
  have h1 : (BitVec.ofInt 64 x.val).toNat = x.nat := by have := u64_range x; rw [BitVec.toNat_ofInt]; unfold I.nat; omega
  have h2 : (BitVec.ofInt 64 y.val).toNat = y.nat := by have := u64_range y; rw [BitVec.toNat_ofInt]; unfold I.nat; omega
  have h3 : (BitVec.ofInt IntKind.u64.bits x.val ||| BitVec.ofInt IntKind.u64.bits y.val).toNat = x.nat ||| y.nat := by
    show (BitVec.ofInt 64 x.val ||| BitVec.ofInt 64 y.val).toNat = _
    rw [BitVec.toNat_or, h1, h2]
  have hlt : x.nat ||| y.nat < 2 ^ 64 := Nat.or_lt_two_pow (nat_lt x) (nat_lt y)
  have h4 : x.nat ||| y.nat = x.nat + y.nat := by
    have e : x.nat = (x.nat / 2 ^ n) <<< n := by
      rw [Nat.shiftLeft_eq]
      have := Nat.div_add_mod x.nat (2 ^ n)
      rw [hx, Nat.add_zero, Nat.mul_comm] at this
      exact this.symm
    rw [e]
    exact (Nat.shiftLeft_add_eq_or_of_lt hy _).symm
  unfold I.or
  rw [h3, of_nat (by omega), h4]

theorem shl1_nat (x : I .u64) : (I.shl x (I.of .u64 1)).nat = 2 * x.nat % W64 := by
  have h1 := nat_val x
  have hm : min (I.of .u64 1).val.toNat IntKind.u64.bits = 1 := rfl
  unfold I.shl
  rw [hm]
  show (IntKind.u64.wrap (x.val * 2 ^ 1)).toNat = _ % 18446744073709551616
  rw [wrap_u64]
  have : (2 : Int) ^ 1 = 2 := by decide
  rw [this]
  omega

theorem shr63_nat (x : I .u64) : (I.shr x (I.of .u64 63)).nat = x.nat / 9223372036854775808 := by
  have c : (I.of .u64 63).nat = 63 := rfl
  rw [shr_nat _ _ (by decide), c]

theorem K0_four' : ∃ k, K0 = k + 4 := ⟨2 ^ 64 - 4, by rw [K0_eq]⟩

theorem sh_limb (x y : I .u64) : (I.or (I.shl x (I.of .u64 1)) (I.shr y (I.of .u64 63))).nat = 2 * x.nat % W64 + y.nat / 9223372036854775808 := by
  have hy := nat_lt y
  rw [or_add _ _ 1 (by rw [shr63_nat]; omega) (by rw [shl1_nat]; unfold W64; omega), shl1_nat, shr63_nat]

/-- Twice a number, and a bit. -/
theorem shiftLeft_ok (a : U) (bit : I .u64) (hb : bit.nat ≤ 1) : ∃ (r : U) (o : I .u64), muldiv_shiftLeft ((a, bit, ()), ()) = some ((r, o, ()), ()) ∧ r.val + U.top * o.nat = 2 * a.val + bit.nat := by
  obtain ⟨k, hk⟩ := K0_four'
  obtain ⟨a0, a1, a2, a3, ⟨⟩⟩ := a
  refine ⟨(I.or (I.shl a0 (I.of .u64 1)) bit, I.or (I.shl a1 (I.of .u64 1)) (I.shr a0 (I.of .u64 63)), I.or (I.shl a2 (I.of .u64 1)) (I.shr a1 (I.of .u64 63)), I.or (I.shl a3 (I.of .u64 1)) (I.shr a2 (I.of .u64 63)), ()), I.shr a3 (I.of .u64 63), ?_, ?_⟩
  · refine Wp.out (T := fun o => o = _) ?_
    unfold muldiv_shiftLeft
    rw [hk]
    refine Wp.unroll (Wp.brnT rfl (Wp.brnT rfl (Wp.brnT rfl (Wp.brnT rfl (Wp.next ?_)))))
    refine Wp.unroll (Wp.brnT rfl (Wp.brnT rfl (Wp.brnT rfl (Wp.brnT rfl (Wp.next ?_)))))
    refine Wp.unroll (Wp.brnT rfl (Wp.brnT rfl (Wp.brnT rfl (Wp.brnT rfl (Wp.next ?_)))))
    refine Wp.unroll (Wp.brnF rfl (Wp.stop rfl))
  · have n0 := nat_lt a0
    have n1 := nat_lt a1
    have n2 := nat_lt a2
    have n3 := nat_lt a3
    unfold U.val U.top
    simp only
    rw [sh_limb, sh_limb, sh_limb, shr63_nat, or_add _ _ 1 (by omega) (by rw [shl1_nat]; unfold W64; omega), shl1_nat]
    unfold W64
    omega
end Sym
