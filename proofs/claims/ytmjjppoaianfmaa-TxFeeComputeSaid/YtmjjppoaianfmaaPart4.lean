/- Natural numbers by digits of 65536: sums, differences, comparison. -/
import Derived.Test.YtmjjppoaianfmaaPart3
namespace Sym
open Go

theorem rdL_out {X : Type} (d : X) : ∀ (l : List X) (i : Nat), l.length ≤ i → rdL d l i = d
  | [], _, _ => rfl
  | x :: l, 0, h => by simp at h
  | x :: l, i + 1, h => rdL_out d l i (by simpa using h)

abbrev rd0 (l : List Dg) (i : Nat) : Dg := rdL (I.of .i64 0) l i

theorem digOk0 : DigOk (I.of .i64 0) := by unfold DigOk; decide

theorem rd0_ok {l : List Dg} (h : Digs l) (i : Nat) : DigOk (rd0 l i) := by
  rcases Nat.lt_or_ge i l.length with hi | hi
  · rw [rd0, rdL_eq _ _ _ hi]; exact h _ (List.getElem_mem hi)
  · rw [rd0, rdL_out _ _ _ hi]; exact digOk0

theorem rd0_zero {l : List Dg} {i : Nat} (h : l.length ≤ i) : (rd0 l i).nat = 0 := by rw [rd0, rdL_out _ _ _ h]; rfl

theorem bv_drop : ∀ (l : List Dg) (i : Nat), bv (l.drop i) = (rd0 l i).nat + 65536 * bv (l.drop (i + 1))
  | [], i => by simp [bv, rd0, rdL]; rfl
  | x :: l, 0 => by simp [bv, rd0, rdL]
  | x :: l, i + 1 => by simpa [rd0, rdL] using bv_drop l i

theorem bv_take1 (l : List Dg) (i : Nat) : bv (l.take (i + 1)) = bv (l.take i) + 65536 ^ i * (rd0 l i).nat := by
  rcases Nat.lt_or_ge i l.length with hi | hi
  · rw [bv_take_succ hi, rd0, rdL_eq _ _ _ hi]
  · rw [rd0_zero hi, List.take_of_length_le (by omega), List.take_of_length_le hi]; simp

theorem lead_last : ∀ {l : List Dg}, Lead l → ∀ (i : Nat), i + 1 = l.length → (rd0 l i).val ≠ 0
  | [], _, i, h => by simp at h
  | [d], h, i, hi => by
    have : i = 0 := by simpa using hi
    subst this
    exact h
  | d :: e :: l, h, 0, hi => by simp at hi
  | d :: e :: l, h, i + 1, hi => lead_last (l := e :: l) h i (by simpa using hi)

structure AddInv (a b : List Dg) (over i : I .i64) (out : List Dg) : Prop where
  o0 : 0 ≤ over.val
  o1 : over.val ≤ 1
  i0 : 0 ≤ i.val
  i1 : i.val ≤ max a.length b.length ∨ (over.val = 0 ∧ i.val = max a.length b.length + 1)
  len : (out.length : Int) = i.val
  dig : Digs out
  sum : bv out + 65536 ^ i.val.toNat * (over.nat + bv (a.drop i.val.toNat) + bv (b.drop i.val.toNat)) = bv a + bv b
  lead : over.val = 0 → (a.length : Int) ≤ i.val → (b.length : Int) ≤ i.val → Lead out

theorem add_step {a b : List Dg} {over i s : I .i64} {out : List Dg} (ha : Digs a) (hb : Digs b) (la : Lead a) (lb : Lead b) (hal : a.length ≤ 1000000) (hbl : b.length ≤ 1000000) (h : AddInv a b over i out)
    (hc : i.val < a.length ∨ i.val < b.length ∨ 0 < over.val) (hs : s.val = over.val + (rd0 a i.val.toNat).val + (rd0 b i.val.toNat).val) :
    AddInv a b (I.shr s (I.of .u64 16)) (I.add i (I.of .i64 1)) (appL out [I.and s (I.of .i64 65535)]) := by
  have c1 : (I.of .i64 1).val = 1 := rfl
  have da := rd0_ok ha i.val.toNat
  have db := rd0_ok hb i.val.toNat
  have da2 := da.nat
  have db2 := db.nat
  unfold DigOk at da db
  have ho0 := h.o0
  have ho1 := h.o1
  have hi0 := h.i0
  have hi1 := h.i1
  have hsh := shr_i64_16 s (by omega)
  have han := and_i64 s (by omega)
  have hi : (I.add i (I.of .i64 1)).val = i.val + 1 := by rw [add_i64 (by omega)]; omega
  have hin : (I.add i (I.of .i64 1)).val.toNat = i.val.toNat + 1 := by omega
  have hout : out.length = i.val.toNat := by have := h.len; omega
  refine ⟨by omega, by omega, by omega, ?_, ?_, ?_, ?_, ?_⟩
  · rcases hi1 with hi1 | hi1
    · rcases Int.lt_or_le i.val (max a.length b.length) with hlt | hge
      · left; omega
      · right
        have z1 := rd0_zero (l := a) (i := i.val.toNat) (by omega)
        have z2 := rd0_zero (l := b) (i := i.val.toNat) (by omega)
        omega
    · exfalso; omega
  · show ((appL out [_]).length : Int) = _
    simp only [appL, List.length_append, List.length_singleton]
    have := h.len
    omega
  · exact digs_app.2 ⟨h.dig, digs_cons.2 ⟨by unfold DigOk; omega, fun _ h => by simp at h⟩⟩
  · have hsum := h.sum
    rw [bv_drop a, bv_drop b] at hsum
    rw [hin]
    have hn1 : (I.and s (I.of .i64 65535)).nat + 65536 * (I.shr s (I.of .u64 16)).nat = over.nat + (rd0 a i.val.toNat).nat + (rd0 b i.val.toNat).nat := by
      unfold I.nat at *
      omega
    have e : over.nat + ((rd0 a i.val.toNat).nat + 65536 * bv (a.drop (i.val.toNat + 1))) + ((rd0 b i.val.toNat).nat + 65536 * bv (b.drop (i.val.toNat + 1))) =
        (I.and s (I.of .i64 65535)).nat + 65536 * ((I.shr s (I.of .u64 16)).nat + bv (a.drop (i.val.toNat + 1)) + bv (b.drop (i.val.toNat + 1))) := by omega
    rw [e, Nat.mul_add, ← Nat.mul_assoc] at hsum
    rw [← hsum, appL, bv_app, hout, Nat.pow_succ]
    simp only [bv, Nat.mul_zero, Nat.add_zero]
    omega
  · intro hz h1 h2
    refine lead_snoc _ _ ?_
    intro hz2
    have hs0 : s.val = 0 := by omega
    rcases hc with hc | hc | hc
    · have := lead_last la i.val.toNat (by omega)
      omega
    · have := lead_last lb i.val.toNat (by omega)
      omega
    · omega

theorem Add_ok {a b : List Dg} {m n : Nat} (ha : IsB a m) (hb : IsB b n) (hal : a.length ≤ 1000000) (hbl : b.length ≤ 1000000) : ∃ r, pontageref1_Add ((a, b, ()), ()) = some ((r, ()), ()) ∧ IsB r (m + n) := by
  have hol : (I.ofNat .i64 (lenL a)).val = a.length := ofNat_i64 (by show a.length < _; omega)
  have hol2 : (I.ofNat .i64 (lenL b)).val = b.length := ofNat_i64 (by show b.length < _; omega)
  have c0 : (I.of .i64 0).val = 0 := rfl
  have key : Wp (fun o => ∃ r, o = some ((r, ()), ()) ∧ IsB r (m + n)) (pontageref1_Add ((a, b, ()), ())) := by
    unfold pontageref1_Add
    refine Wp.iter (fun x => x.1.1 = a ∧ x.1.2.1 = b ∧ AddInv a b x.1.2.2.1 x.1.2.2.2.1 x.2.1) (fun x => ((max a.length b.length : Int) + 2 - x.1.2.2.2.1.val).toNat) ?_ ?_ ?_
    · rintro ⟨⟨a', b', over, i, ⟨⟩⟩, out, ⟨⟩⟩ ⟨e1, e2, hI⟩
      simp only at e1 e2 hI
      subst e1 e2
      have hi0 := hI.i0
      have hi1 := hI.i1
      have ho0 := hI.o0
      have ho1 := hI.o1
      have again : ∀ (s : I .i64), (i.val < a'.length ∨ i.val < b'.length ∨ 0 < over.val) → s.val = over.val + (rd0 a' i.val.toNat).val + (rd0 b' i.val.toNat).val →
          AddInv a' b' (I.shr s (I.of .u64 16)) (I.add i (I.of .i64 1)) (appL out [I.and s (I.of .i64 65535)]) ∧ ((max a'.length b'.length : Int) + 2 - (I.add i (I.of .i64 1)).val).toNat < ((max a'.length b'.length : Int) + 2 - i.val).toNat := by
        intro s hc hs
        refine ⟨add_step ha.dig hb.dig ha.lead hb.lead hal hbl hI hc hs, ?_⟩
        have c1 : (I.of .i64 1).val = 1 := rfl
        have hi : (I.add i (I.of .i64 1)).val = i.val + 1 := by rw [add_i64 (by omega)]; omega
        omega
      have fits : fitsLen (lenL (appL out [I.of .i64 0])) = true := iff_fits.2 (by show (appL out [_]).length ≤ _; rw [appL, List.length_append, List.length_singleton]; have := hI.len; omega)
      have fits' : ∀ d : Dg, fitsLen (lenL (appL out [d])) = true := fun d => iff_fits.2 (by show (appL out [_]).length ≤ _; rw [appL, List.length_append, List.length_singleton]; have := hI.len; omega)
      refine Wp.jn (fun x => x.1.1 = a' ∧ x.1.2.1 = b' ∧ x.1.2.2.1 = over ∧ x.1.2.2.2.1 = i ∧ x.2.1 = out ∧ (i.val < a'.length ∨ i.val < b'.length ∨ 0 < over.val)) ?_ ?_
      · rintro ⟨⟨a1, b1, over1, i1, ⟨⟩⟩, out1, ⟨⟩⟩ ⟨e1, e2, e3, e4, e5, hc⟩
        simp only at e1 e2 e3 e4 e5
        subst e1 e2 e3 e4 e5
        have ra := rd0_ok ha.dig i1.val.toNat
        have rb := rd0_ok hb.dig i1.val.toNat
        unfold DigOk at ra rb
        refine Wp.jn (fun x => x.1.1 = a1 ∧ x.1.2.1 = b1 ∧ x.1.2.2.1.val = over1.val + (rd0 a1 i1.val.toNat).val ∧ x.1.2.2.2.1 = i1 ∧ x.2.1 = out1) ?_ ?_
        · rintro ⟨⟨a2, b2, over2, i2, ⟨⟩⟩, out2, ⟨⟩⟩ ⟨e1, e2, e3, e4, e5⟩
          simp only at e1 e2 e3 e4 e5
          subst e1 e2 e4 e5
          refine Wp.brn (fun h => ?_) (fun h => ?_)
          · have h := iff_ltb.1 h
            simp only [hol2] at h
            refine Wp.brnT (iff_inB.2 ⟨hi0, by show i2.val < ((b2.length : Nat) : Int); omega⟩) ?_
            have hs : (I.add over2 (rd0 b2 i2.val.toNat)).val = over1.val + (rd0 a2 i2.val.toNat).val + (rd0 b2 i2.val.toNat).val := by rw [add_i64 (by omega)]; omega
            have := again _ hc hs
            exact Wp.brnT (fits' _) (Wp.again ⟨rfl, rfl, this.1⟩ this.2)
          · have h := niff_ltb.1 h
            simp only [hol2] at h
            have hz := rd0_zero (l := b2) (i := i2.val.toNat) (by omega)
            have hz2 : (rd0 b2 i2.val.toNat).val = 0 := by unfold I.nat at hz; omega
            have := again over2 hc (by omega)
            exact Wp.brnT (fits' _) (Wp.again ⟨rfl, rfl, this.1⟩ this.2)
        · intro j2 hj2
          refine Wp.brn (fun h => ?_) (fun h => ?_)
          · have h := iff_ltb.1 h
            simp only [hol] at h
            refine Wp.brnT (iff_inB.2 ⟨hi0, by show i1.val < ((a1.length : Nat) : Int); omega⟩) ?_
            exact hj2 _ ⟨rfl, rfl, add_i64 (by show _ ≤ over1.val + (rd0 a1 i1.val.toNat).val ∧ over1.val + (rd0 a1 i1.val.toNat).val < _; omega), rfl, rfl⟩
          · have h := niff_ltb.1 h
            simp only [hol] at h
            have hz := rd0_zero (l := a1) (i := i1.val.toNat) (by omega)
            have hz2 : (rd0 a1 i1.val.toNat).val = 0 := by unfold I.nat at hz; omega
            exact hj2 _ ⟨rfl, rfl, by show over1.val = _; omega, rfl, rfl⟩
      · intro j1 hj1
        refine Wp.brn (fun h => ?_) (fun h => ?_)
        · have h := iff_ltb.1 h
          simp only [hol] at h
          exact hj1 _ ⟨rfl, rfl, rfl, rfl, rfl, .inl h⟩
        · have h := niff_ltb.1 h
          simp only [hol] at h
          refine Wp.brn (fun h2 => ?_) (fun h2 => ?_)
          · have h2 := iff_ltb.1 h2
            simp only [hol2] at h2
            exact hj1 _ ⟨rfl, rfl, rfl, rfl, rfl, .inr (.inl h2)⟩
          · have h2 := niff_ltb.1 h2
            simp only [hol2] at h2
            refine Wp.brn (fun h3 => ?_) (fun h3 => ?_)
            · have h3 := iff_ltb.1 h3
              simp only [c0] at h3
              exact hj1 _ ⟨rfl, rfl, rfl, rfl, rfl, .inr (.inr h3)⟩
            · have h3 := niff_ltb.1 h3
              simp only [c0] at h3
              refine Wp.done ⟨out, rfl, hI.dig, hI.lead (by omega) (by omega) (by omega), ?_⟩
              have hsum := hI.sum
              have hz : over.nat = 0 := by unfold I.nat; omega
              rw [List.drop_of_length_le (l := a') (by omega), List.drop_of_length_le (l := b') (by omega), hz] at hsum
              simp only [bv, Nat.mul_zero, Nat.add_zero] at hsum
              rw [hsum, ha.val, hb.val]
    · refine ⟨rfl, rfl, ?_⟩
      show AddInv a b (I.of .i64 0) (I.of .i64 0) []
      refine ⟨by decide, by decide, by decide, ?_, rfl, fun _ h => by simp at h, ?_, fun _ _ _ => trivial⟩
      · left; show (I.of .i64 0).val ≤ _; omega
      · show bv [] + 65536 ^ (I.of .i64 0).val.toNat * ((I.of .i64 0).nat + bv (a.drop (I.of .i64 0).val.toNat) + bv (b.drop (I.of .i64 0).val.toNat)) = _
        have e : (I.of .i64 0).val.toNat = 0 := rfl
        have e2 : (I.of .i64 0).nat = 0 := rfl
        rw [e, e2]
        simp [bv]
    · exact K0_ge _ (by show ((max a.length b.length : Int) + 2 - (I.of .i64 0).val).toNat < _; omega)
  exact key.out
end Sym

/- Natural numbers by digits of 65536: differences, comparison. -/
namespace Sym
open Go

theorem repL_digs : ∀ (n : Nat), Digs (repL n (I.of .i64 0))
  | 0 => fun _ h => by simp [repL] at h
  | n + 1 => digs_cons.2 ⟨digOk0, repL_digs n⟩

theorem repL_length {X : Type} : ∀ (n : Nat) (x : X), (repL n x).length = n
  | 0, _ => rfl
  | n + 1, x => by simp [repL, repL_length n x]

theorem take_set_succ {X : Type} (l : List X) (i : Nat) (v : X) (h : i < l.length) : (l.set i v).take (i + 1) = l.take i ++ [v] := by
  have h2 : i < (l.set i v).length := by simpa using h
  rw [← List.take_append_getElem h2]
  simp [List.take_set_of_le]

theorem digs_set {l : List Dg} (h : Digs l) (i : Nat) {d : Dg} (hd : DigOk d) : Digs (l.set i d) := by
  intro e he
  rcases List.mem_or_eq_of_mem_set he with h1 | h1
  · exact h e h1
  · subst h1; exact hd

structure SubInv (a b : List Dg) (under i : I .i64) (out : List Dg) : Prop where
  u0 : 0 ≤ under.val
  u1 : under.val ≤ 1
  i0 : 0 ≤ i.val
  i1 : i.val ≤ a.length
  len : out.length = a.length
  dig : Digs out
  sum : bv (out.take i.val.toNat) + bv (b.take i.val.toNat) = bv (a.take i.val.toNat) + 65536 ^ i.val.toNat * under.nat

theorem sub_step {a b : List Dg} {under i d un : I .i64} {out : List Dg} (ha : Digs a) (hb : Digs b) (hal : a.length ≤ 1000000) (h : SubInv a b under i out) (hc : i.val < a.length)
    (hd : DigOk d) (hu : un.val = 0 ∨ un.val = 1) (hs : d.val = (rd0 a i.val.toNat).val - under.val - (rd0 b i.val.toNat).val + 65536 * un.val) :
    SubInv a b un (I.add i (I.of .i64 1)) (setAt out (I.nat i) d) := by
  have c1 : (I.of .i64 1).val = 1 := rfl
  have da2 := (rd0_ok ha i.val.toNat).nat
  have db2 := (rd0_ok hb i.val.toNat).nat
  have hd2 := hd.nat
  have hu0 := h.u0
  have hu1 := h.u1
  have hi0 := h.i0
  have hi : (I.add i (I.of .i64 1)).val = i.val + 1 := by rw [add_i64 (by omega)]; omega
  have hin : (I.add i (I.of .i64 1)).val.toNat = i.val.toNat + 1 := by omega
  have hlen := h.len
  have hni : I.nat i = i.val.toNat := rfl
  rw [setAt_eq, hni]
  refine ⟨by omega, by omega, by omega, by omega, by simpa using hlen, digs_set h.dig _ hd, ?_⟩
  rw [hin, take_set_succ _ _ _ (by omega), bv_app, bv_take1 a, bv_take1 b]
  have el : (out.take i.val.toNat).length = i.val.toNat := by simp; omega
  rw [el, Nat.pow_succ]
  simp only [bv, Nat.mul_zero, Nat.add_zero]
  have hsum := h.sum
  have e : d.nat + (rd0 b i.val.toNat).nat + under.nat = (rd0 a i.val.toNat).nat + 65536 * un.nat := by
    unfold I.nat at *
    omega
  have e2 := congrArg (fun z => 65536 ^ i.val.toNat * z) e
  simp only [Nat.mul_add] at e2
  rw [← Nat.mul_assoc] at e2
  omega

theorem Sub_ok {a b : List Dg} {m n : Nat} (ha : IsB a m) (hb : IsB b n) (hmn : n ≤ m) (hal : a.length ≤ 1000000) : ∃ r, pontageref1_Sub ((a, b, ()), ()) = some ((r, ()), ()) ∧ IsB r (m - n) := by
  have hbl : b.length ≤ a.length := hb.len.2 (Nat.lt_of_le_of_lt hmn (ha.len.1 (Nat.le_refl _)))
  have hol : (I.ofNat .i64 (lenL a)).val = a.length := ofNat_i64 (by show a.length < _; omega)
  have hol2 : (I.ofNat .i64 (lenL b)).val = b.length := ofNat_i64 (by show b.length < _; omega)
  have c0 : (I.of .i64 0).val = 0 := rfl
  have hn : I.nat (I.ofNat .i64 (lenL a)) = a.length := by unfold I.nat; omega
  have key : Wp (fun o => ∃ r, o = some ((r, ()), ()) ∧ IsB r (m - n)) (pontageref1_Sub ((a, b, ()), ())) := by
    unfold pontageref1_Sub
    refine Wp.brnT ?_ ?_
    · show (decide (0 ≤ (I.ofNat .i64 (lenL a)).val) && decide ((I.ofNat .i64 (lenL a)).val ≤ ((I.nat (I.ofNat .i64 (lenL a)) : Nat) : Int))) = true
      rw [hn, hol]; simp
    refine Wp.brnT ?_ ?_
    · show (decide (0 ≤ (I.ofNat .i64 (lenL a)).val) && decide ((I.ofNat .i64 (lenL a)).val ≤ ((1073741824 : Nat) : Int))) = true
      rw [hol]; simp; omega
    refine Wp.iter (fun x => x.1.1 = a ∧ x.1.2.1 = b ∧ SubInv a b x.1.2.2.1 x.1.2.2.2.1 x.2.1) (fun x => ((a.length : Int) - x.1.2.2.2.1.val).toNat) ?_ ?_ ?_
    · rintro ⟨⟨a', b', under, i, ⟨⟩⟩, out, ⟨⟩⟩ ⟨e1, e2, hI⟩
      simp only at e1 e2 hI
      subst e1 e2
      have hi0 := hI.i0
      have hi1 := hI.i1
      have hu0 := hI.u0
      have hu1 := hI.u1
      refine Wp.brn (fun h => ?_) (fun h => ?_)
      · have hlt := iff_ltb.1 h
        simp only [hol] at hlt
        clear h
        have ra := rd0_ok ha.dig i.val.toNat
        have rb := rd0_ok hb.dig i.val.toNat
        have ra' := ra
        have rb' := rb
        unfold DigOk at ra rb
        have c1 : (I.of .i64 1).val = 1 := rfl
        have hi : (I.add i (I.of .i64 1)).val = i.val + 1 := by rw [add_i64 (by omega)]; omega
        have hm : ((a'.length : Int) - (I.add i (I.of .i64 1)).val).toNat < ((a'.length : Int) - i.val).toNat := by omega
        have hlen := hI.len
        refine Wp.brnT (iff_inB.2 ⟨hi0, by show i.val < ((a'.length : Nat) : Int); omega⟩) ?_
        refine Wp.jn (fun x => x.1.1 = a' ∧ x.1.2.1 = b' ∧ x.1.2.2.1 = i ∧ x.1.2.2.2.1.val = (rd0 a' i.val.toNat).val - under.val - (rd0 b' i.val.toNat).val ∧ x.2.1 = out) ?_ ?_
        · rintro ⟨⟨a1, b1, i1, x, ⟨⟩⟩, out1, ⟨⟩⟩ ⟨e1, e2, e3, e4, e5⟩
          simp only at e1 e2 e3 e4 e5
          subst e1 e2 e3 e5
          refine Wp.brn (fun h2 => ?_) (fun h2 => ?_)
          · have h2 := iff_ltb.1 h2
            simp only [c0] at h2
            refine Wp.brnT (iff_inB.2 ⟨hi0, by show i1.val < ((out1.length : Nat) : Int); omega⟩) ?_
            have c6 : (I.of .i64 65536).val = 65536 := rfl
            have hx : (I.add x (I.of .i64 65536)).val = x.val + 65536 := by rw [add_i64 (by omega)]; omega
            have st := sub_step (un := I.of .i64 1) (d := I.add x (I.of .i64 65536)) ha.dig hb.dig hal hI hlt (by unfold DigOk; omega) (.inr rfl) (by omega)
            exact Wp.again ⟨rfl, rfl, st⟩ hm
          · have h2 := niff_ltb.1 h2
            simp only [c0] at h2
            refine Wp.brnT (iff_inB.2 ⟨hi0, by show i1.val < ((out1.length : Nat) : Int); omega⟩) ?_
            have st := sub_step (un := I.of .i64 0) (d := x) ha.dig hb.dig hal hI hlt (by unfold DigOk; omega) (.inl rfl) (by omega)
            exact Wp.again ⟨rfl, rfl, st⟩ hm
        · intro j hj
          have hs1 : (I.sub (rd0 a' i.val.toNat) under).val = (rd0 a' i.val.toNat).val - under.val := sub_i64 (by omega)
          refine Wp.brn (fun h2 => ?_) (fun h2 => ?_)
          · have h2 := iff_ltb.1 h2
            simp only [hol2] at h2
            refine Wp.brnT (iff_inB.2 ⟨hi0, by show i.val < ((b'.length : Nat) : Int); omega⟩) ?_
            refine hj _ ⟨rfl, rfl, rfl, ?_, rfl⟩
            show (I.sub (I.sub (rd0 a' i.val.toNat) under) (rd0 b' i.val.toNat)).val = _
            rw [sub_i64 (by omega), hs1]
          · have h2 := niff_ltb.1 h2
            simp only [hol2] at h2
            have hz := rd0_zero (l := b') (i := i.val.toNat) (by omega)
            have hz2 : (rd0 b' i.val.toNat).val = 0 := by unfold I.nat at hz; omega
            refine hj _ ⟨rfl, rfl, rfl, ?_, rfl⟩
            show (I.sub (rd0 a' i.val.toNat) under).val = _
            omega
      · have h := niff_ltb.1 h
        simp only [hol] at h
        have hlen := hI.len
        have hsum := hI.sum
        have hi : i.val.toNat = a'.length := by omega
        rw [hi, List.take_of_length_le (by omega), List.take_of_length_le hbl, List.take_length, ha.val, hb.val] at hsum
        have hlt := bv_lt hI.dig
        rw [hlen] at hlt
        have hz : under.nat = 0 := by
          unfold I.nat
          rcases Int.lt_or_le under.val 1 with h1 | h1
          · omega
          · exfalso
            have : under.nat = 1 := by unfold I.nat; omega
            rw [this] at hsum
            omega
        rw [hz, Nat.mul_zero, Nat.add_zero] at hsum
        have hbv : bv out = m - n := by omega
        have holen : (I.ofNat .i64 (lenL out)).val = out.length := ofNat_i64 (by show out.length < _; omega)
        clear hsum h
        refine Wp.done ?_
        refine Wp.iter (fun x => x.2.1 = out ∧ 0 ≤ x.1.1.val ∧ x.1.1.val ≤ (out.length : Int) ∧ bv (out.take x.1.1.val.toNat) = bv out) (fun x => x.1.1.val.toNat) ?_ ?_ ?_
        · rintro ⟨⟨j, r⟩, out', ⟨⟩⟩ ⟨e1, hj0, hj1, hb⟩
          simp only at e1 hj0 hj1 hb
          subst e1
          have c1 : (I.of .i64 1).val = 1 := rfl
          have cut : inB' j (lenL out') = true := by
            show (decide (0 ≤ j.val) && decide (j.val ≤ ((out'.length : Nat) : Int))) = true
            simp [hj0, hj1]
          have sub : subL out' 0 (I.nat j) = out'.take j.val.toNat := by simp [subL, I.nat]
          refine Wp.brn (fun h => ?_) (fun h => ?_)
          · have h := iff_ltb.1 h
            have h : (I.of .i64 0).val < j.val := h
            have hs : (I.sub j (I.of .i64 1)).val = j.val - 1 := by rw [sub_i64 (by omega)]; omega
            have hidx : (I.nat (I.sub j (I.of .i64 1))) = j.val.toNat - 1 := by unfold I.nat; omega
            have hlt : j.val.toNat - 1 < out'.length := by omega
            have hrd : rdL (I.of .i64 0) out' (I.nat (I.sub j (I.of .i64 1))) = out'[j.val.toNat - 1] := by rw [hidx]; exact rdL_eq _ _ _ hlt
            have htk : out'.take j.val.toNat = out'.take (j.val.toNat - 1) ++ [out'[j.val.toNat - 1]] := by
              rw [List.take_append_getElem hlt]
              congr 1
              omega
            refine Wp.brnT (iff_inB.2 ⟨by show 0 ≤ (I.sub j (I.of .i64 1)).val; omega, by show (I.sub j (I.of .i64 1)).val < (out'.length : Int); omega⟩) ?_
            refine Wp.brn (fun h2 => ?_) (fun h2 => ?_)
            · have h2 := iff_eqb.1 h2
              have h2 : (rdL (I.of .i64 0) out' (I.nat (I.sub j (I.of .i64 1)))).val = (I.of .i64 0).val := h2
              rw [hrd] at h2
              refine Wp.again ⟨rfl, ?_, ?_, ?_⟩ ?_
              · show 0 ≤ (I.sub j (I.of .i64 1)).val; omega
              · show (I.sub j (I.of .i64 1)).val ≤ _; omega
              · show bv (out'.take (I.sub j (I.of .i64 1)).val.toNat) = _
                have e : (I.sub j (I.of .i64 1)).val.toNat = j.val.toNat - 1 := by omega
                rw [e, ← hb, htk, bv_app]
                have hz : (out'[j.val.toNat - 1]).nat = 0 := by unfold I.nat; rw [h2]; rfl
                simp [bv, hz]
              · show (I.sub j (I.of .i64 1)).val.toNat < j.val.toNat
                omega
            · have h2 := niff_eqb.1 h2
              have h2 : (rdL (I.of .i64 0) out' (I.nat (I.sub j (I.of .i64 1)))).val ≠ (I.of .i64 0).val := h2
              rw [hrd] at h2
              refine Wp.done (Wp.brnT cut ⟨_, rfl, ?_⟩)
              show IsB (subL out' 0 (I.nat j)) _
              rw [sub]
              refine ⟨digs_take hI.dig _, ?_, hb.trans hbv⟩
              rw [htk]
              exact lead_snoc _ _ h2
          · have h := niff_ltb.1 h
            have h : j.val ≤ (I.of .i64 0).val := h
            refine Wp.done (Wp.brnT cut ⟨_, rfl, ?_⟩)
            show IsB (subL out' 0 (I.nat j)) _
            rw [sub]
            have e : j.val.toNat = 0 := by omega
            rw [e] at hb ⊢
            simp only [List.take_zero] at hb ⊢
            rw [← hbv, ← hb]
            exact isB_nil
        · refine ⟨rfl, ?_, ?_, ?_⟩
          · show 0 ≤ (I.ofNat .i64 (lenL out)).val; omega
          · show (I.ofNat .i64 (lenL out)).val ≤ _; omega
          · show bv (out.take (I.ofNat .i64 (lenL out)).val.toNat) = _
            rw [holen, Int.toNat_natCast, List.take_length]
        · refine K0_ge _ ?_
          show (I.ofNat .i64 (lenL out)).val.toNat < _
          omega
    · refine ⟨rfl, rfl, ?_⟩
      show SubInv a b (I.of .i64 0) (I.of .i64 0) (repL (I.nat (I.ofNat .i64 (lenL a))) (I.of .i64 0))
      rw [hn]
      have e : (I.of .i64 0).val.toNat = 0 := rfl
      refine ⟨by decide, by decide, by decide, by omega, repL_length _ _, repL_digs _, ?_⟩
      rw [e]
      rfl
    · exact K0_ge _ (by show ((a.length : Int) - (I.of .i64 0).val).toNat < _; omega)
  exact key.out

/-- -1, 0 or 1. -/
def cmpN (m n : Nat) : I .i64 := if m < n then I.of .i64 (-1) else if n < m then I.of .i64 1 else I.of .i64 0

theorem cmp_at {a b : List Dg} (ha : Digs a) (hb : Digs b) (i : Nat) (hd : bv (a.drop (i + 1)) = bv (b.drop (i + 1))) (hlt : (rd0 a i).nat < (rd0 b i).nat) (hia : i ≤ a.length) (hib : i ≤ b.length) : bv a < bv b := by
  have e1 : bv a = bv (a.take i) + 65536 ^ i * bv (a.drop i) := by
    have := bv_app (a.take i) (a.drop i)
    rw [List.take_append_drop] at this
    rw [this]; simp [Nat.min_eq_left hia]
  have e2 : bv b = bv (b.take i) + 65536 ^ i * bv (b.drop i) := by
    have := bv_app (b.take i) (b.drop i)
    rw [List.take_append_drop] at this
    rw [this]; simp [Nat.min_eq_left hib]
  have h1 := bv_lt (digs_take ha i)
  rw [List.length_take, Nat.min_eq_left hia] at h1
  have h2 : bv (a.drop i) + 1 ≤ bv (b.drop i) := by rw [bv_drop a, bv_drop b]; omega
  have h3 := Nat.mul_le_mul_left (65536 ^ i) h2
  rw [Nat.mul_add] at h3
  omega

theorem Cmp_ok {a b : List Dg} {m n : Nat} (ha : IsB a m) (hb : IsB b n) (hal : a.length ≤ 1000000) (hbl : b.length ≤ 1000000) : pontageref1_Cmp ((a, b, ()), ()) = some ((cmpN m n, ()), ()) := by
  have hol : (I.ofNat .i64 (lenL a)).val = a.length := ofNat_i64 (by show a.length < _; omega)
  have hol2 : (I.ofNat .i64 (lenL b)).val = b.length := ofNat_i64 (by show b.length < _; omega)
  have c0 : (I.of .i64 0).val = 0 := rfl
  have c1 : (I.of .i64 1).val = 1 := rfl
  have key : Wp (fun o => o = some ((cmpN m n, ()), ())) (pontageref1_Cmp ((a, b, ()), ())) := by
    unfold pontageref1_Cmp
    refine Wp.brn (fun h => ?_) (fun h => ?_)
    · have h := iff_neb.1 h
      simp only [hol, hol2] at h
      refine Wp.brn (fun h2 => ?_) (fun h2 => ?_)
      · have h2 := iff_ltb.1 h2
        simp only [hol, hol2] at h2
        have h3 : m < n := by
          rcases Nat.lt_or_ge m n with h3 | h3
          · exact h3
          · have := hb.len.2 (Nat.lt_of_le_of_lt h3 (ha.len.1 (Nat.le_refl _)))
            omega
        show _ = _
        unfold cmpN
        rw [if_pos h3]
        rfl
      · have h2 := niff_ltb.1 h2
        simp only [hol, hol2] at h2
        have h3 : n < m := by
          rcases Nat.lt_or_ge n m with h3 | h3
          · exact h3
          · have := ha.len.2 (Nat.lt_of_le_of_lt h3 (hb.len.1 (Nat.le_refl _)))
            omega
        show _ = _
        unfold cmpN
        rw [if_neg (by omega), if_pos h3]
        rfl
    · have h := niff_neb.1 h
      simp only [hol, hol2] at h
      have hs : (I.sub (I.ofNat .i64 (lenL a)) (I.of .i64 1)).val = a.length - 1 := by rw [sub_i64 (by omega)]; omega
      refine Wp.iter (fun x => x.1.1 = a ∧ x.1.2.1 = b ∧ -1 ≤ x.1.2.2.1.val ∧ x.1.2.2.1.val < (a.length : Int) ∧ bv (a.drop (x.1.2.2.1.val + 1).toNat) = bv (b.drop (x.1.2.2.1.val + 1).toNat)) (fun x => (x.1.2.2.1.val + 1).toNat) ?_ ?_ ?_
      · rintro ⟨⟨a', b', i, ⟨⟩⟩, ⟨⟩⟩ ⟨e1, e2, hi0, hi1, hd⟩
        simp only at e1 e2 hi0 hi1 hd
        subst e1 e2
        refine Wp.brn (fun h2 => ?_) (fun h2 => ?_)
        · have h2 := iff_leb.1 h2
          simp only [c0] at h2
          have ha1 : inB i (lenL a') = true := iff_inB.2 ⟨h2, by show i.val < ((a'.length : Nat) : Int); omega⟩
          have hb1 : inB i (lenL b') = true := iff_inB.2 ⟨h2, by show i.val < ((b'.length : Nat) : Int); omega⟩
          have en : (i.val + 1).toNat = i.val.toNat + 1 := by omega
          rw [en] at hd
          have na := (rd0_ok ha.dig i.val.toNat).nat
          have nb := (rd0_ok hb.dig i.val.toNat).nat
          refine Wp.brnT ha1 (Wp.brnT hb1 ?_)
          refine Wp.brn (fun h3 => ?_) (fun h3 => ?_)
          · have h3 := iff_ltb.1 h3
            have h3 : (rd0 a' i.val.toNat).val < (rd0 b' i.val.toNat).val := h3
            have := cmp_at ha.dig hb.dig i.val.toNat hd (by omega) (by omega) (by omega)
            rw [ha.val, hb.val] at this
            refine Wp.done ?_
            show _ = _
            unfold cmpN
            rw [if_pos this]
            rfl
          · have h3 := niff_ltb.1 h3
            have h3 : (rd0 b' i.val.toNat).val ≤ (rd0 a' i.val.toNat).val := h3
            refine Wp.brnT ha1 (Wp.brnT hb1 ?_)
            refine Wp.brn (fun h4 => ?_) (fun h4 => ?_)
            · have h4 := iff_ltb.1 h4
              have h4 : (rd0 b' i.val.toNat).val < (rd0 a' i.val.toNat).val := h4
              have := cmp_at hb.dig ha.dig i.val.toNat hd.symm (by omega) (by omega) (by omega)
              rw [ha.val, hb.val] at this
              refine Wp.done ?_
              show _ = _
              unfold cmpN
              rw [if_neg (by omega), if_pos this]
              rfl
            · have h4 := niff_ltb.1 h4
              have h4 : (rd0 a' i.val.toNat).val ≤ (rd0 b' i.val.toNat).val := h4
              have hsi : (I.sub i (I.of .i64 1)).val = i.val - 1 := by rw [sub_i64 (by omega)]; omega
              refine Wp.again ⟨rfl, rfl, ?_, ?_, ?_⟩ ?_
              · show -1 ≤ (I.sub i (I.of .i64 1)).val; omega
              · show (I.sub i (I.of .i64 1)).val < _; omega
              · show bv (a'.drop ((I.sub i (I.of .i64 1)).val + 1).toNat) = bv (b'.drop ((I.sub i (I.of .i64 1)).val + 1).toNat)
                have e : ((I.sub i (I.of .i64 1)).val + 1).toNat = i.val.toNat := by omega
                rw [e, bv_drop a', bv_drop b', hd]
                omega
              · show ((I.sub i (I.of .i64 1)).val + 1).toNat < _
                simp only; omega
        · have h2 := niff_leb.1 h2
          simp only [c0] at h2
          have e : (i.val + 1).toNat = 0 := by omega
          rw [e] at hd
          simp only [List.drop_zero] at hd
          rw [ha.val, hb.val] at hd
          refine Wp.done ?_
          show _ = _
          unfold cmpN
          rw [if_neg (by omega), if_neg (by omega)]
          rfl
      · refine ⟨rfl, rfl, ?_, ?_, ?_⟩
        · show -1 ≤ (I.sub (I.ofNat .i64 (lenL a)) (I.of .i64 1)).val; omega
        · show (I.sub (I.ofNat .i64 (lenL a)) (I.of .i64 1)).val < _; omega
        · show bv (a.drop ((I.sub (I.ofNat .i64 (lenL a)) (I.of .i64 1)).val + 1).toNat) = bv (b.drop ((I.sub (I.ofNat .i64 (lenL a)) (I.of .i64 1)).val + 1).toNat)
          have e : ((I.sub (I.ofNat .i64 (lenL a)) (I.of .i64 1)).val + 1).toNat = a.length := by omega
          rw [e, List.drop_of_length_le (Nat.le_refl _), List.drop_of_length_le (by omega)]
      · exact K0_ge _ (by show ((I.sub (I.ofNat .i64 (lenL a)) (I.of .i64 1)).val + 1).toNat < _; omega)
  exact key.out
end Sym

/- Limbs of 256 bits; products of 64 bits. -/
namespace Sym
open Go

abbrev W64 : Nat := 18446744073709551616

/-- The i-th limb. -/
def limb' (a : U) (i : Nat) : Nat := (Arr.sel (I.of .u64 0) 4 a i).nat

theorem limb_lt (a : U) (i : Nat) : limb' a i < W64 := nat_lt _

theorem limb_mod (a : U) (i : Nat) (h : i < 4) : a.val % W64 ^ (i + 1) = a.val % W64 ^ i + W64 ^ i * limb' a i := by
  obtain ⟨a0, a1, a2, a3, ⟨⟩⟩ := a
  have n0 := nat_lt a0
  have n1 := nat_lt a1
  have n2 := nat_lt a2
  have n3 := nat_lt a3
  have p0 : W64 ^ 0 = 1 := by decide
  have p1 : W64 ^ 1 = 18446744073709551616 := by decide
  have p2 : W64 ^ 2 = 340282366920938463463374607431768211456 := by decide
  have p3 : W64 ^ 3 = 6277101735386680763835789423207666416102355444464034512896 := by decide
  have p4 : W64 ^ 4 = 115792089237316195423570985008687907853269984665640564039457584007913129639936 := by decide
  have hc : i = 0 ∨ i = 1 ∨ i = 2 ∨ i = 3 := by omega
  rcases hc with rfl | rfl | rfl | rfl
  · show U.val _ % W64 ^ 1 = U.val _ % W64 ^ 0 + W64 ^ 0 * a0.nat
    rw [p0, p1]; unfold U.val; simp only; omega
  · show U.val _ % W64 ^ 2 = U.val _ % W64 ^ 1 + W64 ^ 1 * a1.nat
    rw [p1, p2]; unfold U.val; simp only; omega
  · show U.val _ % W64 ^ 3 = U.val _ % W64 ^ 2 + W64 ^ 2 * a2.nat
    rw [p2, p3]; unfold U.val; simp only; omega
  · show U.val _ % W64 ^ 4 = U.val _ % W64 ^ 3 + W64 ^ 3 * a3.nat
    rw [p3, p4]; unfold U.val; simp only; omega

theorem upd_val (a : U) (i : Nat) (z : I .u64) (h : i < 4) : U.val (Arr.upd 4 a i z) + W64 ^ i * limb' a i = a.val + W64 ^ i * z.nat := by
  obtain ⟨a0, a1, a2, a3, ⟨⟩⟩ := a
  have p0 : W64 ^ 0 = 1 := by decide
  have p1 : W64 ^ 1 = 18446744073709551616 := by decide
  have p2 : W64 ^ 2 = 340282366920938463463374607431768211456 := by decide
  have p3 : W64 ^ 3 = 6277101735386680763835789423207666416102355444464034512896 := by decide
  have hc : i = 0 ∨ i = 1 ∨ i = 2 ∨ i = 3 := by omega
  rcases hc with rfl | rfl | rfl | rfl
  · show U.val (z, a1, a2, a3, ()) + W64 ^ 0 * a0.nat = U.val (a0, a1, a2, a3, ()) + W64 ^ 0 * z.nat
    rw [p0]; unfold U.val; simp only; omega
  · show U.val (a0, z, a2, a3, ()) + W64 ^ 1 * a1.nat = U.val (a0, a1, a2, a3, ()) + W64 ^ 1 * z.nat
    rw [p1]; unfold U.val; simp only; omega
  · show U.val (a0, a1, z, a3, ()) + W64 ^ 2 * a2.nat = U.val (a0, a1, a2, a3, ()) + W64 ^ 2 * z.nat
    rw [p2]; unfold U.val; simp only; omega
  · show U.val (a0, a1, a2, z, ()) + W64 ^ 3 * a3.nat = U.val (a0, a1, a2, a3, ()) + W64 ^ 3 * z.nat
    rw [p3]; unfold U.val; simp only; omega

theorem and_low (x : I .u64) (n : Nat) (m : I .u64) (hn : n < 64) (hm : m.val = ((2 ^ n - 1 : Nat) : Int)) : (I.and x m).nat = x.nat % 2 ^ n := by
  have hx := u64_range x
  have h1 : (BitVec.ofInt 64 x.val).toNat = x.nat := by rw [BitVec.toNat_ofInt]; unfold I.nat; omega
  have hp : 2 ^ n ≤ 2 ^ 63 := Nat.pow_le_pow_right (by decide) (by omega)
  have h2 : (BitVec.ofInt 64 m.val).toNat = 2 ^ n - 1 := by rw [BitVec.toNat_ofInt, hm]; omega
  have h3 : (BitVec.ofInt IntKind.u64.bits x.val &&& BitVec.ofInt IntKind.u64.bits m.val).toNat = x.nat % 2 ^ n := by
    show (BitVec.ofInt 64 x.val &&& BitVec.ofInt 64 m.val).toNat = _
    rw [BitVec.toNat_and, h1, h2, Nat.and_two_pow_sub_one_eq_mod]
  unfold I.and
  rw [h3]
  have h4 : x.nat % 2 ^ n < 2 ^ n := Nat.mod_lt _ (Nat.pow_pos (by decide))
  exact of_nat (by omega)

theorem shr_nat (x s : I .u64) (hs : s.nat < 64) : (I.shr x s).nat = x.nat / 2 ^ s.nat := by
  have h0 := u64_range s
  have hx := u64_range x
  have h := shr_u64 x s (by unfold I.nat at hs; omega)
  have e : s.val.toNat = s.nat := rfl
  rw [e] at h
  have h1 : ((x.nat / 2 ^ s.nat : Nat) : Int) = x.val / (2 : Int) ^ s.nat := by
    rw [Int.natCast_ediv, nat_val]
    simp
  have := nat_val (I.shr x s)
  omega

theorem mul_nat (a b : I .u64) : (I.mul a b).nat = a.nat * b.nat % W64 := by
  have h1 := nat_val a
  have h2 := nat_val b
  unfold I.mul
  have : a.val * b.val = ((a.nat * b.nat : Nat) : Int) := by rw [← h1, ← h2, Int.natCast_mul]
  rw [this]
  show (IntKind.u64.wrap _).toNat = _ % 18446744073709551616
  rw [wrap_u64]
  omega
theorem add_nat (a b : I .u64) : (I.add a b).nat = (a.nat + b.nat) % W64 := by
  have h1 := nat_val a
  have h2 := nat_val b
  show (IntKind.u64.wrap (a.val + b.val)).toNat = _ % 18446744073709551616
  rw [wrap_u64]
  omega

theorem Mul64_ok (a b : I .u64) : ∃ hi lo : I .u64, math_bits_Mul64 ((a, b, ()), ()) = some ((hi, lo, ()), ()) ∧ lo.nat + W64 * hi.nat = a.nat * b.nat := by
  refine ⟨_, _, rfl, ?_⟩
  show (I.mul a b).nat + W64 * (I.add (I.add (I.mul (I.shr a (I.of .u64 32)) (I.shr b (I.of .u64 32))) (I.shr (I.add (I.mul (I.shr a (I.of .u64 32)) (I.and b (I.of .u64 4294967295))) (I.shr (I.mul (I.and a (I.of .u64 4294967295)) (I.and b (I.of .u64 4294967295))) (I.of .u64 32))) (I.of .u64 32)))
    (I.shr (I.add (I.and (I.add (I.mul (I.shr a (I.of .u64 32)) (I.and b (I.of .u64 4294967295))) (I.shr (I.mul (I.and a (I.of .u64 4294967295)) (I.and b (I.of .u64 4294967295))) (I.of .u64 32))) (I.of .u64 4294967295)) (I.mul (I.and a (I.of .u64 4294967295)) (I.shr b (I.of .u64 32)))) (I.of .u64 32))).nat = _
  have c32 : (I.of .u64 32).nat = 32 := rfl
  have p32 : 2 ^ 32 = 4294967296 := by decide
  have sh : ∀ x : I .u64, (I.shr x (I.of .u64 32)).nat = x.nat / 4294967296 := fun x => by rw [shr_nat _ _ (by decide), c32, p32]
  have an : ∀ x : I .u64, (I.and x (I.of .u64 4294967295)).nat = x.nat % 4294967296 := fun x => by rw [and_low x 32 _ (by decide) (by decide), p32]
  simp only [mul_nat, add_nat, sh, an]
  have ha := nat_lt a
  have hb := nat_lt b
  have ea : a.nat = 4294967296 * (a.nat / 4294967296) + a.nat % 4294967296 := by omega
  have eb : b.nat = 4294967296 * (b.nat / 4294967296) + b.nat % 4294967296 := by omega
  generalize hA1 : a.nat / 4294967296 = a1 at *
  generalize hA0 : a.nat % 4294967296 = a0 at *
  generalize hB1 : b.nat / 4294967296 = b1 at *
  generalize hB0 : b.nat % 4294967296 = b0 at *
  have la1 : a1 ≤ 4294967295 := by omega
  have la0 : a0 ≤ 4294967295 := by omega
  have lb1 : b1 ≤ 4294967295 := by omega
  have lb0 : b0 ≤ 4294967295 := by omega
  have m11 : a1 * b1 ≤ 4294967295 * 4294967295 := Nat.mul_le_mul la1 lb1
  have m10 : a1 * b0 ≤ 4294967295 * 4294967295 := Nat.mul_le_mul la1 lb0
  have m01 : a0 * b1 ≤ 4294967295 * 4294967295 := Nat.mul_le_mul la0 lb1
  have m00 : a0 * b0 ≤ 4294967295 * 4294967295 := Nat.mul_le_mul la0 lb0
  have prod : a.nat * b.nat = 18446744073709551616 * (a1 * b1) + 4294967296 * (a1 * b0) + 4294967296 * (a0 * b1) + a0 * b0 := by
    rw [ea, eb, Nat.add_mul, Nat.mul_add, Nat.mul_add]
    have e1 : 4294967296 * a1 * (4294967296 * b1) = 18446744073709551616 * (a1 * b1) := by
      rw [Nat.mul_mul_mul_comm]
    have e2 : 4294967296 * a1 * b0 = 4294967296 * (a1 * b0) := Nat.mul_assoc _ _ _
    have e3 : a0 * (4294967296 * b1) = 4294967296 * (a0 * b1) := Nat.mul_left_comm _ _ _
    rw [e1, e2, e3]
    omega
  rw [prod]
  generalize a1 * b1 = p11 at *
  generalize a1 * b0 = p10 at *
  generalize a0 * b1 = p01 at *
  generalize a0 * b0 = p00 at *
  clear ea eb prod ha hb hA1 hA0 hB1 hB0
  unfold W64
  omega
end Sym

/- Products of 256 bits. -/
namespace Sym
open Go

theorem or_zero (x y : I .u64) : I.neb (I.or x y) (I.of .u64 0) = false ↔ x.nat = 0 ∧ y.nat = 0 := by
  rw [niff_neb]
  have c0 : (I.of .u64 0).val = 0 := rfl
  have h1 : (BitVec.ofInt 64 x.val).toNat = x.nat := by have := u64_range x; rw [BitVec.toNat_ofInt]; unfold I.nat; omega
  have h2 : (BitVec.ofInt 64 y.val).toNat = y.nat := by have := u64_range y; rw [BitVec.toNat_ofInt]; unfold I.nat; omega
  have h3 : (BitVec.ofInt IntKind.u64.bits x.val ||| BitVec.ofInt IntKind.u64.bits y.val).toNat = x.nat ||| y.nat := by
    show (BitVec.ofInt 64 x.val ||| BitVec.ofInt 64 y.val).toNat = _
    rw [BitVec.toNat_or, h1, h2]
  have hlt : x.nat ||| y.nat < 2 ^ 64 := Nat.or_lt_two_pow (nat_lt x) (nat_lt y)
  have h4 : (I.or x y).val = ((x.nat ||| y.nat : Nat) : Int) := by
    unfold I.or
    rw [h3]
    exact of_u64 ⟨by omega, by omega⟩
  rw [h4, c0]
  constructor
  · intro h
    have : x.nat ||| y.nat = 0 := by omega
    exact Nat.or_eq_zero_iff.1 this
  · rintro ⟨h5, h6⟩
    rw [h5, h6]; rfl

theorem limb_le (a : U) (i : Nat) (h : i < 4) : W64 ^ i * limb' a i ≤ a.val := by
  have h1 := limb_mod a i h
  have h2 := Nat.mod_le a.val (W64 ^ (i + 1))
  rw [h1] at h2
  exact Nat.le_trans (Nat.le_add_left _ _) h2

theorem over_prod {a b : U} {i k : Nat} (hi : i < 4) (hk : k < 4) (h : 3 < i + k) (hp : limb' a i * limb' b k ≠ 0) : U.top ≤ a.val * b.val := by
  have h1 := Nat.mul_le_mul (limb_le a i hi) (limb_le b k hk)
  rw [Nat.mul_mul_mul_comm, ← Nat.pow_add] at h1
  have h2 : U.top = W64 ^ 4 := by decide
  have h3 : W64 ^ 4 ≤ W64 ^ (i + k) := Nat.pow_le_pow_right (by decide) (by omega)
  have h4 : W64 ^ (i + k) * 1 ≤ W64 ^ (i + k) * (limb' a i * limb' b k) := Nat.mul_le_mul_left _ (by omega)
  omega

theorem mod_mul_le (a b : U) (n : Nat) : (a.val % n) * b.val ≤ a.val * b.val := Nat.mul_le_mul_right _ (Nat.mod_le _ _)

theorem top_W : W64 ^ 4 = U.top := by decide

/-- One round of the inner loop, of numbers. -/
theorem mul_round {P c L B M i k hi lo z1 q1 z2 q2 p c' P' bk : Nat} (inv : P + c * W64 ^ (i + k) = M + L * W64 ^ i * B) (h1 : lo + W64 * hi = L * bk) (h2 : z1 + W64 * q1 = lo + c) (h3 : z2 + W64 * q2 = p + z1)
    (hc : c' = hi + q1 + q2) (hP : P' + W64 ^ (i + k) * p = P + W64 ^ (i + k) * z2) : P' + c' * W64 ^ (i + k + 1) = M + L * W64 ^ i * (B + W64 ^ k * bk) := by
  have e1 : L * W64 ^ i * (B + W64 ^ k * bk) = L * W64 ^ i * B + W64 ^ (i + k) * (L * bk) := by
    rw [Nat.mul_add, Nat.pow_add]
    congr 1
    simp only [Nat.mul_comm, Nat.mul_left_comm, Nat.mul_assoc]
  have e2 : c' * W64 ^ (i + k + 1) = W64 ^ (i + k) * (W64 * c') := by
    rw [Nat.pow_succ]
    simp only [Nat.mul_comm, Nat.mul_left_comm, Nat.mul_assoc]
  have e3 : W64 * c' = L * bk + c + p - z2 ∧ z2 ≤ L * bk + c + p := by
    subst hc
    unfold W64 at *
    omega
  have e4 : W64 * c' + z2 = L * bk + c + p := by omega
  have e5 := congrArg (fun t => W64 ^ (i + k) * t) e4
  simp only [Nat.mul_add] at e5
  have e6 : c * W64 ^ (i + k) = W64 ^ (i + k) * c := Nat.mul_comm _ _
  rw [e1, e2]
  omega

theorem Mul_ok (a b : U) : uint256_Mul ((a, b, ()), ()) = some (((errS (a.val * b.val)).1, (errS (a.val * b.val)).2, ()), ()) := by
  have c0 : (I.of .i64 0).val = 0 := rfl
  have c1 : (I.of .i64 1).val = 1 := rfl
  have c3 : (I.of .i64 3).val = 3 := rfl
  have c4 : (I.of .i64 4).val = 4 := rfl
  have over : U.top ≤ a.val * b.val → some (((I.of .u64 0, I.of .u64 0, I.of .u64 0, I.of .u64 0, ()), I.of .i64 4, ()), ()) = some (((errS (a.val * b.val)).1, (errS (a.val * b.val)).2, ()), ()) := by
    intro h
    rw [show errS (a.val * b.val) = (U.of 0, I.of .i64 4) from if_neg (by omega)]
    rfl
  have key : Wp (fun o => o = some (((errS (a.val * b.val)).1, (errS (a.val * b.val)).2, ()), ())) (uint256_Mul ((a, b, ()), ())) := by
    unfold uint256_Mul
    refine Wp.iter (fun x => 0 ≤ x.1.1.val ∧ x.1.1.val ≤ 4 ∧ x.2.1 = a ∧ x.2.2.1 = b ∧ U.val x.2.2.2.2.1 = (a.val % W64 ^ x.1.1.val.toNat) * b.val) (fun x => (4 - x.1.1.val).toNat) ?_ ?_ ?_
    · rintro ⟨⟨i, ⟨⟩⟩, a', b', r0, p0, ⟨⟩⟩ ⟨hi0, hi1, e1, e2, hp⟩
      simp only at hi0 hi1 e1 e2 hp
      subst e1 e2
      refine Wp.brn (fun h => ?_) (fun h => ?_)
      · have hlt := iff_ltb.1 h
        simp only [c4] at hlt
        clear h
        have si : (I.add i (I.of .i64 1)).val = i.val + 1 := by rw [add_i64 (by omega)]; omega
        have sin : (I.add i (I.of .i64 1)).val.toNat = i.val.toNat + 1 := by omega
        have ini : inB i 4 = true := iff_inB.2 ⟨hi0, by omega⟩
        refine Wp.iter (fun x => x.1.1 = i ∧ x.1.2.2.1 = i ∧ 0 ≤ x.1.2.2.2.1.val ∧ x.1.2.2.2.1.val ≤ 4 ∧ x.2.1 = a' ∧ x.2.2.1 = b' ∧
          U.val x.2.2.2.2.1 + I.nat (k := .u64) x.1.2.1 * W64 ^ (min (i.val.toNat + x.1.2.2.2.1.val.toNat) 4) = (U.val a' % W64 ^ i.val.toNat) * U.val b' + limb' a' i.val.toNat * W64 ^ i.val.toNat * (U.val b' % W64 ^ x.1.2.2.2.1.val.toNat)) (fun x => (4 - x.1.2.2.2.1.val).toNat) ?_ ?_ ?_
        · rintro ⟨⟨i2, c, i1, k, ⟨⟩⟩, a1, b1, r1, p, ⟨⟩⟩ ⟨e1, e2, hk0, hk1, e3, e4, hinv⟩
          simp only at e1 e2 hk0 hk1 e3 e4 hinv
          subst e1 e2 e3 e4
          refine Wp.brn (fun h => ?_) (fun h => ?_)
          · have hkl := iff_ltb.1 h
            simp only [c4] at hkl
            clear h
            have sk : (I.add k (I.of .i64 1)).val = k.val + 1 := by rw [add_i64 (by omega)]; omega
            have skn : (I.add k (I.of .i64 1)).val.toNat = k.val.toNat + 1 := by omega
            have sik : (I.add i1 k).val = i1.val + k.val := add_i64 (by omega)
            have hm : (4 - (I.add k (I.of .i64 1)).val).toNat < (4 - k.val).toNat := by omega
            have bmod := limb_mod b1 k.val.toNat (by omega)
            refine Wp.brnT ini (Wp.brnT (iff_inB.2 ⟨hk0, by show k.val < ((4 : Nat) : Int); omega⟩) ?_)
            obtain ⟨hi, lo, hmul, hprod⟩ := Mul64_ok (Arr.sel (I.of .u64 0) 4 a1 (I.nat i1)) (Arr.sel (I.of .u64 0) 4 b1 (I.nat k))
            have hprod : lo.nat + W64 * hi.nat = limb' a1 i1.val.toNat * limb' b1 k.val.toNat := hprod
            refine Wp.optF hmul ?_
            refine Wp.brn (fun h => ?_) (fun h => ?_)
            · have h := iff_ltb.1 h
              have h : (I.of .i64 3).val < (I.add i1 k).val := h
              refine Wp.brn (fun h2 => ?_) (fun h2 => ?_)
              · refine Wp.done (Wp.done (over ?_))
                refine over_prod (i := i1.val.toNat) (k := k.val.toNat) (by omega) (by omega) (by omega) ?_
                intro hz
                have h3 : hi.nat = 0 ∧ lo.nat = 0 := by rw [hz] at hprod; unfold W64 at hprod; omega
                have := (or_zero hi lo).2 h3
                exact absurd (h2.symm.trans this) (by decide)
              · have h3 := (or_zero hi lo).1 h2
                have hz : limb' a1 i1.val.toNat * limb' b1 k.val.toNat = 0 := by rw [← hprod, h3.1, h3.2, Nat.mul_zero]
                refine Wp.again ⟨rfl, rfl, ?_, ?_, rfl, rfl, ?_⟩ hm
                · show 0 ≤ (I.add k (I.of .i64 1)).val; omega
                · show (I.add k (I.of .i64 1)).val ≤ 4; omega
                · show U.val p + c.nat * W64 ^ (min (i1.val.toNat + (I.add k (I.of .i64 1)).val.toNat) 4) = _ + _ * (U.val b1 % W64 ^ (I.add k (I.of .i64 1)).val.toNat)
                  rw [skn, bmod, Nat.mul_add]
                  have e1 : limb' a1 i1.val.toNat * W64 ^ i1.val.toNat * (W64 ^ k.val.toNat * limb' b1 k.val.toNat) = 0 := by
                    have : limb' a1 i1.val.toNat * W64 ^ i1.val.toNat * (W64 ^ k.val.toNat * limb' b1 k.val.toNat) = W64 ^ i1.val.toNat * W64 ^ k.val.toNat * (limb' a1 i1.val.toNat * limb' b1 k.val.toNat) := by simp only [Nat.mul_comm, Nat.mul_left_comm, Nat.mul_assoc]
                    rw [this, hz, Nat.mul_zero]
                  rw [Nat.min_eq_right (by omega)] at hinv
                  rw [e1, Nat.min_eq_right (by omega)]
                  exact hinv
            · have h := niff_ltb.1 h
              have h : (I.add i1 k).val ≤ (I.of .i64 3).val := h
              have inik : inB (I.add i1 k) 4 = true := iff_inB.2 ⟨by omega, by omega⟩
              obtain ⟨z1, q1, ha1, hs1, hq1⟩ := add64_nat lo c (I.of .u64 0) (by decide)
              refine Wp.optF ha1 ?_
              refine Wp.brnT inik ?_
              obtain ⟨z2, q2, ha2, hs2, hq2⟩ := add64_nat (Arr.sel (I.of .u64 0) 4 p (I.nat (I.add i1 k))) z1 (I.of .u64 0) (by decide)
              refine Wp.optF ha2 ?_
              refine Wp.brnT inik ?_
              have z0 : (I.of .u64 0).nat = 0 := rfl
              have en : I.nat (I.add i1 k) = i1.val.toNat + k.val.toNat := by unfold I.nat; omega
              have hup := upd_val p (i1.val.toNat + k.val.toNat) z2 (by omega)
              have hs2' : z2.nat + W64 * q2.nat = limb' p (i1.val.toNat + k.val.toNat) + z1.nat := by
                have : (Arr.sel (I.of .u64 0) 4 p (I.nat (I.add i1 k))).nat = limb' p (i1.val.toNat + k.val.toNat) := by rw [en]; rfl
                unfold W64
                omega
              have hcv : (I.add (I.add hi q1) q2).nat = hi.nat + q1.nat + q2.nat := by
                have l1 := limb_lt a1 i1.val.toNat
                have l2 := limb_lt b1 k.val.toNat
                have l3 := limb_lt p (i1.val.toNat + k.val.toNat)
                have l4 := nat_lt c
                have l5 : limb' a1 i1.val.toNat * limb' b1 k.val.toNat ≤ (W64 - 1) * (W64 - 1) := Nat.mul_le_mul (by omega) (by omega)
                rw [add_nat, add_nat]
                unfold W64 at *
                omega
              refine Wp.again ⟨rfl, rfl, ?_, ?_, rfl, rfl, ?_⟩ hm
              · show 0 ≤ (I.add k (I.of .i64 1)).val; omega
              · show (I.add k (I.of .i64 1)).val ≤ 4; omega
              · show U.val (Arr.upd 4 p (I.nat (I.add i1 k)) z2) + (I.add (I.add hi q1) q2).nat * W64 ^ (min (i1.val.toNat + (I.add k (I.of .i64 1)).val.toNat) 4) = _ + _ * (U.val b1 % W64 ^ (I.add k (I.of .i64 1)).val.toNat)
                rw [skn, bmod, en, Nat.min_eq_left (by omega)]
                rw [Nat.min_eq_left (by omega)] at hinv
                exact mul_round hinv hprod (by unfold W64; omega) hs2' hcv hup
          · have h := niff_ltb.1 h
            simp only [c4] at h
            have hk : k.val.toNat = 4 := by omega
            rw [hk, Nat.min_eq_right (by omega), top_W, Nat.mod_eq_of_lt (U.lt b1)] at hinv
            have amod := limb_mod a1 i1.val.toNat (by omega)
            have hA : U.val p + c.nat * U.top = (U.val a1 % W64 ^ (i1.val.toNat + 1)) * U.val b1 := by
              rw [hinv, amod, Nat.add_mul]
              congr 1
              simp only [Nat.mul_comm, Nat.mul_left_comm, Nat.mul_assoc]
            refine Wp.done ?_
            refine Wp.brn (fun h2 => ?_) (fun h2 => ?_)
            · refine Wp.done (over ?_)
              have h2 := iff_neb.1 h2
              have h2 : c.val ≠ (I.of .u64 0).val := h2
              have z0 : (I.of .u64 0).val = 0 := rfl
              have hc1 : 1 ≤ c.nat := by have := nat_val c; omega
              have h3 := mod_mul_le a1 b1 (W64 ^ (i1.val.toNat + 1))
              have h4 : 1 * U.top ≤ c.nat * U.top := Nat.mul_le_mul_right _ hc1
              omega
            · have h2 := niff_neb.1 h2
              have h2 : c.val = (I.of .u64 0).val := h2
              have z0 : (I.of .u64 0).val = 0 := rfl
              have hc1 : c.nat = 0 := by have := nat_val c; omega
              rw [hc1, Nat.zero_mul, Nat.add_zero] at hA
              refine Wp.again ⟨?_, ?_, rfl, rfl, ?_⟩ ?_
              · show 0 ≤ (I.add i1 (I.of .i64 1)).val; omega
              · show (I.add i1 (I.of .i64 1)).val ≤ 4; omega
              · show U.val p = U.val a1 % W64 ^ (I.add i1 (I.of .i64 1)).val.toNat * U.val b1
                rw [sin]; exact hA
              · show (4 - (I.add i1 (I.of .i64 1)).val).toNat < (4 - i1.val).toNat
                omega
        · refine ⟨rfl, rfl, by show 0 ≤ (I.of .i64 0).val; decide, by show (I.of .i64 0).val ≤ 4; decide, rfl, rfl, ?_⟩
          show U.val p0 + (I.of .u64 0).nat * _ = _ + _ * (U.val b' % W64 ^ (I.of .i64 0).val.toNat)
          have e1 : (I.of .u64 0).nat = 0 := rfl
          have e2 : (I.of .i64 0).val.toNat = 0 := rfl
          rw [e1, e2, Nat.zero_mul, Nat.pow_zero, Nat.mod_one, Nat.mul_zero, hp]
        · exact K0_ge _ (by show (4 - (I.of .i64 0).val).toNat < _; decide)
      · have h := niff_ltb.1 h
        simp only [c4] at h
        have hi : i.val.toNat = 4 := by omega
        rw [hi, top_W, Nat.mod_eq_of_lt (U.lt a')] at hp
        refine Wp.done ?_
        show some ((p0, I.of .i64 0, ()), ()) = _
        have hlt : U.val a' * U.val b' < U.top := by rw [← hp]; exact U.lt p0
        rw [show errS (U.val a' * U.val b') = (U.of (U.val a' * U.val b'), I.of .i64 0) from if_pos hlt]
        have hU : p0 = U.of (U.val a' * U.val b') := by
          have := U.of_val p0
          rw [hp] at this
          exact this.symm
        exact congrArg (fun z : U => some ((z, I.of .i64 0, ()), ())) hU
    · refine ⟨by show 0 ≤ (I.of .i64 0).val; decide, by show (I.of .i64 0).val ≤ 4; decide, rfl, rfl, ?_⟩
      show U.val (I.of .u64 0, I.of .u64 0, I.of .u64 0, I.of .u64 0, ()) = (a.val % W64 ^ (I.of .i64 0).val.toNat) * b.val
      have e2 : (I.of .i64 0).val.toNat = 0 := rfl
      rw [e2, Nat.pow_zero, Nat.mod_one, Nat.zero_mul]
      rfl
    · exact K0_ge _ (by show (4 - (I.of .i64 0).val).toNat < _; decide)
  exact key.out
end Sym

/- Equality and order of 256 bits. -/
namespace Sym
open Go

theorem eqb_u256 (a b : U) : Ty.eqb (.arr 4 (.int .u64)) a b = decide (a.val = b.val) := by
  by_cases h : a.val = b.val
  · have := U.ext h
    subst this
    simp [Ty.eqb, Arr.eqb]
  · simp only [h, decide_false]
    cases hb : Ty.eqb (.arr 4 (.int .u64)) a b with
    | false => rfl
    | true =>
      exfalso
      apply h
      obtain ⟨a0, a1, a2, a3, ⟨⟩⟩ := a
      obtain ⟨b0, b1, b2, b3, ⟨⟩⟩ := b
      simp only [Ty.eqb, Arr.eqb, Bool.and_eq_true, decide_eq_true_eq, and_true] at hb
      obtain ⟨h0, h1, h2, h3⟩ := hb
      rw [I.ext' h0, I.ext' h1, I.ext' h2, I.ext' h3]

theorem cmp_le (a b : U) (h : a.val ≤ b.val) : I.leb (cmpS a b) (I.of .i64 0) = true := by
  unfold cmpS
  split
  · rfl
  · rw [if_neg (by omega)]; rfl

theorem cmp_lt (a b : U) (h : a.val < b.val) : I.ltb (cmpS a b) (I.of .i64 0) = true := by
  unfold cmpS
  rw [if_pos h]; rfl

end Sym

/- Quotients of 512 by 256 bits. -/
namespace Sym
open Go

theorem u256_FromUint64 (x : I .u64) : uint256_FromUint64 ((x, ()), ()) = some ((u64U x, ()), ()) := rfl

theorem SatSub_ok (a b : U) : uint256_SaturatingSub ((a, b, ()), ()) = some ((U.of (a.val - b.val), ()), ()) := by
  refine Wp.out (T := fun o => o = _) ?_
  unfold uint256_SaturatingSub
  refine Wp.optF (uint256_Sub_eq a b) ?_
  unfold subS
  by_cases h : b.val ≤ a.val
  · rw [if_pos h]; rfl
  · rw [if_neg h, show a.val - b.val = 0 by omega]; rfl

theorem or_add (x y : I .u64) (n : Nat) (hy : y.nat < 2 ^ n) (hx : x.nat % 2 ^ n = 0) : (I.or x y).nat = x.nat + y.nat := by
  have h1 : (BitVec.ofInt 64 x.val).toNat = x.nat := by have := u64_range x; rw [BitVec.toNat_ofInt]; unfold I.nat; omega
  have h2 : (BitVec.ofInt 64 y.val).toNat = y.nat := by have := u64_range y; rw [BitVec.toNat_ofInt]; unfold I.nat; omega
  have h3 : (BitVec.ofInt IntKind.u64.bits x.val ||| BitVec.ofInt IntKind.u64.bits y.val).toNat = x.nat ||| y.nat := by
    show (BitVec.ofInt 64 x.val ||| BitVec.ofInt 64 y.val).toNat = _
    rw [BitVec.toNat_or, h1, h2]
  have hlt : x.nat ||| y.nat < 2 ^ 64 := Nat.or_lt_two_pow (nat_lt x) (nat_lt y)
  have h4 : x.nat ||| y.nat = x.nat + y.nat := by
    have e : x.nat = (x.nat / 2 ^ n) <<< n := by
      rw [Nat.shiftLeft_eq]
      have := Nat.div_add_mod x.nat (2 ^ n)
      rw [hx, Nat.add_zero, Nat.mul_comm] at this
      exact this.symm
    rw [e]
    exact (Nat.shiftLeft_add_eq_or_of_lt hy _).symm
  unfold I.or
  rw [h3, of_nat (by omega), h4]

theorem shl1_nat (x : I .u64) : (I.shl x (I.of .u64 1)).nat = 2 * x.nat % W64 := by
  have h1 := nat_val x
  have hm : min (I.of .u64 1).val.toNat IntKind.u64.bits = 1 := rfl
  unfold I.shl
  rw [hm]
  show (IntKind.u64.wrap (x.val * 2 ^ 1)).toNat = _ % 18446744073709551616
  rw [wrap_u64]
  have : (2 : Int) ^ 1 = 2 := by decide
  rw [this]
  omega

theorem shr63_nat (x : I .u64) : (I.shr x (I.of .u64 63)).nat = x.nat / 9223372036854775808 := by
  have c : (I.of .u64 63).nat = 63 := rfl
  rw [shr_nat _ _ (by decide), c]

theorem K0_four' : ∃ k, K0 = k + 4 := ⟨2 ^ 64 - 4, by rw [K0_eq]⟩

theorem sh_limb (x y : I .u64) : (I.or (I.shl x (I.of .u64 1)) (I.shr y (I.of .u64 63))).nat = 2 * x.nat % W64 + y.nat / 9223372036854775808 := by
  have hy := nat_lt y
  rw [or_add _ _ 1 (by rw [shr63_nat]; omega) (by rw [shl1_nat]; unfold W64; omega), shl1_nat, shr63_nat]

/-- Twice a number, and a bit. -/
theorem shiftLeft_ok (a : U) (bit : I .u64) (hb : bit.nat ≤ 1) : ∃ (r : U) (o : I .u64), muldiv_shiftLeft ((a, bit, ()), ()) = some ((r, o, ()), ()) ∧ r.val + U.top * o.nat = 2 * a.val + bit.nat := by
  obtain ⟨k, hk⟩ := K0_four'
  obtain ⟨a0, a1, a2, a3, ⟨⟩⟩ := a
  refine ⟨(I.or (I.shl a0 (I.of .u64 1)) bit, I.or (I.shl a1 (I.of .u64 1)) (I.shr a0 (I.of .u64 63)), I.or (I.shl a2 (I.of .u64 1)) (I.shr a1 (I.of .u64 63)), I.or (I.shl a3 (I.of .u64 1)) (I.shr a2 (I.of .u64 63)), ()), I.shr a3 (I.of .u64 63), ?_, ?_⟩
  · refine Wp.out (T := fun o => o = _) ?_
    unfold muldiv_shiftLeft
    rw [hk]
    refine Wp.unroll (Wp.brnT rfl (Wp.brnT rfl (Wp.brnT rfl (Wp.brnT rfl (Wp.next ?_)))))
    refine Wp.unroll (Wp.brnT rfl (Wp.brnT rfl (Wp.brnT rfl (Wp.brnT rfl (Wp.next ?_)))))
    refine Wp.unroll (Wp.brnT rfl (Wp.brnT rfl (Wp.brnT rfl (Wp.brnT rfl (Wp.next ?_)))))
    refine Wp.unroll (Wp.brnF rfl (Wp.stop rfl))
  · have n0 := nat_lt a0
    have n1 := nat_lt a1
    have n2 := nat_lt a2
    have n3 := nat_lt a3
    unfold U.val U.top
    simp only
    rw [sh_limb, sh_limb, sh_limb, shr63_nat, or_add _ _ 1 (by omega) (by rw [shl1_nat]; unfold W64; omega), shl1_nat]
    unfold W64
    omega
end Sym

/- Quotients of 512 by 256 bits: the loop. -/
namespace Sym
open Go

theorem K0_five : ∃ k, K0 = k + 5 := ⟨2 ^ 64 - 5, by rw [K0_eq]⟩

theorem subWrap_ok (a b : U) : ∃ (r : U) (q : Nat), muldiv_subWrap ((a, b, ()), ()) = some ((r, ()), ()) ∧ r.val + b.val = a.val + U.top * q ∧ q ≤ 1 := by
  obtain ⟨k, hk⟩ := K0_five
  obtain ⟨a0, a1, a2, a3, ⟨⟩⟩ := a
  obtain ⟨b0, b1, b2, b3, ⟨⟩⟩ := b
  obtain ⟨z0, q0, h0, e0, l0⟩ := sub64_nat a0 b0 (I.of .u64 0) (by decide)
  obtain ⟨z1, q1, h1, e1, l1⟩ := sub64_nat a1 b1 q0 l0
  obtain ⟨z2, q2, h2, e2, l2⟩ := sub64_nat a2 b2 q1 l1
  obtain ⟨z3, q3, h3, e3, l3⟩ := sub64_nat a3 b3 q2 l2
  refine ⟨(z0, z1, z2, z3, ()), q3.nat, ?_, ?_, l3⟩
  · refine Wp.out (T := fun o => o = _) ?_
    unfold muldiv_subWrap
    rw [hk]
    refine Wp.unroll (Wp.brnT rfl (Wp.brnT rfl (Wp.brnT rfl (Wp.optF h0 (Wp.brnT rfl (Wp.next ?_))))))
    refine Wp.unroll (Wp.brnT rfl (Wp.brnT rfl (Wp.brnT rfl (Wp.optF h1 (Wp.brnT rfl (Wp.next ?_))))))
    refine Wp.unroll (Wp.brnT rfl (Wp.brnT rfl (Wp.brnT rfl (Wp.optF h2 (Wp.brnT rfl (Wp.next ?_))))))
    refine Wp.unroll (Wp.brnT rfl (Wp.brnT rfl (Wp.brnT rfl (Wp.optF h3 (Wp.brnT rfl (Wp.next ?_))))))
    refine Wp.unroll (Wp.brnF rfl (Wp.stop rfl))
  · have z : (I.of .u64 0).nat = 0 := rfl
    unfold U.val U.top
    simp only
    omega

theorem two_pow_W (i : Nat) : 2 ^ i = W64 ^ (i / 64) * 2 ^ (i % 64) := by
  have : W64 = 2 ^ 64 := by decide
  rw [this, ← Nat.pow_mul, ← Nat.pow_add]
  congr 1
  omega

theorem div_W (a : U) (k : Nat) (hk : k < 4) : ∃ Y, a.val / W64 ^ k = limb' a k + W64 * Y := by
  obtain ⟨a0, a1, a2, a3, ⟨⟩⟩ := a
  have n0 := nat_lt a0
  have n1 := nat_lt a1
  have n2 := nat_lt a2
  have n3 := nat_lt a3
  have p0 : W64 ^ 0 = 1 := by decide
  have p1 : W64 ^ 1 = 18446744073709551616 := by decide
  have p2 : W64 ^ 2 = 340282366920938463463374607431768211456 := by decide
  have p3 : W64 ^ 3 = 6277101735386680763835789423207666416102355444464034512896 := by decide
  have hc : k = 0 ∨ k = 1 ∨ k = 2 ∨ k = 3 := by omega
  rcases hc with rfl | rfl | rfl | rfl
  · refine ⟨a1.nat + 18446744073709551616 * (a2.nat + 18446744073709551616 * a3.nat), ?_⟩
    show U.val _ / W64 ^ 0 = a0.nat + 18446744073709551616 * _
    rw [p0]; unfold U.val; simp only; omega
  · refine ⟨a2.nat + 18446744073709551616 * a3.nat, ?_⟩
    show U.val _ / W64 ^ 1 = a1.nat + 18446744073709551616 * _
    rw [p1]; unfold U.val; simp only; omega
  · refine ⟨a3.nat, ?_⟩
    show U.val _ / W64 ^ 2 = a2.nat + 18446744073709551616 * _
    rw [p2]; unfold U.val; simp only; omega
  · refine ⟨0, ?_⟩
    show U.val _ / W64 ^ 3 = a3.nat + 18446744073709551616 * _
    rw [p3]; unfold U.val; simp only; omega

/-- The bit that a shift and a mask give. -/
theorem bit_of (a : U) (i : Nat) (hi : i < 256) : a.val / 2 ^ i % 2 = limb' a (i / 64) / 2 ^ (i % 64) % 2 := by
  obtain ⟨Y, hY⟩ := div_W a (i / 64) (by omega)
  rw [two_pow_W i, ← Nat.div_div_eq_div_mul, hY]
  have e : W64 = 2 ^ (i % 64) * (2 * 2 ^ (63 - i % 64)) := by
    have : 2 * 2 ^ (63 - i % 64) = 2 ^ (64 - i % 64) := by rw [show 64 - i % 64 = (63 - i % 64) + 1 by omega, Nat.pow_succ, Nat.mul_comm]
    rw [this, ← Nat.pow_add, show i % 64 + (64 - i % 64) = 64 by omega]
  rw [e, Nat.mul_assoc, Nat.add_mul_div_left _ _ (Nat.pow_pos (by decide)), Nat.mul_assoc, Nat.add_mul_mod_self_left]

theorem shr_i64 (x : I .u64) (s : I .i64) (h0 : 0 ≤ s.val) (hs : s.val < 64) : (I.shr x s).nat = x.nat / 2 ^ s.val.toNat := by
  have hx := u64_range x
  have hm : min s.val.toNat IntKind.u64.bits = s.val.toNat := by
    have : IntKind.u64.bits = 64 := rfl
    omega
  unfold I.shr
  rw [hm, fdiv_pos _ _ hx.1]
  have h1 : ((x.nat / 2 ^ s.val.toNat : Nat) : Int) = x.val / (2 : Int) ^ s.val.toNat := by
    rw [Int.natCast_ediv, nat_val]
    simp
  rw [← h1]
  have := Nat.div_le_self x.nat (2 ^ s.val.toNat)
  have := nat_lt x
  exact of_nat (by omega)

theorem shl_one_i64 (s : I .i64) (h0 : 0 ≤ s.val) (hs : s.val < 64) : (I.shl (I.of .u64 1) s).nat = 2 ^ s.val.toNat := by
  have hm : min s.val.toNat IntKind.u64.bits = s.val.toNat := by
    have : IntKind.u64.bits = 64 := rfl
    omega
  have h1 : (I.of .u64 1).val = 1 := rfl
  have h3 : 2 ^ s.val.toNat ≤ 2 ^ 63 := Nat.pow_le_pow_right (by decide) (by omega)
  have h4 : ((2 ^ s.val.toNat : Nat) : Int) = 2 ^ s.val.toNat := by simp
  unfold I.shl
  rw [hm, h1, Int.one_mul, ← h4]
  exact of_nat (by omega)

/-- A bit set above nothing. -/
theorem set_bit (q : U) (i : Nat) (hi : i < 256) (b : I .u64) (hb : b.nat = 2 ^ (i % 64)) (hq : q.val % 2 ^ (i + 1) = 0) :
    U.val (Arr.upd 4 q (i / 64) (I.or (Arr.sel (I.of .u64 0) 4 q (i / 64)) b)) = q.val + 2 ^ i := by
  obtain ⟨Y, hY⟩ := div_W q (i / 64) (by omega)
  have hl : limb' q (i / 64) % 2 ^ (i % 64 + 1) = 0 := by
    obtain ⟨Q, hQ⟩ : ∃ Q, q.val = 2 ^ (i + 1) * Q := ⟨q.val / 2 ^ (i + 1), by have := Nat.div_add_mod q.val (2 ^ (i + 1)); omega⟩
    have e1 : q.val / W64 ^ (i / 64) = 2 ^ (i % 64 + 1) * Q := by
      rw [hQ, Nat.pow_succ, two_pow_W i, Nat.mul_assoc, Nat.mul_assoc, Nat.mul_div_cancel_left _ (Nat.pow_pos (by decide)), Nat.pow_succ, Nat.mul_assoc]
    have e2 : W64 = 2 ^ (i % 64 + 1) * 2 ^ (63 - i % 64) := by
      rw [← Nat.pow_add, show i % 64 + 1 + (63 - i % 64) = 64 by omega]
    rw [e1, e2, Nat.mul_assoc] at hY
    have e3 : limb' q (i / 64) = 2 ^ (i % 64 + 1) * Q - 2 ^ (i % 64 + 1) * (2 ^ (63 - i % 64) * Y) := by omega
    rw [e3, ← Nat.mul_sub]
    exact Nat.mul_mod_right _ _
  have hor : (I.or (Arr.sel (I.of .u64 0) 4 q (i / 64)) b).nat = limb' q (i / 64) + 2 ^ (i % 64) := by
    rw [or_add _ b (i % 64 + 1) (by rw [hb, Nat.pow_succ]; have := Nat.pow_pos (a := 2) (n := i % 64) (by decide); omega) hl, hb]
    rfl
  have hup := upd_val q (i / 64) (I.or (Arr.sel (I.of .u64 0) 4 q (i / 64)) b) (by omega)
  rw [hor, Nat.mul_add, ← two_pow_W] at hup
  omega
end Sym

/- Quotients of 512 by 256 bits: what they are. -/
namespace Sym
open Go

theorem top_two : U.top = 2 ^ 256 := by decide

theorem half (N i : Nat) : N / 2 ^ i = 2 * (N / 2 ^ (i + 1)) + N / 2 ^ i % 2 := by
  rw [Nat.pow_succ, ← Nat.div_div_eq_div_mul]
  omega

theorem low_bit (a b : Nat) (i : Nat) (hi : i < 256) : (U.top * b + a) / 2 ^ i % 2 = a / 2 ^ i % 2 := by
  have e : U.top * b = 2 ^ i * (2 * (2 ^ (255 - i) * b)) := by
    have : U.top = 2 ^ i * (2 * 2 ^ (255 - i)) := by
      rw [top_two, ← Nat.pow_succ', ← Nat.pow_add, show i + (255 - i + 1) = 256 by omega]
    rw [this]
    simp only [Nat.mul_assoc]
  rw [e, Nat.mul_add_div (Nat.pow_pos (by decide)), Nat.mul_add_mod]

/-- What one round leaves. -/
structure DivInv (N c t : Nat) (q r : U) : Prop where
  eq : N / 2 ^ t = q.val / 2 ^ t * c + r.val
  lt : r.val < c
  low : q.val % 2 ^ t = 0

theorem div_round {N c i : Nat} {q r q' r' : U} (h : DivInv N c (i + 1) q r) (bit d : Nat) (hb : N / 2 ^ i % 2 = bit) (hd : d ≤ 1) (hq : q'.val = q.val + d * 2 ^ i) (hr : 2 * r.val + bit = d * c + r'.val) (hlt : r'.val < c) : DivInv N c i q' r' := by
  have h1 := half N i
  have e1 : q.val / 2 ^ i = 2 * (q.val / 2 ^ (i + 1)) := by
    have := half q.val i
    have h2 : q.val / 2 ^ i % 2 = 0 := by
      have h3 := h.low
      rw [Nat.pow_succ] at h3
      have h4 := Nat.mod_mul (x := q.val) (a := 2 ^ i) (b := 2)
      rw [h3] at h4
      have h5 : 0 < 2 ^ i := Nat.pow_pos (by decide)
      rcases Nat.eq_zero_or_pos (q.val / 2 ^ i % 2) with h6 | h6
      · exact h6
      · have : 2 ^ i * 1 ≤ 2 ^ i * (q.val / 2 ^ i % 2) := Nat.mul_le_mul_left _ h6
        omega
    omega
  have e2 : q.val % 2 ^ i = 0 := by
    have h3 := h.low
    rw [Nat.pow_succ] at h3
    have h4 := Nat.mod_mul (x := q.val) (a := 2 ^ i) (b := 2)
    omega
  have e3 : q'.val / 2 ^ i = q.val / 2 ^ i + d := by rw [hq, Nat.add_mul_div_right _ _ (Nat.pow_pos (by decide))]
  refine ⟨?_, hlt, ?_⟩
  · rw [h1, h.eq, hb, e3, e1, Nat.add_mul, Nat.mul_add, Nat.mul_assoc]
    omega
  · rw [hq, Nat.add_mul_mod_self_right]; exact e2

def divS (N c : Nat) : U × U × I .i64 := (U.of (N / c), U.of (N % c), I.of .i64 0)

theorem Div512_loop (a b c : U) (hbc : b.val < c.val) : muldiv_Div512 ((a, b, c, ()), ()) = some ((U.of ((U.top * b.val + a.val) / c.val), U.of ((U.top * b.val + a.val) % c.val), I.of .i64 0, ()), ()) := by
  have c0 : (I.of .i64 0).val = 0 := rfl
  have c1 : (I.of .i64 1).val = 1 := rfl
  have c64 : (I.of .i64 64).val = 64 := rfl
  have hct := U.lt c
  have key : Wp (fun o => o = some ((U.of ((U.top * b.val + a.val) / c.val), U.of ((U.top * b.val + a.val) % c.val), I.of .i64 0, ()), ())) (muldiv_Div512 ((a, b, c, ()), ())) := by
    unfold muldiv_Div512
    refine Wp.brnF ?_ ?_
    · refine (eqb_u256 c _).trans (decide_eq_false ?_)
      intro hh
      have hh : c.val = 0 := hh
      omega
    refine Wp.optF (uint256_Cmp_eq b c) ?_
    refine Wp.brnF ?_ ?_
    · show I.leb (I.of .i64 0) (cmpS b c) = false
      unfold cmpS
      rw [if_pos hbc]; rfl
    refine Wp.iter (fun x => -1 ≤ x.1.1.val ∧ x.1.1.val ≤ 255 ∧ x.2.1 = a ∧ x.2.2.1 = c ∧ DivInv (U.top * b.val + a.val) c.val (x.1.1.val + 1).toNat x.2.2.2.1 x.2.2.2.2.1) (fun x => (x.1.1.val + 1).toNat) ?_ ?_ ?_
    · rintro ⟨⟨i, ⟨⟩⟩, a', c', q, r, ⟨⟩⟩ ⟨hi0, hi1, e1, e2, hinv⟩
      simp only at hi0 hi1 e1 e2 hinv
      subst e1 e2
      refine Wp.brn (fun h => ?_) (fun h => ?_)
      · have hge := iff_leb.1 h
        simp only [c0] at hge
        clear h
        have ht : (i.val + 1).toNat = i.val.toNat + 1 := by omega
        rw [ht] at hinv
        have hq4 : (I.quo i (I.of .i64 64)).val = i.val / 64 := quo_i64 hge (by decide)
        have hr4 : (I.rem i (I.of .i64 64)).val = i.val % 64 := rem_i64 hge (by decide)
        have hin : inB (I.quo i (I.of .i64 64)) 4 = true := iff_inB.2 ⟨by omega, by omega⟩
        have hnn : I.nn (I.rem i (I.of .i64 64)) = true := iff_nn.2 (by omega)
        have hs : (I.sub i (I.of .i64 1)).val = i.val - 1 := by rw [sub_i64 (by omega)]; omega
        have hs1 : ((I.sub i (I.of .i64 1)).val + 1).toNat = i.val.toNat := by omega
        have hm : ((I.sub i (I.of .i64 1)).val + 1).toNat < (i.val + 1).toNat := by omega
        have en : I.nat (I.quo i (I.of .i64 64)) = i.val.toNat / 64 := by unfold I.nat; omega
        have er : (I.rem i (I.of .i64 64)).val.toNat = i.val.toNat % 64 := by omega
        refine Wp.brnT hin (Wp.brnT hnn ?_)
        have hbit : (I.and (I.shr (Arr.sel (I.of .u64 0) 4 a' (I.nat (I.quo i (I.of .i64 64)))) (I.rem i (I.of .i64 64))) (I.of .u64 1)).nat = (U.top * b.val + U.val a') / 2 ^ i.val.toNat % 2 := by
          rw [and_low _ 1 _ (by decide) (by decide), shr_i64 _ _ (by omega) (by omega), er, en, low_bit _ _ _ (by omega), bit_of a' i.val.toNat (by omega)]
          rfl
        obtain ⟨r1, o, hsh, hsum⟩ := shiftLeft_ok r (I.and (I.shr (Arr.sel (I.of .u64 0) 4 a' (I.nat (I.quo i (I.of .i64 64)))) (I.rem i (I.of .i64 64))) (I.of .u64 1)) (by rw [hbit]; omega)
        rw [hbit] at hsum
        refine Wp.optF hsh ?_
        have hlt := hinv.lt
        have hr1 := U.lt r1
        have hc1 : U.val c' < U.top := U.lt c'
        have setb : U.val (Arr.upd 4 q (I.nat (I.quo i (I.of .i64 64))) (I.or (Arr.sel (I.of .u64 0) 4 q (I.nat (I.quo i (I.of .i64 64)))) (I.shl (I.of .u64 1) (I.rem i (I.of .i64 64))))) = U.val q + 1 * 2 ^ i.val.toNat := by
          rw [en, Nat.one_mul]
          exact set_bit q i.val.toNat (by omega) _ (by rw [shl_one_i64 _ (by omega) (by omega), er]) hinv.low
        generalize hB : (U.top * b.val + U.val a') / 2 ^ i.val.toNat % 2 = bit at hsum
        have hB1 : bit ≤ 1 := by omega
        have ho : o.nat = 0 ∨ o.nat = 1 := by
          rcases Nat.lt_or_ge o.nat 2 with h1 | h1
          · omega
          · exfalso
            have : U.top * 2 ≤ U.top * o.nat := Nat.mul_le_mul_left _ h1
            omega
        refine Wp.brn (fun h => ?_) (fun h => ?_)
        · have h := iff_eqb.1 h
          have h : o.val = (I.of .u64 1).val := h
          have z1 : (I.of .u64 1).val = 1 := rfl
          have ho1 : o.nat = 1 := by have := nat_val o; omega
          rw [ho1, Nat.mul_one] at hsum
          obtain ⟨r2, qq, hsub, hsv, hqq⟩ := subWrap_ok r1 c'
          refine Wp.optF hsub ?_
          refine Wp.brnT hin (Wp.brnT hnn (Wp.brnT hin ?_))
          have hr2 := U.lt r2
          have hqq1 : qq = 1 := by
            rcases Nat.lt_or_ge qq 1 with h1 | h1
            · exfalso
              have : qq = 0 := by omega
              rw [this, Nat.mul_zero] at hsv
              omega
            · omega
          rw [hqq1, Nat.mul_one] at hsv
          refine Wp.again ⟨?_, ?_, rfl, rfl, ?_⟩ hm
          · show -1 ≤ (I.sub i (I.of .i64 1)).val; omega
          · show (I.sub i (I.of .i64 1)).val ≤ 255; omega
          · show DivInv _ _ ((I.sub i (I.of .i64 1)).val + 1).toNat _ r2
            rw [hs1]
            exact div_round (r' := r2) hinv bit 1 hB (Nat.le_refl _) setb (by omega) (by omega)
        · have h := niff_eqb.1 h
          have h : o.val ≠ (I.of .u64 1).val := h
          have z1 : (I.of .u64 1).val = 1 := rfl
          have ho0 : o.nat = 0 := by have := nat_val o; omega
          rw [ho0, Nat.mul_zero, Nat.add_zero] at hsum
          refine Wp.optF (uint256_Cmp_eq r1 c') ?_
          by_cases hcmp : U.val r1 < U.val c'
          · refine Wp.brnF ?_ ?_
            · show I.leb (I.of .i64 0) (cmpS r1 c') = false
              unfold cmpS
              rw [if_pos hcmp]; rfl
            refine Wp.again ⟨?_, ?_, rfl, rfl, ?_⟩ hm
            · show -1 ≤ (I.sub i (I.of .i64 1)).val; omega
            · show (I.sub i (I.of .i64 1)).val ≤ 255; omega
            · show DivInv _ _ ((I.sub i (I.of .i64 1)).val + 1).toNat q r1
              rw [hs1]
              exact div_round hinv bit 0 hB (by omega) (by omega) (by omega) hcmp
          · refine Wp.brnT ?_ ?_
            · show I.leb (I.of .i64 0) (cmpS r1 c') = true
              unfold cmpS
              rw [if_neg hcmp]
              split <;> rfl
            obtain ⟨r2, qq, hsub, hsv, hqq⟩ := subWrap_ok r1 c'
            refine Wp.optF hsub ?_
            refine Wp.brnT hin (Wp.brnT hnn (Wp.brnT hin ?_))
            have hr2 := U.lt r2
            have hqq0 : qq = 0 := by
              rcases Nat.lt_or_ge qq 1 with h1 | h1
              · omega
              · exfalso
                have : qq = 1 := by omega
                rw [this, Nat.mul_one] at hsv
                omega
            rw [hqq0, Nat.mul_zero, Nat.add_zero] at hsv
            refine Wp.again ⟨?_, ?_, rfl, rfl, ?_⟩ hm
            · show -1 ≤ (I.sub i (I.of .i64 1)).val; omega
            · show (I.sub i (I.of .i64 1)).val ≤ 255; omega
            · show DivInv _ _ ((I.sub i (I.of .i64 1)).val + 1).toNat _ r2
              rw [hs1]
              exact div_round (r' := r2) hinv bit 1 hB (Nat.le_refl _) setb (by omega) (by omega)
      · have h := niff_leb.1 h
        simp only [c0] at h
        have ht : (i.val + 1).toNat = 0 := by omega
        rw [ht] at hinv
        have heq := hinv.eq
        simp only [Nat.pow_zero, Nat.div_one] at heq
        have hlt := hinv.lt
        refine Wp.done ?_
        show some ((q, r, I.of .i64 0, ()), ()) = _
        have eq : (U.top * b.val + U.val a') / U.val c' = U.val q := by
          rw [heq, Nat.mul_comm, Nat.mul_add_div (by omega), Nat.div_eq_of_lt hlt, Nat.add_zero]
        have er : (U.top * b.val + U.val a') % U.val c' = U.val r := by
          rw [heq, Nat.mul_comm, Nat.mul_add_mod, Nat.mod_eq_of_lt hlt]
        have hq : q = U.of ((U.top * b.val + U.val a') / U.val c') := by rw [eq]; exact (U.of_val q).symm
        have hr : r = U.of ((U.top * b.val + U.val a') % U.val c') := by rw [er]; exact (U.of_val r).symm
        exact (congrArg (fun z : U => some ((z, r, I.of .i64 0, ()), ())) hq).trans (congrArg (fun z : U => some ((U.of ((U.top * b.val + U.val a') / U.val c'), z, I.of .i64 0, ()), ())) hr)
    · refine ⟨by show -1 ≤ (I.of .i64 255).val; decide, by show (I.of .i64 255).val ≤ 255; decide, rfl, rfl, ?_⟩
      show DivInv _ _ ((I.of .i64 255).val + 1).toNat (I.of .u64 0, I.of .u64 0, I.of .u64 0, I.of .u64 0, ()) b
      have e : ((I.of .i64 255).val + 1).toNat = 256 := rfl
      have ha := U.lt a
      rw [e]
      refine ⟨?_, hbc, rfl⟩
      have z : U.val (I.of .u64 0, I.of .u64 0, I.of .u64 0, I.of .u64 0, ()) = 0 := rfl
      rw [z, ← top_two, Nat.zero_div, Nat.zero_mul, Nat.zero_add, Nat.mul_add_div (by decide), Nat.div_eq_of_lt ha, Nat.add_zero]
    · exact K0_ge _ (by show ((I.of .i64 255).val + 1).toNat < _; decide)
  exact key.out

theorem zeroU : (I.of .u64 0, I.of .u64 0, I.of .u64 0, I.of .u64 0, ()) = U.of 0 := rfl

def divModS (a c : U) : U × U × I .i64 := if c.val = 0 then (U.of 0, U.of 0, I.of .i64 5) else (U.of (a.val / c.val), U.of (a.val % c.val), I.of .i64 0)

theorem DivMod_ok (a c : U) : muldiv_DivMod ((a, c, ()), ()) = some (((divModS a c).1, (divModS a c).2.1, (divModS a c).2.2, ()), ()) := by
  refine Wp.out (T := fun o => o = _) ?_
  unfold muldiv_DivMod divModS
  by_cases h : c.val = 0
  · rw [if_pos h]
    refine Wp.optF (y := ((U.of 0, U.of 0, I.of .i64 5, ()), ())) ?_ rfl
    refine Wp.out (T := fun o => o = _) ?_
    unfold muldiv_Div512
    refine Wp.brnT ?_ rfl
    exact (eqb_u256 c _).trans (decide_eq_true h)
  · rw [if_neg h]
    have hz : U.val (U.of 0) = 0 := rfl
    have := Div512_loop a (U.of 0) c (by omega)
    rw [hz, Nat.mul_zero, Nat.zero_add] at this
    exact Wp.optF this rfl
end Sym

/- Signed numbers of 256 bits: what the program's functions compute, told of whole numbers. -/
namespace Sym
open Go

abbrev S : Type := Bool × U × Unit
/-- The whole number that it stands for. -/
def S.int (x : S) : Int := if x.1 then -(x.2.1.val : Int) else x.2.1.val
def S.of (z : Int) : S := (decide (z < 0), U.of z.natAbs, ())
def validB (x : S) : Bool := !(x.1 && decide (x.2.1.val = 0))

theorem S.abs (x : S) : x.int.natAbs = x.2.1.val := by
  unfold S.int
  split <;> omega

theorem S.of_int {x : S} (h : validB x = true) : S.of x.int = x := by
  obtain ⟨n, a, ⟨⟩⟩ := x
  unfold S.of
  have e := S.abs (n, a, ())
  rw [e]
  have e2 : decide (S.int (n, a, ()) < 0) = n := by
    unfold S.int
    unfold validB at h
    cases n with
    | false => simp
    | true =>
      simp at h
      simp
      omega
  rw [e2]
  show (n, U.of a.val, ()) = _
  rw [U.of_val]

theorem S.int_of {z : Int} (h : z.natAbs < U.top) : (S.of z).int = z := by
  unfold S.of S.int
  simp only [U.val_of h]
  by_cases hz : z < 0
  · simp [hz]; omega
  · simp [hz]; omega

theorem S.of_valid {z : Int} (h : z.natAbs < U.top) : validB (S.of z) = true := by
  unfold S.of validB
  simp only [U.val_of h]
  by_cases hz : z < 0
  · simp [hz]; omega
  · simp [hz]

theorem S.lt (x : S) : x.int.natAbs < U.top := by rw [S.abs]; exact U.lt _

/-- The result, or an error. -/
def resS (z : Int) : S × I .i64 := if z.natAbs < U.top then (S.of z, I.of .i64 0) else (S.of 0, I.of .i64 4)

theorem eqb_self' (a : U) : Ty.eqb (.arr 4 (.int .u64)) a a = true := by rw [eqb_u256]; simp

theorem eqbS_self (x : S) : Ty.eqb (.cons .bool (.cons (.arr 4 (.int .u64)) .nil)) x x = true := by
  obtain ⟨n, a, ⟨⟩⟩ := x
  have h := eqb_self' a
  show ((n == n) && (Ty.eqb (.arr 4 (.int .u64)) a a && true)) = true
  rw [h]; simp

theorem eqz (a : U) : Ty.eqb (.arr 4 (.int .u64)) a (I.of .u64 0, I.of .u64 0, I.of .u64 0, I.of .u64 0, ()) = decide (a.val = 0) := eqb_u256 a (U.of 0)

theorem Valid_eq (x : S) : int256_Valid ((x, ()), ()) = some ((validB x, ()), ()) := by
  obtain ⟨n, a, ⟨⟩⟩ := x
  refine Wp.out (T := fun o => o = some ((validB (n, a, ()), ()), ())) ?_
  unfold int256_Valid
  cases n with
  | false => exact Wp.brnT rfl rfl
  | true =>
    refine Wp.brnF rfl ?_
    show some ((!(Ty.eqb (.arr 4 (.int .u64)) a (I.of .u64 0, I.of .u64 0, I.of .u64 0, I.of .u64 0, ())), ()), ()) = some ((!(true && decide (a.val = 0)), ()), ())
    rw [eqz, Bool.true_and]

def sgn (n : Bool) (m : Nat) : Int := if n then -(m : Int) else m

theorem New_eq (n : Bool) (a : U) : int256_New ((n, a, ()), ()) = some ((S.of (sgn n a.val), ()), ()) := by
  refine Wp.out (T := fun o => o = some ((S.of (sgn n a.val), ()), ())) ?_
  unfold int256_New sgn S.of
  cases n with
  | false =>
    refine Wp.brnF rfl ?_
    show some (((false, a, ()), ()), ()) = some (((decide (((a.val : Nat) : Int) < 0), U.of ((a.val : Nat) : Int).natAbs, ()), ()), ())
    rw [Int.natAbs_natCast, U.of_val, decide_eq_false (by omega)]
  | true =>
    refine Wp.brnT rfl ?_
    show some (((!(Ty.eqb (.arr 4 (.int .u64)) a (I.of .u64 0, I.of .u64 0, I.of .u64 0, I.of .u64 0, ())), a, ()), ()), ()) = some (((decide (-((a.val : Nat) : Int) < 0), U.of (-((a.val : Nat) : Int)).natAbs, ()), ()), ())
    rw [eqz, Int.natAbs_neg, Int.natAbs_natCast, U.of_val]
    by_cases h : a.val = 0
    · rw [h]; rfl
    · rw [decide_eq_false h, decide_eq_true (show -((a.val : Nat) : Int) < 0 by omega)]; rfl

theorem sgn_int (x : S) : sgn x.1 x.2.1.val = x.int := rfl

def negS (x : S) : S × I .i64 := if validB x then (S.of (-x.int), I.of .i64 0) else (S.of 0, I.of .i64 2)

theorem Neg_eq (x : S) : int256_Neg ((x, ()), ()) = some (((negS x).1, (negS x).2, ()), ()) := by
  refine Wp.out (T := fun o => o = some (((negS x).1, (negS x).2, ()), ())) ?_
  unfold int256_Neg negS
  refine Wp.optF (Valid_eq x) ?_
  by_cases h : validB x = true
  · rw [if_pos h]
    refine Wp.brnF (by show (!validB x) = false; rw [h]; rfl) ?_
    refine Wp.optF (New_eq (!x.1) x.2.1) ?_
    have : sgn (!x.1) x.2.1.val = -x.int := by
      unfold sgn S.int
      cases x.1 <;> simp
    rw [this]; rfl
  · rw [if_neg h]
    refine Wp.brnT (by show (!validB x) = true; simp [h]) rfl

theorem Diff_eq (a b : U) : int256_Diff ((a, b, ()), ()) = some ((S.of ((a.val : Int) - b.val), ()), ()) := by
  refine Wp.out (T := fun o => o = some ((S.of ((a.val : Int) - b.val), ()), ())) ?_
  have ha := a.lt
  have hb := b.lt
  unfold int256_Diff
  refine Wp.optF (uint256_Cmp_eq a b) ?_
  by_cases h : a.val < b.val
  · refine Wp.brnF (by show I.leb (I.of .i64 0) (cmpS a b) = false; unfold cmpS; rw [if_pos h]; rfl) ?_
    refine Wp.optF (SatSub_ok b a) ?_
    refine Wp.optF (New_eq true (U.of (b.val - a.val))) ?_
    rw [U.val_of (by omega), show sgn true (b.val - a.val) = (a.val : Int) - b.val by unfold sgn; simp; omega]; rfl
  · refine Wp.brnT (by show I.leb (I.of .i64 0) (cmpS a b) = true; unfold cmpS; rw [if_neg h]; split <;> rfl) ?_
    refine Wp.optF (SatSub_ok a b) ?_
    refine Wp.optF (New_eq false (U.of (a.val - b.val))) ?_
    rw [U.val_of (by omega), show sgn false (a.val - b.val) = (a.val : Int) - b.val by unfold sgn; simp; omega]; rfl

/-- Both valid, or an error. -/
def binS (x y : S) (z : Int) : S × I .i64 := if validB x && validB y then resS z else (S.of 0, I.of .i64 2)

theorem binS_t {x y : S} {z : Int} (h1 : validB x = true) (h2 : validB y = true) : binS x y z = resS z := by unfold binS; rw [h1, h2]; rfl
theorem binS_f1 {x y : S} {z : Int} (h1 : validB x = false) : binS x y z = (S.of 0, I.of .i64 2) := by unfold binS; rw [h1]; rfl
theorem binS_f2 {x y : S} {z : Int} (h2 : validB y = false) : binS x y z = (S.of 0, I.of .i64 2) := by unfold binS; rw [h2]; simp

theorem resS_lt {z : Int} (h : z.natAbs < U.top) : resS z = (S.of z, I.of .i64 0) := if_pos h
theorem resS_ge {z : Int} (h : U.top ≤ z.natAbs) : resS z = (S.of 0, I.of .i64 4) := if_neg (by omega)

theorem SAdd_eq (x y : S) : int256_Add ((x, y, ()), ()) = some (((binS x y (x.int + y.int)).1, (binS x y (x.int + y.int)).2, ()), ()) := by
  refine Wp.out (T := fun o => o = some (((binS x y (x.int + y.int)).1, (binS x y (x.int + y.int)).2, ()), ())) ?_
  unfold int256_Add
  refine Wp.jn (fun s => validB x = true ∧ validB y = true ∧ s.2.1 = x ∧ s.2.2.1 = y) ?_ ?_
  · rintro ⟨⟨⟩, x', y', r, ⟨⟩⟩ ⟨h1, h2, e1, e2⟩
    simp only at e1 e2
    subst e1 e2
    rw [binS_t h1 h2]
    obtain ⟨n, a, ⟨⟩⟩ := x'
    obtain ⟨m, b, ⟨⟩⟩ := y'
    have ha := U.lt a
    have hb := U.lt b
    have hab : ∀ (p q : U), ((p.val : Int) - q.val).natAbs < U.top := fun p q => by have := p.lt; have := q.lt; omega
    have same : ∀ (n : Bool), S.int (n, a, ()) + S.int (n, b, ()) = sgn n (U.val a + U.val b) := fun n => by unfold S.int sgn; cases n <;> simp <;> omega
    have add : ∀ (n : Bool), Wp (fun o => o = some (((resS (S.int (n, a, ()) + S.int (n, b, ()))).1, (resS (S.int (n, a, ()) + S.int (n, b, ()))).2, ()), ()))
        (optF none (uint256_Add ((a, b, ()), ())) fun y1 => brn (I.neb y1.1.2.1 (I.of .i64 0)) (some (((false, (I.of .u64 0, I.of .u64 0, I.of .u64 0, I.of .u64 0, ()), ()), y1.1.2.1, ()), ())) (optF none (int256_New ((n, y1.1.1, ()), ())) fun y2 => some ((y2.1.1, I.of .i64 0, ()), ()))) := by
      intro n
      rw [same]
      refine Wp.optF (uint256_Add_eq a b) ?_
      have e : (sgn n (U.val a + U.val b)).natAbs = U.val a + U.val b := by unfold sgn; cases n <;> simp <;> omega
      unfold addS
      by_cases h : U.val a + U.val b < U.top
      · rw [if_pos h, resS_lt (by rw [e]; exact h)]
        refine Wp.brnF rfl ?_
        refine Wp.optF (New_eq n (U.of (U.val a + U.val b))) ?_
        rw [U.val_of h]; rfl
      · rw [if_neg h, resS_ge (by rw [e]; omega)]
        exact Wp.brnT rfl rfl
    cases n <;> cases m
    · exact Wp.brnT rfl (add false)
    · refine Wp.brnF rfl (Wp.brnF rfl ?_)
      refine Wp.optF (Diff_eq a b) ?_
      have : S.int (false, a, ()) + S.int (true, b, ()) = (U.val a : Int) - U.val b := by unfold S.int; simp; omega
      rw [this, resS_lt (hab a b)]; rfl
    · refine Wp.brnF rfl (Wp.brnT rfl ?_)
      refine Wp.optF (Diff_eq b a) ?_
      have : S.int (true, a, ()) + S.int (false, b, ()) = (U.val b : Int) - U.val a := by unfold S.int; simp; omega
      rw [this, resS_lt (hab b a)]; rfl
    · exact Wp.brnT rfl (add true)
  · intro j hj
    refine Wp.optF (Valid_eq x) ?_
    cases h1 : validB x with
    | false =>
      rw [binS_f1 h1]
      exact Wp.brnT rfl rfl
    | true =>
      refine Wp.brnF rfl ?_
      refine Wp.optF (Valid_eq y) ?_
      cases h2 : validB y with
      | false =>
        rw [binS_f2 h2]
        exact Wp.brnT rfl rfl
      | true =>
        exact Wp.brnF rfl (hj _ ⟨h1, h2, rfl, rfl⟩)
end Sym

/- Signed numbers of 256 bits: differences, products, quotients, order. -/
namespace Sym
open Go

theorem SSub_eq (x y : S) : int256_Sub ((x, y, ()), ()) = some (((binS x y (x.int - y.int)).1, (binS x y (x.int - y.int)).2, ()), ()) := by
  refine Wp.out (T := fun o => o = some (((binS x y (x.int - y.int)).1, (binS x y (x.int - y.int)).2, ()), ())) ?_
  unfold int256_Sub
  refine Wp.optF (Neg_eq y) ?_
  refine Wp.jn (fun s => validB x = true ∧ validB y = true ∧ s.2.1 = x ∧ s.2.2.2.1 = S.of (-y.int)) ?_ ?_
  · rintro ⟨⟨⟩, x', r, y', ⟨⟩⟩ ⟨h1, h2, e1, e2⟩
    simp only at e1 e2
    subst e1 e2
    refine Wp.optF (SAdd_eq x' (S.of (-y.int))) ?_
    have hy := y.lt
    rw [binS_t h1 h2, binS_t h1 (S.of_valid (by omega)), S.int_of (by omega), show S.int x' + -y.int = S.int x' - y.int by omega]
    rfl
  · intro j hj
    unfold negS
    cases h2 : validB y with
    | false =>
      rw [binS_f2 h2]
      exact Wp.brnT rfl rfl
    | true =>
      refine Wp.brnF rfl ?_
      refine Wp.optF (Valid_eq x) ?_
      cases h1 : validB x with
      | false =>
        rw [binS_f1 h1]
        exact Wp.brnT rfl rfl
      | true => exact Wp.brnF rfl (hj _ ⟨h1, h2, rfl, rfl⟩)

theorem sgn_mul (n m : Bool) (a b : Nat) : sgn n a * sgn m b = sgn (!(n == m)) (a * b) := by
  unfold sgn
  cases n <;> cases m <;> simp [Int.neg_mul, Int.mul_neg]

theorem sgn_abs (n : Bool) (a : Nat) : (sgn n a).natAbs = a := by unfold sgn; cases n <;> simp

theorem SMul_eq (x y : S) : int256_Mul ((x, y, ()), ()) = some (((binS x y (x.int * y.int)).1, (binS x y (x.int * y.int)).2, ()), ()) := by
  refine Wp.out (T := fun o => o = some (((binS x y (x.int * y.int)).1, (binS x y (x.int * y.int)).2, ()), ())) ?_
  unfold int256_Mul
  refine Wp.jn (fun s => validB x = true ∧ validB y = true ∧ s.2.1 = x ∧ s.2.2.1 = y) ?_ ?_
  · rintro ⟨⟨⟩, x', y', r, ⟨⟩⟩ ⟨h1, h2, e1, e2⟩
    simp only at e1 e2
    subst e1 e2
    rw [binS_t h1 h2]
    obtain ⟨n, a, ⟨⟩⟩ := x'
    obtain ⟨m, b, ⟨⟩⟩ := y'
    have e : S.int (n, a, ()) * S.int (m, b, ()) = sgn (!(n == m)) (U.val a * U.val b) := sgn_mul n m _ _
    rw [e]
    refine Wp.optF (Mul_ok a b) ?_
    unfold errS
    by_cases h : U.val a * U.val b < U.top
    · rw [if_pos h, resS_lt (by rw [sgn_abs]; exact h)]
      refine Wp.brnF rfl ?_
      refine Wp.optF (New_eq (!(n == m)) (U.of (U.val a * U.val b))) ?_
      rw [U.val_of h]; rfl
    · rw [if_neg h, resS_ge (by rw [sgn_abs]; omega)]
      exact Wp.brnT rfl rfl
  · intro j hj
    refine Wp.optF (Valid_eq x) ?_
    cases h1 : validB x with
    | false =>
      rw [binS_f1 h1]
      exact Wp.brnT rfl rfl
    | true =>
      refine Wp.brnF rfl ?_
      refine Wp.optF (Valid_eq y) ?_
      cases h2 : validB y with
      | false =>
        rw [binS_f2 h2]
        exact Wp.brnT rfl rfl
      | true =>
        exact Wp.brnF rfl (hj _ ⟨h1, h2, rfl, rfl⟩)

def divFS (x : S) (d : U) : S × I .i64 := if validB x then (if d.val = 0 then (S.of 0, I.of .i64 5) else (S.of (x.int / (d.val : Int)), I.of .i64 0)) else (S.of 0, I.of .i64 2)

theorem neg_div (a d : Nat) (hd : 0 < d) : -(a : Int) / (d : Int) = if a % d = 0 then -((a / d : Nat) : Int) else -((a / d + 1 : Nat) : Int) := by
  have h1 := Nat.div_add_mod a d
  have h2 := Nat.mod_lt a hd
  have h1' : (d : Int) * ((a / d : Nat) : Int) + ((a % d : Nat) : Int) = (a : Int) := by rw [← Int.natCast_mul]; omega
  by_cases h : a % d = 0
  · rw [if_pos h]
    refine ((Int.ediv_emod_unique (r := 0) (by omega)).2 ⟨?_, by omega, by omega⟩).1
    rw [h] at h1'
    rw [Int.mul_neg]
    simp only [Int.ofNat_zero] at h1'
    omega
  · rw [if_neg h]
    refine ((Int.ediv_emod_unique (r := (d : Int) - ((a % d : Nat) : Int)) (by omega)).2 ⟨?_, by omega, by omega⟩).1
    rw [Int.natCast_add, Int.mul_neg, Int.mul_add, show ((1 : Nat) : Int) = 1 from rfl, Int.mul_one]
    omega

theorem DivFloor_eq (x : S) (d : U) : int256_DivFloor ((x, d, ()), ()) = some (((divFS x d).1, (divFS x d).2, ()), ()) := by
  refine Wp.out (T := fun o => o = some (((divFS x d).1, (divFS x d).2, ()), ())) ?_
  unfold int256_DivFloor divFS
  refine Wp.optF (Valid_eq x) ?_
  cases h1 : validB x with
  | false => exact Wp.brnT rfl rfl
  | true =>
    refine Wp.brnF rfl ?_
    refine Wp.optF (DivMod_ok x.2.1 d) ?_
    unfold divModS
    by_cases hd : d.val = 0
    · rw [if_pos hd, if_pos rfl, if_pos hd]
      exact Wp.brnT rfl rfl
    · rw [if_neg hd, if_pos rfl, if_neg hd]
      refine Wp.brnF rfl ?_
      obtain ⟨n, a, ⟨⟩⟩ := x
      have ha := U.lt a
      have hq : U.val a / d.val < U.top := Nat.lt_of_le_of_lt (Nat.div_le_self _ _) ha
      have hr : U.val a % d.val < U.top := Nat.lt_of_le_of_lt (Nat.mod_le _ _) ha
      refine Wp.jn (fun s => s.2.1.1 = n ∧ s.2.2.2.1 = U.of (U.val a / d.val) ∧ s.1.1 = (n && !decide (U.val a % d.val = 0))) ?_ ?_
      · rintro ⟨⟨b, ⟨⟩⟩, ⟨n', a', ⟨⟩⟩, r, q, ⟨⟩⟩ ⟨e1, e2, e3⟩
        simp only at e1 e2 e3
        subst e1 e2 e3
        cases n' with
        | false =>
          refine Wp.brnF rfl ?_
          refine Wp.optF (New_eq false (U.of (U.val a / d.val))) ?_
          rw [U.val_of hq]
          rfl
        | true =>
          have hz : S.int (true, a, ()) / (d.val : Int) = if U.val a % d.val = 0 then -((U.val a / d.val : Nat) : Int) else -((U.val a / d.val + 1 : Nat) : Int) := neg_div _ _ (by omega)
          rw [hz]
          by_cases hm : U.val a % d.val = 0
          · rw [if_pos hm]
            refine Wp.brnF (by show (true && !decide (U.val a % d.val = 0)) = false; rw [hm]; rfl) ?_
            refine Wp.optF (New_eq true (U.of (U.val a / d.val))) ?_
            rw [U.val_of hq]
            rfl
          · rw [if_neg hm]
            refine Wp.brnT (by show (true && !decide (U.val a % d.val = 0)) = true; simp [hm]) ?_
            refine Wp.optF (u256_FromUint64 _) ?_
            refine Wp.optF (uint256_Add_eq (U.of (U.val a / d.val)) (u64U (I.of .u64 1))) ?_
            have hlt : U.val a / d.val + 1 < U.top := by
              have h2 : d.val ≠ 1 := by intro e; rw [e, Nat.mod_one] at hm; exact hm rfl
              have h3 : U.val a / d.val ≤ U.val a / 2 := Nat.div_le_div_left (by omega) (by decide)
              have : U.top = 115792089237316195423570985008687907853269984665640564039457584007913129639936 := rfl
              omega
            have h1v : (u64U (I.of .u64 1)).val = 1 := rfl
            unfold addS
            rw [U.val_of hq, h1v, if_pos hlt]
            refine Wp.optF (New_eq true (U.of (U.val a / d.val + 1))) ?_
            rw [U.val_of hlt]
            rfl
      · intro j hj
        have hbit : (!(Ty.eqb (.arr 4 (.int .u64)) (U.of (U.val a % d.val)) (I.of .u64 0, I.of .u64 0, I.of .u64 0, I.of .u64 0, ()))) = !decide (U.val a % d.val = 0) := by rw [eqz, U.val_of hr]
        cases n with
        | false => exact Wp.brnF rfl (hj _ ⟨rfl, rfl, rfl⟩)
        | true => exact Wp.brnT rfl (hj _ ⟨rfl, rfl, hbit⟩)

def clampS (a : U) (y : S) : U × I .i64 := if validB y then (if (a.val : Int) + y.int < 0 then (U.of 0, I.of .i64 0) else errS ((a.val : Int) + y.int).toNat) else (U.of 0, I.of .i64 2)

theorem AddClamped_eq (a : U) (y : S) : int256_AddClamped ((a, y, ()), ()) = some (((clampS a y).1, (clampS a y).2, ()), ()) := by
  refine Wp.out (T := fun o => o = some (((clampS a y).1, (clampS a y).2, ()), ())) ?_
  unfold int256_AddClamped clampS
  refine Wp.optF (Valid_eq y) ?_
  cases h1 : validB y with
  | false => exact Wp.brnT rfl rfl
  | true =>
    refine Wp.brnF rfl ?_
    rw [if_pos rfl]
    obtain ⟨n, b, ⟨⟩⟩ := y
    have ha := U.lt a
    have hb := U.lt b
    cases n with
    | false =>
      refine Wp.brnF rfl ?_
      refine Wp.optF (uint256_Add_eq a b) ?_
      have e : S.int (false, b, ()) = (U.val b : Int) := rfl
      rw [e, if_neg (by omega), show ((U.val a : Int) + U.val b).toNat = U.val a + U.val b by omega]
      rfl
    | true =>
      refine Wp.brnT rfl ?_
      refine Wp.optF (SatSub_ok a b) ?_
      have e : S.int (true, b, ()) = -(U.val b : Int) := rfl
      rw [e]
      by_cases h : U.val a < U.val b
      · rw [if_pos (by omega), show U.val a - U.val b = 0 by omega]
        rfl
      · rw [if_neg (by omega), show ((U.val a : Int) + -(U.val b : Int)).toNat = U.val a - U.val b by omega]
        rw [show errS (U.val a - U.val b) = (U.of (U.val a - U.val b), I.of .i64 0) from if_pos (by omega)]
        rfl

def cmpI (x y : Int) : I .i64 := if x < y then I.of .i64 (-1) else if y < x then I.of .i64 1 else I.of .i64 0
def cmpZ (x y : S) : I .i64 := if validB x && validB y then cmpI x.int y.int else I.of .i64 0

theorem SCmp_eq (x y : S) : int256_Cmp ((x, y, ()), ()) = some ((cmpZ x y, ()), ()) := by
  refine Wp.out (T := fun o => o = some ((cmpZ x y, ()), ())) ?_
  unfold int256_Cmp
  refine Wp.jn (fun s => s.2.1 = x ∧ s.2.2.1 = y ∧ s.1.1 = !(validB x && validB y)) ?_ ?_
  · rintro ⟨⟨b, ⟨⟩⟩, x', y', ⟨⟩⟩ ⟨e1, e2, e3⟩
    simp only at e1 e2 e3
    subst e1 e2 e3
    cases hv : (validB x' && validB y') with
    | false =>
      refine Wp.brnT rfl ?_
      unfold cmpZ
      rw [hv]; rfl
    | true =>
      refine Wp.brnF rfl ?_
      have hc : cmpZ x' y' = cmpI (S.int x') (S.int y') := by unfold cmpZ; rw [hv]; rfl
      rw [hc]
      simp only [Bool.and_eq_true] at hv
      obtain ⟨n, a, ⟨⟩⟩ := x'
      obtain ⟨m, b, ⟨⟩⟩ := y'
      have pos : ∀ (a : U), S.int (false, a, ()) = (U.val a : Int) := fun _ => rfl
      have neg : ∀ (a : U), S.int (true, a, ()) = -(U.val a : Int) := fun _ => rfl
      have hn : ∀ {a : U}, validB (true, a, ()) = true → U.val a ≠ 0 := by
        intro a h hz
        unfold validB at h
        simp [hz] at h
      refine Wp.jn (fun s => s.2.1 = (n, a, ()) ∧ s.2.2.1 = (m, b, ()) ∧ s.1.1 = (n && m)) ?_ ?_
      · rintro ⟨⟨b', ⟨⟩⟩, x', y', ⟨⟩⟩ ⟨e1, e2, e3⟩
        simp only at e1 e2 e3
        subst e1 e2 e3
        cases n <;> cases m
        · refine Wp.brnF rfl (Wp.brnF rfl (Wp.brnF rfl ?_))
          refine Wp.optF (uint256_Cmp_eq a b) ?_
          rw [pos, pos]
          unfold cmpI cmpS
          simp only [Int.ofNat_lt]
          rfl
        · refine Wp.brnF rfl (Wp.brnF rfl (Wp.brnT rfl ?_))
          have := hn hv.2
          rw [pos, neg]
          unfold cmpI
          rw [if_neg (by omega), if_pos (by omega)]
          rfl
        · refine Wp.brnF rfl (Wp.brnT rfl ?_)
          have := hn hv.1
          rw [pos, neg]
          unfold cmpI
          rw [if_pos (by omega)]
          rfl
        · refine Wp.brnT rfl ?_
          refine Wp.optF (uint256_Cmp_eq b a) ?_
          rw [neg, neg]
          have e : cmpS b a = cmpI (-(U.val a : Int)) (-(U.val b : Int)) := by
            unfold cmpI cmpS
            rcases Nat.lt_trichotomy (U.val a) (U.val b) with h | h | h
            · rw [if_neg (show ¬ U.val b < U.val a by omega), if_pos h, if_neg (show ¬ -(U.val a : Int) < -(U.val b : Int) by omega), if_pos (show -(U.val b : Int) < -(U.val a : Int) by omega)]
            · rw [if_neg (show ¬ U.val b < U.val a by omega), if_neg (show ¬ U.val a < U.val b by omega), if_neg (show ¬ -(U.val a : Int) < -(U.val b : Int) by omega), if_neg (show ¬ -(U.val b : Int) < -(U.val a : Int) by omega)]
            · rw [if_pos h, if_pos (show -(U.val a : Int) < -(U.val b : Int) by omega)]
          rw [e]
          rfl
      · intro j hj
        cases n with
        | false => exact Wp.brnF rfl (hj _ ⟨rfl, rfl, rfl⟩)
        | true => exact Wp.brnT rfl (hj _ ⟨rfl, rfl, rfl⟩)
  · intro j hj
    refine Wp.optF (Valid_eq x) ?_
    cases h1 : validB x with
    | false => exact Wp.brnT rfl (hj _ ⟨rfl, rfl, by rw [h1]; rfl⟩)
    | true =>
      refine Wp.brnF rfl ?_
      refine Wp.optF (Valid_eq y) ?_
      exact hj _ ⟨rfl, rfl, by rw [h1]; rfl⟩

theorem abs64 (n : I .i64) (h : n.val < 0) : (I.add (I.conv .u64 (I.neg (I.add n (I.of .i64 1)))) (I.of .u64 1)).nat = n.val.natAbs := by
  have hn := i64_range n
  have c1 : (I.of .i64 1).val = 1 := rfl
  have d1 : (I.of .u64 1).val = 1 := rfl
  have e1 : (I.add n (I.of .i64 1)).val = n.val + 1 := by rw [add_i64 (by omega), c1]
  have e2 : (I.neg (I.add n (I.of .i64 1))).val = -(n.val + 1) := by
    show (I.of .i64 (0 - (I.add n (I.of .i64 1)).val)).val = _
    rw [e1, of_i64 (by omega)]; omega
  have e3 : (I.conv .u64 (I.neg (I.add n (I.of .i64 1)))).val = -(n.val + 1) := by
    show (I.of .u64 _).val = _
    rw [e2, of_u64 (by omega)]
  have e4 := add_u64 (a := I.conv .u64 (I.neg (I.add n (I.of .i64 1)))) (b := I.of .u64 1) (by omega)
  have := nat_val (I.add (I.conv .u64 (I.neg (I.add n (I.of .i64 1)))) (I.of .u64 1))
  omega

theorem conv64 (n : I .i64) (h : 0 ≤ n.val) : (I.conv .u64 n).nat = n.val.natAbs := by
  have hn := i64_range n
  have e3 : (I.conv .u64 n).val = n.val := of_u64 (by omega)
  have := nat_val (I.conv .u64 n)
  omega

theorem u64U_of (x : I .u64) (n : Nat) (h : x.nat = n) : u64U x = U.of n := by
  apply U.ext
  have := nat_lt x
  rw [u64U_val, U.val_of (by have : U.top = 115792089237316195423570985008687907853269984665640564039457584007913129639936 := rfl; omega), h]

theorem SFrom_eq (n : I .i64) : int256_FromInt64 ((n, ()), ()) = some ((S.of n.val, ()), ()) := by
  refine Wp.out (T := fun o => o = some ((S.of n.val, ()), ())) ?_
  unfold int256_FromInt64
  have c0 : (I.of .i64 0).val = 0 := rfl
  refine Wp.brn (fun h => ?_) (fun h => ?_)
  · have h := iff_ltb.1 h
    have h : n.val < (I.of .i64 0).val := h
    refine Wp.optF (u256_FromUint64 _) ?_
    have := u64U_of _ _ (abs64 n (by omega))
    refine (congrArg (fun z : U => some (((true, z, ()), ()), ())) this).trans ?_
    unfold S.of
    rw [decide_eq_true (show n.val < 0 by omega)]
  · have h := niff_ltb.1 h
    have h : (I.of .i64 0).val ≤ n.val := h
    refine Wp.optF (u256_FromUint64 _) ?_
    have := u64U_of _ _ (conv64 n (by omega))
    refine (congrArg (fun z : U => some (((false, z, ()), ()), ())) this).trans ?_
    unfold S.of
    rw [decide_eq_false (show ¬ n.val < 0 by omega)]

theorem awake3 : pontagelaw3_awake ((), ()) = some ((true, ()), ()) := by
  refine Wp.out (T := fun o => o = some ((true, ()), ())) ?_
  unfold pontagelaw3_awake
  refine Wp.optF (SFrom_eq (I.of .i64 (-7))) ?_
  refine Wp.optF (DivFloor_eq _ _) ?_
  refine Wp.optF (SFrom_eq (I.of .i64 (-5))) ?_
  refine Wp.optF (AddClamped_eq _ _) ?_
  refine Wp.optF (SFrom_eq (I.of .i64 (-4))) ?_
  refine Wp.brnT (by kernel_rfl) (Wp.brnT (by kernel_rfl) (Wp.brnT (by kernel_rfl) (Wp.brnT (by kernel_rfl) ?_)))
  refine Wp.optF (Valid_eq _) ?_
  refine Wp.brnT (by kernel_rfl) ?_
  refine Wp.optF (SFrom_eq (I.of .i64 (-4))) ?_
  show _ = _
  kernel_rfl
end Sym

/- Signed numbers: what the reference's functions compute; two laws. -/
namespace Sym
open Go

abbrev SB : Type := Bool × List Dg × Unit
/-- s is the whole number z. -/
structure IsSB (s : SB) (z : Int) : Prop where
  neg : s.1 = decide (z < 0)
  abs : IsB s.2.1 z.natAbs

def Bd (n : Nat) : Prop := n < 65536 ^ 64

theorem len_small' {l : List Dg} {n : Nat} (h : IsB l n) (k : Nat) (hn : n < 65536 ^ k) (hk : k ≤ 1000000) : l.length ≤ 1000000 := Nat.le_trans (h.len.2 hn) hk

theorem Bd.len {l : List Dg} {n : Nat} (h : IsB l n) (hb : Bd n) : l.length ≤ 1000000 := len_small' h 64 hb (by decide)
theorem Bd.of_top {n : Nat} (h : n < U.top) : Bd n := Nat.lt_trans h (by decide)
theorem Bd.of_two {n : Nat} (h : n < U.top + U.top) : Bd n := Nat.lt_trans h (by decide)
theorem Bd.of_sq {n : Nat} (h : n < U.top * U.top) : Bd n := Nat.lt_trans h (by decide)

theorem len_pos {l : List Dg} {n : Nat} (h : IsB l n) : 0 < l.length ↔ n ≠ 0 := by
  have := h.len (k := 0)
  rw [Nat.pow_zero] at this
  omega

theorem sign_ok (n : Bool) {l : List Dg} {m : Nat} (h : IsB l m) (hl : l.length ≤ 1000000) : ∃ s : SB, pontageref3_sign ((n, l, ()), ()) = some ((s, ()), ()) ∧ IsSB s (sgn n m) := by
  have key : Wp (fun o => ∃ s : SB, o = some ((s, ()), ()) ∧ IsSB s (sgn n m)) (pontageref3_sign ((n, l, ()), ())) := by
    have hol : (I.ofNat .i64 (lenL l)).val = l.length := ofNat_i64 (by show l.length < _; omega)
    have c0 : (I.of .i64 0).val = 0 := rfl
    have hp := len_pos h
    unfold pontageref3_sign
    cases n with
    | false => exact Wp.brnF rfl ⟨_, rfl, (decide_eq_false (by unfold sgn; simp)).symm, by rw [sgn_abs]; exact h⟩
    | true =>
      refine Wp.brnT rfl ⟨_, rfl, ?_, by rw [sgn_abs]; exact h⟩
      show I.ltb (I.of .i64 0) (I.ofNat .i64 (lenL l)) = decide (sgn true m < 0)
      unfold I.ltb
      rw [c0, hol]
      have : ((0 : Int) < (l.length : Int)) ↔ sgn true m < 0 := by unfold sgn; simp; omega
      simp only [this]
  exact key.out

theorem FromInt_ok (x : S) : ∃ s : SB, pontageref3_FromInt256 ((x, ()), ()) = some ((s, ()), ()) ∧ IsSB s x.int := by
  have key : Wp (fun o => ∃ s : SB, o = some ((s, ()), ()) ∧ IsSB s x.int) (pontageref3_FromInt256 ((x, ()), ())) := by
    unfold pontageref3_FromInt256
    obtain ⟨l, hl, hB⟩ := FromUint256_ok x.2.1
    refine Wp.optF hl ?_
    obtain ⟨s, hs, hS⟩ := sign_ok x.1 hB (Bd.len hB (Bd.of_top (U.lt _)))
    exact Wp.optF hs ⟨s, rfl, hS⟩
  exact key.out

theorem RAdd_ok {s t : SB} {z w : Int} (hs : IsSB s z) (ht : IsSB t w) (hz : Bd z.natAbs) (hw : Bd w.natAbs) (hzw : Bd (z.natAbs + w.natAbs)) : ∃ r : SB, pontageref3_Add ((s, t, ()), ()) = some ((r, ()), ()) ∧ IsSB r (z + w) := by
  have key : Wp (fun o => ∃ r : SB, o = some ((r, ()), ()) ∧ IsSB r (z + w)) (pontageref3_Add ((s, t, ()), ())) := by
    obtain ⟨n, l, ⟨⟩⟩ := s
    obtain ⟨m, l2, ⟨⟩⟩ := t
    obtain ⟨h1, h2⟩ := hs
    obtain ⟨h3, h4⟩ := ht
    simp only at h1 h2 h3 h4
    have len1 := Bd.len h2 hz
    have len2 := Bd.len h4 hw
    unfold pontageref3_Add
    by_cases hnm : n = m
    · refine Wp.brnT (by show (n == m) = true; simp [hnm]) ?_
      obtain ⟨r, hr, hB⟩ := Add_ok h2 h4 len1 len2
      refine Wp.optF hr ?_
      obtain ⟨q, hq, hQ⟩ := sign_ok n hB (Bd.len hB hzw)
      refine Wp.optF hq ⟨q, rfl, ?_⟩
      have : sgn n (z.natAbs + w.natAbs) = z + w := by
        unfold sgn
        subst hnm
        rw [h1] at h3 ⊢
        by_cases hz0 : z < 0
        · have : w < 0 := by simpa [hz0] using h3
          simp [hz0]; omega
        · have : ¬ w < 0 := by simpa [hz0] using h3
          simp [hz0]; omega
      rw [← this]; exact hQ
    · refine Wp.brnF (by show (n == m) = false; simp [hnm]) ?_
      refine Wp.optF (Cmp_ok h2 h4 len1 len2) ?_
      have hne : ¬ (decide (z < 0) = decide (w < 0)) := by rw [← h1, ← h3]; exact hnm
      by_cases hlt : z.natAbs < w.natAbs
      · refine Wp.brnF (by show I.leb (I.of .i64 0) (cmpN _ _) = false; unfold cmpN; rw [if_pos hlt]; rfl) ?_
        obtain ⟨r, hr, hB⟩ := Sub_ok h4 h2 (by omega) len2
        refine Wp.optF hr ?_
        obtain ⟨q, hq, hQ⟩ := sign_ok m hB (Bd.len hB (Nat.lt_of_le_of_lt (Nat.sub_le _ _) hw))
        refine Wp.optF hq ⟨q, rfl, ?_⟩
        have : sgn m (w.natAbs - z.natAbs) = z + w := by
          unfold sgn
          rw [h3]
          by_cases hw0 : w < 0
          · have : ¬ z < 0 := by simpa [hw0] using hne
            simp [hw0]; omega
          · have : z < 0 := by simpa [hw0] using hne
            simp [hw0]; omega
        rw [← this]; exact hQ
      · refine Wp.brnT (by show I.leb (I.of .i64 0) (cmpN _ _) = true; unfold cmpN; rw [if_neg hlt]; split <;> rfl) ?_
        obtain ⟨r, hr, hB⟩ := Sub_ok h2 h4 (by omega) len1
        refine Wp.optF hr ?_
        obtain ⟨q, hq, hQ⟩ := sign_ok n hB (Bd.len hB (Nat.lt_of_le_of_lt (Nat.sub_le _ _) hz))
        refine Wp.optF hq ⟨q, rfl, ?_⟩
        have : sgn n (z.natAbs - w.natAbs) = z + w := by
          unfold sgn
          rw [h1]
          by_cases hz0 : z < 0
          · have : ¬ w < 0 := by simpa [hz0] using hne
            simp [hz0]; omega
          · have : w < 0 := by simpa [hz0] using hne
            simp [hz0]; omega
        rw [← this]; exact hQ
  exact key.out

theorem RNegate_ok {s : SB} {z : Int} (hs : IsSB s z) (hz : Bd z.natAbs) : ∃ r : SB, pontageref3_Negate ((s, ()), ()) = some ((r, ()), ()) ∧ IsSB r (-z) := by
  have key : Wp (fun o => ∃ r : SB, o = some ((r, ()), ()) ∧ IsSB r (-z)) (pontageref3_Negate ((s, ()), ())) := by
    unfold pontageref3_Negate
    obtain ⟨q, hq, hQ⟩ := sign_ok (!s.1) hs.abs (Bd.len hs.abs hz)
    refine Wp.optF hq ⟨q, rfl, ?_⟩
    have : sgn (!s.1) z.natAbs = -z := by
      rw [hs.neg]
      unfold sgn
      by_cases h : z < 0
      · simp [h]; omega
      · simp [h]; omega
    rw [← this]; exact hQ
  exact key.out

theorem RChecked_ok {s : SB} {z : Int} (hs : IsSB s z) (hz : Bd z.natAbs) : pontageref3_Checked ((s, ()), ()) = some (((resS z).1, (resS z).2, ()), ()) := by
  refine Wp.out (T := fun o => o = some (((resS z).1, (resS z).2, ()), ())) ?_
  unfold pontageref3_Checked
  refine Wp.optF (Checked_ok' hs.abs (Bd.len hs.abs hz)) ?_
  unfold errS
  by_cases h : z.natAbs < U.top
  · rw [if_pos h, resS_lt h]
    refine Wp.brnF rfl ?_
    show some (((s.1, U.of z.natAbs, ()), I.of .i64 0, ()), ()) = some ((((decide (z < 0), U.of z.natAbs, ()) : S), I.of .i64 0, ()), ())
    rw [hs.neg]
  · rw [if_neg h, resS_ge (by omega)]
    exact Wp.brnT rfl rfl

theorem IsZero_eq (a : U) : pontageref1_IsZero ((a, ()), ()) = some ((decide (a.val = 0), ()), ()) := by
  refine Wp.out (T := fun o => o = some ((decide (a.val = 0), ()), ())) ?_
  unfold pontageref1_IsZero
  show some ((Ty.eqb (.arr 4 (.int .u64)) a (I.of .u64 0, I.of .u64 0, I.of .u64 0, I.of .u64 0, ()), ()), ()) = _
  rw [eqz]

theorem RValid_eq (x : S) : pontageref3_Valid ((x, ()), ()) = some ((validB x, ()), ()) := by
  obtain ⟨n, a, ⟨⟩⟩ := x
  refine Wp.out (T := fun o => o = some ((validB (n, a, ()), ()), ())) ?_
  unfold pontageref3_Valid
  cases n with
  | false => exact Wp.brnF rfl rfl
  | true => exact Wp.brnT rfl (Wp.optF (IsZero_eq a) rfl)

theorem RDiff_eq (a b : U) : pontageref3_Diff ((a, b, ()), ()) = some ((S.of ((a.val : Int) - b.val), ()), ()) := by
  have ha := a.lt
  have hb := b.lt
  refine Wp.out (T := fun o => o = some ((S.of ((a.val : Int) - b.val), ()), ())) ?_
  unfold pontageref3_Diff
  obtain ⟨l, hl, hB⟩ := FromUint256_ok a
  refine Wp.optF hl ?_
  obtain ⟨s, hs, hS⟩ := sign_ok false hB (Bd.len hB (Bd.of_top ha))
  refine Wp.optF hs ?_
  obtain ⟨l2, hl2, hB2⟩ := FromUint256_ok b
  refine Wp.optF hl2 ?_
  obtain ⟨s2, hs2, hS2⟩ := sign_ok true hB2 (Bd.len hB2 (Bd.of_top hb))
  refine Wp.optF hs2 ?_
  have e1 : sgn false a.val = (a.val : Int) := rfl
  have e2 : sgn true b.val = -(b.val : Int) := rfl
  rw [e1] at hS
  rw [e2] at hS2
  obtain ⟨r, hr, hR⟩ := RAdd_ok hS hS2 (Bd.of_top (by omega)) (Bd.of_top (by omega)) (Bd.of_two (by omega))
  refine Wp.optF hr ?_
  rw [show (a.val : Int) + -(b.val : Int) = (a.val : Int) - b.val by omega] at hR
  refine Wp.optF (RChecked_ok hR (Bd.of_top (by omega))) ?_
  rw [resS_lt (by omega)]
  rfl

theorem RClamp_eq (a : U) (y : S) : pontageref3_AddClamped ((a, y, ()), ()) = some (((clampS a y).1, (clampS a y).2, ()), ()) := by
  have ha := a.lt
  have hy := y.lt
  refine Wp.out (T := fun o => o = some (((clampS a y).1, (clampS a y).2, ()), ())) ?_
  unfold pontageref3_AddClamped clampS
  refine Wp.optF (RValid_eq y) ?_
  cases h1 : validB y with
  | false => exact Wp.brnT rfl rfl
  | true =>
    rw [if_pos rfl]
    refine Wp.brnF rfl ?_
    obtain ⟨l, hl, hB⟩ := FromUint256_ok a
    refine Wp.optF hl ?_
    obtain ⟨s, hs, hS⟩ := sign_ok false hB (Bd.len hB (Bd.of_top ha))
    refine Wp.optF hs ?_
    obtain ⟨s2, hs2, hS2⟩ := FromInt_ok y
    refine Wp.optF hs2 ?_
    have e1 : sgn false a.val = (a.val : Int) := rfl
    rw [e1] at hS
    obtain ⟨r, hr, hR⟩ := RAdd_ok hS hS2 (Bd.of_top (by omega)) (Bd.of_top (by omega)) (Bd.of_two (by omega))
    refine Wp.optF hr ?_
    by_cases hz : (a.val : Int) + y.int < 0
    · rw [if_pos hz]
      refine Wp.brnT (by show r.1 = true; rw [hR.neg]; exact decide_eq_true hz) rfl
    · rw [if_neg hz]
      refine Wp.brnF (by show r.1 = false; rw [hR.neg]; exact decide_eq_false hz) ?_
      have hb : Bd ((a.val : Int) + y.int).natAbs := Bd.of_two (by omega)
      refine Wp.optF (Checked_ok' hR.abs (Bd.len hR.abs hb)) ?_
      rw [show ((a.val : Int) + y.int).natAbs = ((a.val : Int) + y.int).toNat by omega]
      rfl

theorem diff_law (a b : U) (c : S) : pontagelaw3_Int256DiffAddClamped ((a, b, c, ()), ()) = some ((true, ()), ()) := by
  refine Wp.out (T := fun o => o = some ((true, ()), ())) ?_
  unfold pontagelaw3_Int256DiffAddClamped
  refine Wp.optF (AddClamped_eq a c) (Wp.optF (RClamp_eq a c) (Wp.optF (Diff_eq a b) (Wp.optF (RDiff_eq a b) ?_)))
  refine Wp.brnT (eqbS_self _) (Wp.brnT (eqb_self' _) (Wp.brnT (by simp [I.eqb]) ?_))
  exact Wp.optF awake3 rfl
end Sym

/- Signed numbers: the laws of order, negation and algebra. -/
namespace Sym
open Go

theorem cmpZ_t {x y : S} (h1 : validB x = true) (h2 : validB y = true) : cmpZ x y = cmpI x.int y.int := by unfold cmpZ; rw [h1, h2]; rfl

theorem RCmp_eq (x y : S) : pontageref3_Cmp ((x, y, ()), ()) = some ((cmpZ x y, ()), ()) := by
  refine Wp.out (T := fun o => o = some ((cmpZ x y, ()), ())) ?_
  unfold pontageref3_Cmp
  refine Wp.jn (fun s => s.2.1 = x ∧ s.2.2.1 = y ∧ validB x = true ∧ validB y = true) ?_ ?_
  · rintro ⟨⟨⟩, x', y', ⟨⟩⟩ ⟨e1, e2, h1, h2⟩
    simp only at e1 e2
    subst e1 e2
    have hx := S.lt x'
    have hy := S.lt y'
    rw [cmpZ_t h1 h2]
    obtain ⟨s, hs, hS⟩ := FromInt_ok x'
    obtain ⟨t, ht, hT⟩ := FromInt_ok y'
    refine Wp.optF hs (Wp.optF ht ?_)
    obtain ⟨t2, ht2, hT2⟩ := RNegate_ok hT (Bd.of_top hy)
    refine Wp.optF ht2 ?_
    obtain ⟨r, hr, hR⟩ := RAdd_ok hS hT2 (Bd.of_top hx) (Bd.of_top (by omega)) (Bd.of_two (by omega))
    refine Wp.optF hr ?_
    have hb : Bd (S.int x' + -S.int y').natAbs := Bd.of_two (by omega)
    have hlen := Bd.len hR.abs hb
    have hol : (I.ofNat .i64 (lenL r.2.1)).val = r.2.1.length := ofNat_i64 (by show r.2.1.length < _; omega)
    have c0 : (I.of .i64 0).val = 0 := rfl
    have hp := len_pos hR.abs
    unfold cmpI
    by_cases h : S.int x' < S.int y'
    · rw [if_pos h]
      exact Wp.brnT (by show r.1 = true; rw [hR.neg]; exact decide_eq_true (by omega)) rfl
    · rw [if_neg h]
      refine Wp.brnF (by show r.1 = false; rw [hR.neg]; exact decide_eq_false (by omega)) ?_
      by_cases h2 : S.int y' < S.int x'
      · rw [if_pos h2]
        refine Wp.brnT (iff_ltb.2 ?_) rfl
        have : 0 < r.2.1.length := hp.2 (by omega)
        show (I.of .i64 0).val < (I.ofNat .i64 (lenL r.2.1)).val
        omega
      · rw [if_neg h2]
        refine Wp.brnF (niff_ltb.2 ?_) rfl
        have : ¬ 0 < r.2.1.length := fun hh => hp.1 hh (by omega)
        show (I.ofNat .i64 (lenL r.2.1)).val ≤ (I.of .i64 0).val
        omega
  · intro j hj
    refine Wp.optF (RValid_eq x) ?_
    cases h1 : validB x with
    | false => unfold cmpZ; rw [h1]; exact Wp.brnT rfl rfl
    | true =>
      refine Wp.brnF rfl ?_
      refine Wp.optF (RValid_eq y) ?_
      cases h2 : validB y with
      | false => unfold cmpZ; rw [h2]; refine Wp.brnT rfl ?_; rw [Bool.and_false]; rfl
      | true => exact Wp.brnF rfl (hj _ ⟨rfl, rfl, h1, h2⟩)

theorem RFrom_eq (n : I .i64) : pontageref3_FromInt64 ((n, ()), ()) = some ((S.of n.val, ()), ()) := by
  refine Wp.out (T := fun o => o = some ((S.of n.val, ()), ())) ?_
  unfold pontageref3_FromInt64
  have c0 : (I.of .i64 0).val = 0 := rfl
  refine Wp.brn (fun h => ?_) (fun h => ?_)
  · have h := iff_ltb.1 h
    have h : n.val < (I.of .i64 0).val := h
    have := u64U_of _ _ (abs64 n (by omega))
    refine (congrArg (fun z : U => some (((true, z, ()), ()), ())) this).trans ?_
    unfold S.of
    rw [decide_eq_true (show n.val < 0 by omega)]
  · have h := niff_ltb.1 h
    have h : (I.of .i64 0).val ≤ n.val := h
    have := u64U_of _ _ (conv64 n (by omega))
    refine (congrArg (fun z : U => some (((false, z, ()), ()), ())) this).trans ?_
    unfold S.of
    rw [decide_eq_false (show ¬ n.val < 0 by omega)]

theorem sof_abs (n : Bool) (b : U) : (S.of (sgn n b.val)).2.1 = b := by
  unfold S.of
  show U.of (sgn n b.val).natAbs = b
  rw [sgn_abs]; exact U.of_val b

theorem order_law (a b : S) (n : I .i64) (d : Bool) : pontagelaw3_Int256Order ((a, b, n, d, ()), ()) = some ((true, ()), ()) := by
  refine Wp.out (T := fun o => o = some ((true, ()), ())) ?_
  unfold pontagelaw3_Int256Order
  refine Wp.optF (Neg_eq a) ?_
  refine Wp.jn (fun s => s.1.1 = n ∧ s.1.2.1 = d ∧ s.2.1 = a ∧ s.2.2.1 = b) ?_ ?_
  · rintro ⟨⟨n', d', ⟨⟩⟩, a', b', ⟨⟩⟩ ⟨e1, e2, e3, e4⟩
    simp only at e1 e2 e3 e4
    subst e1 e2 e3 e4
    have hb := U.lt b'.2.1
    have hsb : (sgn d' (U.val b'.2.1)).natAbs < U.top := by rw [sgn_abs]; exact hb
    refine Wp.optF (New_eq d' b'.2.1) ?_
    refine Wp.optF (Valid_eq a') (Wp.optF (RValid_eq a') ?_)
    refine Wp.brnT (by show (validB a' == validB a') = true; simp) ?_
    refine Wp.optF (SCmp_eq a' b') (Wp.optF (RCmp_eq a' b') (Wp.brnT (by simp [I.eqb]) ?_))
    refine Wp.optF (SFrom_eq n') (Wp.optF (RFrom_eq n') (Wp.brnT (eqbS_self _) ?_))
    refine Wp.optF (Valid_eq (S.of (sgn d' (U.val b'.2.1)))) (Wp.brnT (S.of_valid hsb) ?_)
    refine Wp.brnT ?_ ?_
    · show Ty.eqb (.arr 4 (.int .u64)) (S.of (sgn d' (U.val b'.2.1))).2.1 b'.2.1 = true
      rw [sof_abs]; exact eqb_self' _
    cases d' with
    | true =>
      refine Wp.brnT rfl (Wp.brnT ?_ (Wp.optF awake3 rfl))
      show (decide (sgn true (U.val b'.2.1) < 0) == !(Ty.eqb (.arr 4 (.int .u64)) b'.2.1 (I.of .u64 0, I.of .u64 0, I.of .u64 0, I.of .u64 0, ()))) = true
      rw [eqz]
      by_cases h : U.val b'.2.1 = 0
      · rw [h]; rfl
      · rw [decide_eq_false h, decide_eq_true (show sgn true (U.val b'.2.1) < 0 by unfold sgn; simp; omega)]; rfl
    | false =>
      refine Wp.brnF rfl (Wp.brnT ?_ (Wp.optF awake3 rfl))
      show (decide (sgn false (U.val b'.2.1) < 0) == false) = true
      rw [decide_eq_false (show ¬ sgn false (U.val b'.2.1) < 0 by unfold sgn; simp)]; rfl
  · intro j1 hj1
    refine Wp.optF (RValid_eq a) ?_
    unfold negS
    cases hv : validB a with
    | true =>
      refine Wp.brnT rfl ?_
      rw [if_pos rfl]
      refine Wp.jn (fun s => s.1.1 = n ∧ s.1.2.1 = d ∧ s.1.2.2.1 = I.of .i64 0 ∧ s.2.1 = a ∧ s.2.2.1 = b ∧ s.2.2.2.1 = S.of (-a.int) ∧ s.2.2.2.2.1 = S.of (-a.int)) ?_ ?_
      · rintro ⟨⟨n', d', e, ⟨⟩⟩, a', b', x, w, ⟨⟩⟩ ⟨e1, e2, e3, e4, e5, e6, e7⟩
        simp only at e1 e2 e3 e4 e5 e6 e7
        subst e1 e2 e3 e4 e5 e6 e7
        refine Wp.brnF ?_ (Wp.brnF rfl (hj1 _ ⟨rfl, rfl, rfl, rfl⟩))
        show (!(Ty.eqb (.cons .bool (.cons (.arr 4 (.int .u64)) .nil)) (S.of (-S.int a')) (S.of (-S.int a')))) = false
        rw [eqbS_self]; rfl
      · intro j3 hj3
        obtain ⟨m, c, ⟨⟩⟩ := a
        have hwant : (((!m) && !decide (U.val c = 0)), c, ()) = S.of (-S.int (m, c, ())) := by
          have e : S.of (-S.int (m, c, ())) = S.of (sgn (!m) (U.val c)) := by congr 1; unfold S.int sgn; cases m <;> simp
          rw [e]
          unfold S.of
          rw [sgn_abs, U.of_val]
          cases m with
          | true => simp [sgn]
          | false =>
            by_cases h : U.val c = 0
            · rw [h]; rfl
            · rw [decide_eq_false h, decide_eq_true (show sgn (!false) (U.val c) < 0 by unfold sgn; simp; omega)]; rfl
        cases m with
        | false =>
          refine Wp.brnT rfl (hj3 _ ⟨rfl, rfl, rfl, rfl, rfl, rfl, ?_⟩)
          show ((!(Ty.eqb (.arr 4 (.int .u64)) c (I.of .u64 0, I.of .u64 0, I.of .u64 0, I.of .u64 0, ()))), c, ()) = _
          rw [← hwant, eqz]; rfl
        | true =>
          refine Wp.brnF rfl (hj3 _ ⟨rfl, rfl, rfl, rfl, rfl, rfl, ?_⟩)
          show ((false, c, ()) : S) = _
          rw [← hwant]; rfl
    | false =>
      exact Wp.brnF rfl (Wp.brnF rfl (Wp.brnF rfl (hj1 _ ⟨rfl, rfl, rfl, rfl⟩)))

theorem Neg_t {x : S} (h : validB x = true) : int256_Neg ((x, ()), ()) = some ((S.of (-x.int), I.of .i64 0, ()), ()) := by
  have := Neg_eq x
  unfold negS at this
  rw [h] at this
  exact this
theorem SAdd_t {x y : S} (h1 : validB x = true) (h2 : validB y = true) : int256_Add ((x, y, ()), ()) = some (((resS (x.int + y.int)).1, (resS (x.int + y.int)).2, ()), ()) := by
  have := SAdd_eq x y
  rw [binS_t h1 h2] at this
  exact this
theorem SSub_t {x y : S} (h1 : validB x = true) (h2 : validB y = true) : int256_Sub ((x, y, ()), ()) = some (((resS (x.int - y.int)).1, (resS (x.int - y.int)).2, ()), ()) := by
  have := SSub_eq x y
  rw [binS_t h1 h2] at this
  exact this
theorem SMul_t {x y : S} (h1 : validB x = true) (h2 : validB y = true) : int256_Mul ((x, y, ()), ()) = some (((resS (x.int * y.int)).1, (resS (x.int * y.int)).2, ()), ()) := by
  have := SMul_eq x y
  rw [binS_t h1 h2] at this
  exact this
theorem SCmp_t {x y : S} (h1 : validB x = true) (h2 : validB y = true) : int256_Cmp ((x, y, ()), ()) = some ((cmpI x.int y.int, ()), ()) := by
  have := SCmp_eq x y
  rw [cmpZ_t h1 h2] at this
  exact this

theorem resS_valid (z : Int) : validB (resS z).1 = true := by
  unfold resS
  split
  · rename_i h; exact S.of_valid h
  · rfl

theorem cmpI_neg (x y : Int) : cmpI (-x) (-y) = cmpI y x := by
  unfold cmpI
  rcases Int.lt_trichotomy x y with h | h | h
  · rw [if_neg (show ¬ -x < -y by omega), if_pos (show -y < -x by omega), if_neg (show ¬ y < x by omega), if_pos h]
  · rw [if_neg (show ¬ -x < -y by omega), if_neg (show ¬ -y < -x by omega), if_neg (show ¬ y < x by omega), if_neg (show ¬ x < y by omega)]
  · rw [if_pos (show -x < -y by omega), if_pos h]

theorem resS_code (z : Int) : (resS (-z)).2 = (resS z).2 := by
  unfold resS
  rw [Int.natAbs_neg]
  split <;> rfl

theorem negation_law (a b : S) : pontagelaw3_Int256Negation ((a, b, ()), ()) = some ((true, ()), ()) := by
  refine Wp.out (T := fun o => o = some ((true, ()), ())) ?_
  unfold pontagelaw3_Int256Negation
  refine Wp.jn (fun s => s.2.1 = a ∧ s.2.2.1 = b ∧ validB a = true ∧ validB b = true) ?_ ?_
  · rintro ⟨⟨⟩, x, y, ⟨⟩⟩ ⟨e1, e2, h1, h2⟩
    simp only at e1 e2
    subst e1 e2
    have hx := S.lt x
    have hy := S.lt y
    have vx : validB (S.of (-S.int x)) = true := S.of_valid (by omega)
    have vy : validB (S.of (-S.int y)) = true := S.of_valid (by omega)
    have ix : S.int (S.of (-S.int x)) = -S.int x := S.int_of (by omega)
    have iy : S.int (S.of (-S.int y)) = -S.int y := S.int_of (by omega)
    refine Wp.optF (Neg_t h1) (Wp.optF (Neg_t h2) (Wp.optF (SAdd_t h1 h2) ?_))
    have a4 := SAdd_t vx vy
    rw [ix, iy, show -S.int x + -S.int y = -(S.int x + S.int y) by omega] at a4
    refine Wp.optF a4 (Wp.optF (SMul_t h1 h2) ?_)
    have a6 := SMul_t vx h2
    rw [ix, Int.neg_mul] at a6
    refine Wp.optF a6 ?_
    refine Wp.optF (Neg_t (resS_valid _)) (Wp.optF (Neg_t (resS_valid _)) ?_)
    have hc := SCmp_t vx vy
    rw [ix, iy, cmpI_neg] at hc
    have hc2 := SCmp_t h2 h1
    generalize hzz : S.int x + S.int y = z
    generalize hww : S.int x * S.int y = w
    refine Wp.brnT rfl (Wp.brnT rfl ?_)
    refine Wp.brnT (by show I.eqb (resS z).2 (resS (-z)).2 = true; rw [resS_code]; simp [I.eqb]) ?_
    refine Wp.brnT (by show I.eqb (resS w).2 (resS (-w)).2 = true; rw [resS_code]; simp [I.eqb]) ?_
    have eqn : ∀ q : Int, q.natAbs < U.top → Ty.eqb (.cons .bool (.cons (.arr 4 (.int .u64)) .nil)) (resS (-q)).1 (S.of (-S.int (resS q).1)) = true := by
      intro q hq
      rw [resS_lt (show (-q).natAbs < U.top by omega), resS_lt hq]
      show Ty.eqb (.cons .bool (.cons (.arr 4 (.int .u64)) .nil)) (S.of (-q)) (S.of (-S.int (S.of q))) = true
      rw [S.int_of hq]; exact eqbS_self _
    have code : ∀ q : Int, q.natAbs < U.top → I.neb (resS q).2 (I.of .i64 0) = false := fun q hq => by rw [resS_lt hq]; rfl
    have code2 : ∀ q : Int, ¬ q.natAbs < U.top → I.neb (resS q).2 (I.of .i64 0) = true := fun q hq => by rw [resS_ge (by omega)]; rfl
    by_cases hz : z.natAbs < U.top
    · refine Wp.brnF (code z hz) (Wp.brnT (eqn z hz) ?_)
      by_cases hw : w.natAbs < U.top
      · exact Wp.brnF (code w hw) (Wp.brnT (eqn w hw) (Wp.optF hc (Wp.optF hc2 (Wp.brnT (by simp [I.eqb]) (Wp.optF awake3 rfl)))))
      · exact Wp.brnT (code2 w hw) (Wp.optF hc (Wp.optF hc2 (Wp.brnT (by simp [I.eqb]) (Wp.optF awake3 rfl))))
    · refine Wp.brnT (code2 z hz) ?_
      by_cases hw : w.natAbs < U.top
      · exact Wp.brnF (code w hw) (Wp.brnT (eqn w hw) (Wp.optF hc (Wp.optF hc2 (Wp.brnT (by simp [I.eqb]) (Wp.optF awake3 rfl)))))
      · exact Wp.brnT (code2 w hw) (Wp.optF hc (Wp.optF hc2 (Wp.brnT (by simp [I.eqb]) (Wp.optF awake3 rfl))))
  · intro j0 hj0
    refine Wp.jn (fun s => s.1.1 = (!(validB a && validB b)) ∧ s.2.1 = a ∧ s.2.2.1 = b) ?_ ?_
    · rintro ⟨⟨v, ⟨⟩⟩, x, y, ⟨⟩⟩ ⟨e1, e2, e3⟩
      simp only at e1 e2 e3
      subst e1 e2 e3
      cases h1 : validB x <;> cases h2 : validB y
      · exact Wp.brnT rfl (Wp.optF awake3 rfl)
      · exact Wp.brnT rfl (Wp.optF awake3 rfl)
      · exact Wp.brnT rfl (Wp.optF awake3 rfl)
      · exact Wp.brnF rfl (hj0 _ ⟨rfl, rfl, h1, h2⟩)
    · intro j1 hj1
      refine Wp.optF (Valid_eq a) ?_
      cases h1 : validB a with
      | false => exact Wp.brnT rfl (hj1 _ ⟨by rw [h1]; rfl, rfl, rfl⟩)
      | true => exact Wp.brnF rfl (Wp.optF (Valid_eq b) (hj1 _ ⟨by rw [h1]; rfl, rfl, rfl⟩))
end Sym

/- Signed numbers: the law of algebra. -/
namespace Sym
open Go

theorem top_u64 (c : I .u64) : c.nat < U.top := by
  have := nat_lt c
  have : U.top = 115792089237316195423570985008687907853269984665640564039457584007913129639936 := rfl
  omega

theorem DivFloor_t {x : S} (c : I .u64) (h : validB x = true) (hc : c.nat ≠ 0) : int256_DivFloor ((x, u64U c, ()), ()) = some ((S.of (x.int / (c.nat : Int)), I.of .i64 0, ()), ()) := by
  have := DivFloor_eq x (u64U c)
  unfold divFS at this
  rw [h, u64U_val, if_pos rfl, if_neg hc] at this
  exact this

theorem floor_abs (z : Int) (d : Nat) (hd : d ≠ 0) : (z / (d : Int)).natAbs ≤ z.natAbs := by
  have h1 := Int.mul_ediv_add_emod z d
  have h2 := Int.emod_nonneg z (b := (d : Int)) (by omega)
  have h3 := Int.emod_lt_of_pos z (b := (d : Int)) (by omega)
  rcases Int.lt_or_le z 0 with h | h
  · have h4 : z / (d : Int) < 0 := by
      rcases Int.lt_or_le (z / (d : Int)) 0 with h7 | h7
      · exact h7
      · have := Int.mul_nonneg (show (0 : Int) ≤ (d : Int) by omega) h7
        omega
    have h5 : z ≤ z / (d : Int) := by
      have : (d : Int) * (z / (d : Int)) ≤ 1 * (z / (d : Int)) := Int.mul_le_mul_of_nonpos_right (by omega) (by omega)
      have h6 : z - (z % d) = (d : Int) * (z / (d : Int)) := by omega
      rcases Int.lt_or_le (z / (d : Int)) z with h7 | h7
      · exfalso
        have : (d : Int) * (z / (d : Int) + 1) ≤ (d : Int) * z := Int.mul_le_mul_of_nonneg_left (by omega) (by omega)
        rw [Int.mul_add, Int.mul_one] at this
        have h8 : (d : Int) * z ≤ 1 * z := Int.mul_le_mul_of_nonpos_right (by omega) (by omega)
        omega
      · exact h7
    omega
  · have h4 : 0 ≤ z / (d : Int) := Int.ediv_nonneg h (by omega)
    have h5 : z / (d : Int) ≤ z := Int.ediv_le_self _ h
    omega

theorem algebra_law (a b : S) (c : I .u64) : pontagelaw3_Int256Algebra ((a, b, c, ()), ()) = some ((true, ()), ()) := by
  refine Wp.out (T := fun o => o = some ((true, ()), ())) ?_
  unfold pontagelaw3_Int256Algebra
  refine Wp.jn (fun s => s.1.1 = c ∧ s.2.1 = a ∧ s.2.2.1 = b ∧ validB a = true ∧ validB b = true) ?_ ?_
  · rintro ⟨⟨c', ⟨⟩⟩, x, y, ⟨⟩⟩ ⟨e0, e1, e2, h1, h2⟩
    simp only at e0 e1 e2
    subst e0 e1 e2
    have hx := S.lt x
    have hy := S.lt y
    refine Wp.optF (SSub_t h1 h2) ?_
    refine Wp.jn (fun s => s.1.1 = c' ∧ s.2.1 = x) ?_ ?_
    · rintro ⟨⟨c2, ⟨⟩⟩, x2, ⟨⟩⟩ ⟨e1, e2⟩
      simp only at e1 e2
      subst e1 e2
      have hcn := nat_val c2
      have z0 : (I.of .u64 0).val = 0 := rfl
      refine Wp.brn (fun _ => Wp.optF awake3 rfl) (fun hc => ?_)
      have hc := niff_eqb.1 hc
      have hc : c2.val ≠ (I.of .u64 0).val := hc
      have hc : c2.nat ≠ 0 := by omega
      refine Wp.optF (DivFloor_t c2 h1 hc) (Wp.brnF rfl ?_)
      refine Wp.optF (New_eq false (u64U c2)) ?_
      have eN : sgn false (u64U c2).val = (c2.nat : Int) := by rw [u64U_val]; rfl
      rw [eN]
      have hct := top_u64 c2
      have hq := floor_abs (S.int x2) c2.nat hc
      have vq : validB (S.of (S.int x2 / (c2.nat : Int))) = true := S.of_valid (by omega)
      have vc : validB (S.of (c2.nat : Int)) = true := S.of_valid (by omega)
      have hm := SMul_t vq vc
      rw [S.int_of (by omega), S.int_of (by omega)] at hm
      refine Wp.optF hm ?_
      have d1 := Int.mul_ediv_add_emod (S.int x2) (c2.nat : Int)
      have d2 := Int.emod_nonneg (S.int x2) (b := (c2.nat : Int)) (by omega)
      have d3 := Int.emod_lt_of_pos (S.int x2) (b := (c2.nat : Int)) (by omega)
      rw [Int.mul_comm] at d1
      by_cases ho : (S.int x2 / (c2.nat : Int) * (c2.nat : Int)).natAbs < U.top
      · rw [resS_lt ho]
        refine Wp.brnF rfl ?_
        have vp : validB (S.of (S.int x2 / (c2.nat : Int) * (c2.nat : Int))) = true := S.of_valid ho
        have hs := SSub_t h1 vp
        rw [S.int_of ho, show S.int x2 - S.int x2 / (c2.nat : Int) * (c2.nat : Int) = S.int x2 % (c2.nat : Int) by omega, resS_lt (by omega)] at hs
        refine Wp.optF hs (Wp.brnT rfl ?_)
        refine Wp.brnT ?_ ?_
        · show (!(decide (S.int x2 % (c2.nat : Int) < 0))) = true
          rw [decide_eq_false (by omega)]; rfl
        refine Wp.optF (New_eq false (u64U c2)) ?_
        rw [eN]
        have hcm := SCmp_t (S.of_valid (show (S.int x2 % (c2.nat : Int)).natAbs < U.top by omega)) vc
        rw [S.int_of (by omega), S.int_of (by omega)] at hcm
        refine Wp.optF hcm (Wp.brnT ?_ (Wp.optF awake3 rfl))
        show I.ltb (cmpI _ _) (I.of .i64 0) = true
        unfold cmpI
        rw [if_pos d3]; rfl
      · rw [resS_ge (by omega)]
        refine Wp.brnT rfl (Wp.brnT ?_ (Wp.optF awake3 rfl))
        show x2.1 = true
        have hneg : S.int x2 < 0 := by omega
        have : S.of (S.int x2) = x2 := S.of_int h1
        rw [← this]
        exact decide_eq_true hneg
    · intro j2 hj2
      by_cases hd : (S.int x - S.int y).natAbs < U.top
      · rw [resS_lt hd]
        refine Wp.brnT rfl ?_
        have vd : validB (S.of (S.int x - S.int y)) = true := S.of_valid hd
        have ha := SAdd_t vd h2
        rw [S.int_of hd, show S.int x - S.int y + S.int y = S.int x by omega, resS_lt hx, S.of_int h1] at ha
        refine Wp.optF ha (Wp.brnF rfl ?_)
        refine Wp.brnF ?_ ?_
        · show (!(Ty.eqb (.cons .bool (.cons (.arr 4 (.int .u64)) .nil)) x x)) = false
          rw [eqbS_self]; rfl
        refine Wp.optF (SCmp_t h1 h2) ?_
        refine Wp.brnF ?_ (hj2 _ ⟨rfl, rfl⟩)
        show (!(I.ltb (cmpI (S.int x) (S.int y)) (I.of .i64 0) == decide (S.int x - S.int y < 0))) = false
        unfold cmpI
        rcases Int.lt_trichotomy (S.int x) (S.int y) with h | h | h
        · rw [if_pos h, decide_eq_true (show S.int x - S.int y < 0 by omega)]; rfl
        · rw [if_neg (show ¬ S.int x < S.int y by omega), if_neg (show ¬ S.int y < S.int x by omega), decide_eq_false (show ¬ S.int x - S.int y < 0 by omega)]; rfl
        · rw [if_neg (show ¬ S.int x < S.int y by omega), if_pos h, decide_eq_false (show ¬ S.int x - S.int y < 0 by omega)]; rfl
      · rw [resS_ge (z := S.int x - S.int y) (by omega)]
        exact Wp.brnF rfl (hj2 _ ⟨rfl, rfl⟩)
  · intro j0 hj0
    refine Wp.jn (fun s => s.1.1 = c ∧ s.1.2.1 = (!(validB a && validB b)) ∧ s.2.1 = a ∧ s.2.2.1 = b) ?_ ?_
    · rintro ⟨⟨c', v, ⟨⟩⟩, x, y, ⟨⟩⟩ ⟨e0, e1, e2, e3⟩
      simp only at e0 e1 e2 e3
      subst e0 e1 e2 e3
      cases h1 : validB x <;> cases h2 : validB y
      · exact Wp.brnT rfl (Wp.optF awake3 rfl)
      · exact Wp.brnT rfl (Wp.optF awake3 rfl)
      · exact Wp.brnT rfl (Wp.optF awake3 rfl)
      · exact Wp.brnF rfl (hj0 _ ⟨rfl, rfl, rfl, h1, h2⟩)
    · intro j1 hj1
      refine Wp.optF (Valid_eq a) ?_
      cases h1 : validB a with
      | false => exact Wp.brnT rfl (hj1 _ ⟨rfl, by rw [h1]; rfl, rfl, rfl⟩)
      | true => exact Wp.brnF rfl (Wp.optF (Valid_eq b) (hj1 _ ⟨rfl, by rw [h1]; rfl, rfl, rfl⟩))
end Sym

/- Natural numbers by digits of 65536: products, and quotients by one digit. -/
namespace Sym
open Go

theorem bv_set : ∀ (l : List Dg) (i : Nat) (d : Dg), i < l.length → bv (l.set i d) + 65536 ^ i * (rd0 l i).nat = bv l + 65536 ^ i * d.nat
  | [], _, _, h => by simp at h
  | x :: l, 0, d, _ => by simp [bv, rd0, rdL]; omega
  | x :: l, i + 1, d, h => by
    have ih := bv_set l i d (by simpa using h)
    simp only [List.set_cons_succ, bv, Nat.pow_succ, rd0, rdL] at *
    have e1 : 65536 ^ i * 65536 * (rdL (I.of .i64 0) l i).nat = 65536 * (65536 ^ i * (rdL (I.of .i64 0) l i).nat) := by rw [Nat.mul_comm (65536 ^ i) 65536, Nat.mul_assoc]
    have e2 : 65536 ^ i * 65536 * d.nat = 65536 * (65536 ^ i * d.nat) := by rw [Nat.mul_comm (65536 ^ i) 65536, Nat.mul_assoc]
    rw [e1, e2]
    omega

theorem rd0_set_ne (l : List Dg) (i j : Nat) (d : Dg) (h : i ≠ j) : rd0 (l.set i d) j = rd0 l j := by
  unfold rd0
  rcases Nat.lt_or_ge j l.length with hj | hj
  · rw [rdL_eq _ _ _ (by simpa using hj), rdL_eq _ _ _ hj, List.getElem_set_ne h]
  · rw [rdL_out _ _ _ (by simpa using hj), rdL_out _ _ _ hj]

theorem rd0_repL : ∀ (n i : Nat), (rd0 (repL n (I.of .i64 0)) i).nat = 0
  | 0, i => rfl
  | n + 1, 0 => rfl
  | n + 1, i + 1 => rd0_repL n i

theorem bv_repL : ∀ (n : Nat), bv (repL n (I.of .i64 0)) = 0
  | 0 => rfl
  | n + 1 => by simp [repL, bv, bv_repL n]; rfl

structure MulInv (a b : List Dg) (i k : Nat) (over : Nat) (out : List Dg) : Prop where
  len : out.length = a.length + b.length
  dig : Digs out
  zero : ∀ j, i + b.length ≤ j → (rd0 out j).nat = 0
  eq : bv out + 65536 ^ (i + k) * over = bv (a.take i) * bv b + (rd0 a i).nat * 65536 ^ i * bv (b.take k)

theorem mul_step {a b : List Dg} {i k over : Nat} {out : List Dg} (h : MulInv a b i k over out) (hi : i < a.length) (hk : k < b.length) (d : Dg) (ov : Nat) (hd : DigOk d)
    (hs : d.nat + 65536 * ov = over + (rd0 out (i + k)).nat + (rd0 a i).nat * (rd0 b k).nat) : MulInv a b i (k + 1) ov (out.set (i + k) d) := by
  refine ⟨by simpa using h.len, digs_set h.dig _ hd, fun j hj => ?_, ?_⟩
  · rw [rd0_set_ne _ _ _ _ (by omega)]; exact h.zero j hj
  · have hset := bv_set out (i + k) d (by rw [h.len]; omega)
    have heq := h.eq
    rw [bv_take1 b k]
    have e1 : (rd0 a i).nat * 65536 ^ i * (bv (b.take k) + 65536 ^ k * (rd0 b k).nat) = (rd0 a i).nat * 65536 ^ i * bv (b.take k) + 65536 ^ (i + k) * ((rd0 a i).nat * (rd0 b k).nat) := by
      rw [Nat.mul_add, Nat.pow_add]
      congr 1
      simp only [Nat.mul_comm, Nat.mul_left_comm, Nat.mul_assoc]
    have e2 : 65536 ^ (i + (k + 1)) * ov = 65536 ^ (i + k) * (65536 * ov) := by rw [← Nat.add_assoc, Nat.pow_succ, Nat.mul_assoc]
    have e3 := congrArg (fun t => 65536 ^ (i + k) * t) hs
    simp only [Nat.mul_add] at e3
    rw [e1, e2]
    omega

theorem mul_exit {a b : List Dg} {i over : Nat} {out : List Dg} (h : MulInv a b i b.length over out) (hi : i < a.length) (d : Dg) (hd : DigOk d) (hv : d.nat = over) : MulInv a b (i + 1) 0 0 (out.set (i + b.length) d) := by
  refine ⟨by simpa using h.len, digs_set h.dig _ hd, fun j hj => ?_, ?_⟩
  · rw [rd0_set_ne _ _ _ _ (by omega)]; exact h.zero j (by omega)
  · have hset := bv_set out (i + b.length) d (by rw [h.len]; omega)
    have hz := h.zero (i + b.length) (Nat.le_refl _)
    have heq := h.eq
    rw [hz, Nat.mul_zero, Nat.add_zero, hv] at hset
    rw [List.take_length] at heq
    rw [bv_take1 a i, Nat.add_mul]
    have e : 65536 ^ i * (rd0 a i).nat * bv b = (rd0 a i).nat * 65536 ^ i * bv b := by rw [Nat.mul_comm (65536 ^ i)]
    simp only [List.take_zero, bv, Nat.mul_zero, Nat.add_zero]
    rw [e]
    omega

theorem BMul_ok {a b : List Dg} {m n : Nat} (ha : IsB a m) (hb : IsB b n) (hal : a.length ≤ 1000000) (hbl : b.length ≤ 1000000) : ∃ r, pontageref1_Mul ((a, b, ()), ()) = some ((r, ()), ()) ∧ IsB r (m * n) := by
  have hol : (I.ofNat .i64 (lenL a)).val = a.length := ofNat_i64 (by show a.length < _; omega)
  have hol2 : (I.ofNat .i64 (lenL b)).val = b.length := ofNat_i64 (by show b.length < _; omega)
  have c0 : (I.of .i64 0).val = 0 := rfl
  have c1 : (I.of .i64 1).val = 1 := rfl
  have hadd : (I.add (I.ofNat .i64 (lenL a)) (I.ofNat .i64 (lenL b))).val = a.length + b.length := by rw [add_i64 (by omega), hol, hol2]
  have hn : I.nat (I.add (I.ofNat .i64 (lenL a)) (I.ofNat .i64 (lenL b))) = a.length + b.length := by unfold I.nat; omega
  have key : Wp (fun o => ∃ r, o = some ((r, ()), ()) ∧ IsB r (m * n)) (pontageref1_Mul ((a, b, ()), ())) := by
    unfold pontageref1_Mul
    refine Wp.brnT ?_ (Wp.brnT ?_ ?_)
    · show (decide (0 ≤ (I.add (I.ofNat .i64 (lenL a)) (I.ofNat .i64 (lenL b))).val) && decide ((I.add (I.ofNat .i64 (lenL a)) (I.ofNat .i64 (lenL b))).val ≤ ((I.nat (I.add (I.ofNat .i64 (lenL a)) (I.ofNat .i64 (lenL b))) : Nat) : Int))) = true
      rw [hn, hadd]; simp; omega
    · show (decide (0 ≤ (I.add (I.ofNat .i64 (lenL a)) (I.ofNat .i64 (lenL b))).val) && decide ((I.add (I.ofNat .i64 (lenL a)) (I.ofNat .i64 (lenL b))).val ≤ ((1073741824 : Nat) : Int))) = true
      rw [hadd]; simp; omega
    refine Wp.iter (fun x => x.1.1 = a ∧ x.1.2.1 = b ∧ 0 ≤ x.1.2.2.1.val ∧ x.1.2.2.1.val ≤ (a.length : Int) ∧ MulInv a b x.1.2.2.1.val.toNat 0 0 x.2.1) (fun x => ((a.length : Int) - x.1.2.2.1.val).toNat) ?_ ?_ ?_
    · rintro ⟨⟨a', b', i, ⟨⟩⟩, out0, ⟨⟩⟩ ⟨e1, e2, hi0, hi1, hI⟩
      simp only at e1 e2 hi0 hi1 hI
      subst e1 e2
      refine Wp.brn (fun h => ?_) (fun h => ?_)
      · have hlt := iff_ltb.1 h
        simp only [hol] at hlt
        clear h
        have si : (I.add i (I.of .i64 1)).val = i.val + 1 := by rw [add_i64 (by omega)]; omega
        have sin : (I.add i (I.of .i64 1)).val.toNat = i.val.toNat + 1 := by omega
        have hmi : ((a'.length : Int) - (I.add i (I.of .i64 1)).val).toNat < ((a'.length : Int) - i.val).toNat := by omega
        refine Wp.iter (fun x => x.1.1 = a' ∧ x.1.2.1 = b' ∧ x.1.2.2.1 = i ∧ 0 ≤ x.1.2.2.2.1.val ∧ x.1.2.2.2.1.val < 65536 ∧ 0 ≤ x.1.2.2.2.2.1.val ∧ x.1.2.2.2.2.1.val ≤ (b'.length : Int) ∧ MulInv a' b' i.val.toNat x.1.2.2.2.2.1.val.toNat (I.nat (k := .i64) x.1.2.2.2.1) x.2.1) (fun x => ((b'.length : Int) - x.1.2.2.2.2.1.val).toNat) ?_ ?_ ?_
        · rintro ⟨⟨a2, b2, i2, over, k, ⟨⟩⟩, out, ⟨⟩⟩ ⟨e1, e2, e3, ho0, ho1, hk0, hk1, hinv⟩
          simp only at e1 e2 e3 ho0 ho1 hk0 hk1 hinv
          subst e1 e2 e3
          have hlen := hinv.len
          refine Wp.brn (fun h => ?_) (fun h => ?_)
          · have hkl := iff_ltb.1 h
            simp only [hol2] at hkl
            clear h
            have sk : (I.add k (I.of .i64 1)).val = k.val + 1 := by rw [add_i64 (by omega)]; omega
            have skn : (I.add k (I.of .i64 1)).val.toNat = k.val.toNat + 1 := by omega
            have sik : (I.add i2 k).val = i2.val + k.val := add_i64 (by omega)
            have nik : I.nat (I.add i2 k) = i2.val.toNat + k.val.toNat := by unfold I.nat; omega
            have hmk : ((b2.length : Int) - (I.add k (I.of .i64 1)).val).toNat < ((b2.length : Int) - k.val).toNat := by omega
            have bik : inB (I.add i2 k) (lenL out) = true := iff_inB.2 ⟨by omega, by show (I.add i2 k).val < ((out.length : Nat) : Int); omega⟩
            refine Wp.brnT bik (Wp.brnT (iff_inB.2 ⟨hi0, by show i2.val < ((a2.length : Nat) : Int); omega⟩) (Wp.brnT (iff_inB.2 ⟨hk0, by show k.val < ((b2.length : Nat) : Int); omega⟩) (Wp.brnT bik ?_)))
            have da := rd0_ok ha.dig i2.val.toNat
            have db := rd0_ok hb.dig k.val.toNat
            have dq := rd0_ok hinv.dig (i2.val.toNat + k.val.toNat)
            have na := da.nat
            have nb := db.nat
            have nq := dq.nat
            unfold DigOk at da db dq
            have hprod : (rd0 a2 i2.val.toNat).val * (rd0 b2 k.val.toNat).val = (((rd0 a2 i2.val.toNat).nat * (rd0 b2 k.val.toNat).nat : Nat) : Int) := by rw [Int.natCast_mul, na.1, nb.1]
            have hple : (rd0 a2 i2.val.toNat).nat * (rd0 b2 k.val.toNat).nat ≤ 65535 * 65535 := Nat.mul_le_mul (by omega) (by omega)
            have hm1 : (I.mul (rd0 a2 i2.val.toNat) (rd0 b2 k.val.toNat)).val = (((rd0 a2 i2.val.toNat).nat * (rd0 b2 k.val.toNat).nat : Nat) : Int) := by rw [mul_i64 (by rw [hprod]; omega), hprod]
            have hs1 : (I.add over (rd0 out (i2.val.toNat + k.val.toNat))).val = over.val + (rd0 out (i2.val.toNat + k.val.toNat)).val := add_i64 (by omega)
            have hs2 : (I.add (I.add over (rd0 out (i2.val.toNat + k.val.toNat))) (I.mul (rd0 a2 i2.val.toNat) (rd0 b2 k.val.toNat))).val = over.val + (rd0 out (i2.val.toNat + k.val.toNat)).val + (((rd0 a2 i2.val.toNat).nat * (rd0 b2 k.val.toNat).nat : Nat) : Int) := by rw [add_i64 (by rw [hs1, hm1]; omega), hs1, hm1]
            generalize hS : I.add (I.add over (rd0 out (i2.val.toNat + k.val.toNat))) (I.mul (rd0 a2 i2.val.toNat) (rd0 b2 k.val.toNat)) = s at hs2
            have hsh := shr_i64_16 s (by omega)
            have han := and_i64 s (by omega)
            have hdig : DigOk (I.and s (I.of .i64 65535)) := by unfold DigOk; omega
            have hon : (over.nat : Int) = over.val := by unfold I.nat; omega
            have st := mul_step hinv (by omega) (by omega) (I.and s (I.of .i64 65535)) (I.shr s (I.of .u64 16)).nat hdig (by
              have h1 := hdig.nat
              have h2 : ((I.shr s (I.of .u64 16)).nat : Int) = (I.shr s (I.of .u64 16)).val := by unfold I.nat; omega
              omega)
            refine Wp.again ⟨rfl, rfl, rfl, ?_, ?_, ?_, ?_, ?_⟩ hmk
            · show 0 ≤ (I.shr (I.add (I.add over (rd0 out (I.nat (I.add i2 k)))) (I.mul (rd0 a2 (I.nat i2)) (rd0 b2 (I.nat k)))) (I.of .u64 16)).val
              rw [nik]
              show 0 ≤ (I.shr (I.add (I.add over (rd0 out (i2.val.toNat + k.val.toNat))) (I.mul (rd0 a2 i2.val.toNat) (rd0 b2 k.val.toNat))) (I.of .u64 16)).val
              rw [hS]; omega
            · show (I.shr (I.add (I.add over (rd0 out (I.nat (I.add i2 k)))) (I.mul (rd0 a2 (I.nat i2)) (rd0 b2 (I.nat k)))) (I.of .u64 16)).val < 65536
              rw [nik]
              show (I.shr (I.add (I.add over (rd0 out (i2.val.toNat + k.val.toNat))) (I.mul (rd0 a2 i2.val.toNat) (rd0 b2 k.val.toNat))) (I.of .u64 16)).val < 65536
              rw [hS]; omega
            · show 0 ≤ (I.add k (I.of .i64 1)).val; omega
            · show (I.add k (I.of .i64 1)).val ≤ _; omega
            · show MulInv a2 b2 i2.val.toNat (I.add k (I.of .i64 1)).val.toNat (I.nat (I.shr (I.add (I.add over (rd0 out (I.nat (I.add i2 k)))) (I.mul (rd0 a2 (I.nat i2)) (rd0 b2 (I.nat k)))) (I.of .u64 16))) (setAt out (I.nat (I.add i2 k)) (I.and (I.add (I.add over (rd0 out (I.nat (I.add i2 k)))) (I.mul (rd0 a2 (I.nat i2)) (rd0 b2 (I.nat k)))) (I.of .i64 65535)))
              rw [nik, skn, setAt_eq]
              show MulInv a2 b2 i2.val.toNat (k.val.toNat + 1) (I.nat (I.shr (I.add (I.add over (rd0 out (i2.val.toNat + k.val.toNat))) (I.mul (rd0 a2 i2.val.toNat) (rd0 b2 k.val.toNat))) (I.of .u64 16))) (out.set (i2.val.toNat + k.val.toNat) (I.and (I.add (I.add over (rd0 out (i2.val.toNat + k.val.toNat))) (I.mul (rd0 a2 i2.val.toNat) (rd0 b2 k.val.toNat))) (I.of .i64 65535)))
              rw [hS]; exact st
          · have h := niff_ltb.1 h
            simp only [hol2] at h
            have hk : k.val.toNat = b2.length := by omega
            rw [hk] at hinv
            have sib : (I.add i2 (I.ofNat .i64 (lenL b2))).val = i2.val + b2.length := by rw [add_i64 (by omega), hol2]
            have nib : I.nat (I.add i2 (I.ofNat .i64 (lenL b2))) = i2.val.toNat + b2.length := by unfold I.nat; omega
            refine Wp.done (Wp.brnT (iff_inB.2 ⟨by show 0 ≤ (I.add i2 (I.ofNat .i64 (lenL b2))).val; omega, by show (I.add i2 (I.ofNat .i64 (lenL b2))).val < ((out.length : Nat) : Int); omega⟩) ?_)
            have st := mul_exit hinv (by omega) over ⟨ho0, ho1⟩ rfl
            refine Wp.again ⟨rfl, rfl, ?_, ?_, ?_⟩ hmi
            · show 0 ≤ (I.add i2 (I.of .i64 1)).val; omega
            · show (I.add i2 (I.of .i64 1)).val ≤ _; omega
            · show MulInv a2 b2 (I.add i2 (I.of .i64 1)).val.toNat 0 0 (setAt out (I.nat (I.add i2 (I.ofNat .i64 (lenL b2)))) over)
              rw [sin, nib, setAt_eq]
              exact st
        · refine ⟨rfl, rfl, rfl, by show 0 ≤ (I.of .i64 0).val; decide, by show (I.of .i64 0).val < 65536; decide, by show 0 ≤ (I.of .i64 0).val; decide, by show (I.of .i64 0).val ≤ (b'.length : Int); omega, ?_⟩
          exact hI
        · exact K0_ge _ (by show ((b'.length : Int) - (I.of .i64 0).val).toNat < _; omega)
      · have h := niff_ltb.1 h
        simp only [hol] at h
        have hi : i.val.toNat = a'.length := by omega
        rw [hi] at hI
        have heq := hI.eq
        rw [List.take_length, Nat.mul_zero, Nat.add_zero, List.take_zero] at heq
        have hlen := hI.len
        obtain ⟨r, hr, hB⟩ := norm_ok out0 hI.dig (by omega)
        refine Wp.done (Wp.optF hr ⟨r, rfl, hB.dig, hB.lead, ?_⟩)
        rw [hB.val, heq, ha.val, hb.val]
        simp [bv]
    · refine ⟨rfl, rfl, by show 0 ≤ (I.of .i64 0).val; decide, by show (I.of .i64 0).val ≤ (a.length : Int); omega, ?_⟩
      show MulInv a b (I.of .i64 0).val.toNat 0 0 (repL (I.nat (I.add (I.ofNat .i64 (lenL a)) (I.ofNat .i64 (lenL b)))) (I.of .i64 0))
      rw [hn]
      refine ⟨repL_length _ _, repL_digs _, fun j _ => rd0_repL _ _, ?_⟩
      have e : (I.of .i64 0).val.toNat = 0 := rfl
      rw [bv_repL, e]
      simp [bv]
    · exact K0_ge _ (by show ((a.length : Int) - (I.of .i64 0).val).toNat < _; omega)
  exact key.out
end Sym

/- Signed numbers: the laws of arithmetic. -/
namespace Sym
open Go

theorem RMul_ok {s t : SB} {z w : Int} (hs : IsSB s z) (ht : IsSB t w) (hz : Bd z.natAbs) (hw : Bd w.natAbs) (hzw : Bd (z.natAbs * w.natAbs)) : ∃ r : SB, pontageref3_Mul ((s, t, ()), ()) = some ((r, ()), ()) ∧ IsSB r (z * w) := by
  have key : Wp (fun o => ∃ r : SB, o = some ((r, ()), ()) ∧ IsSB r (z * w)) (pontageref3_Mul ((s, t, ()), ())) := by
    unfold pontageref3_Mul
    obtain ⟨l, hl, hB⟩ := BMul_ok hs.abs ht.abs (Bd.len hs.abs hz) (Bd.len ht.abs hw)
    refine Wp.optF hl ?_
    obtain ⟨r, hr, hR⟩ := sign_ok (!(s.1 == t.1)) hB (Bd.len hB hzw)
    refine Wp.optF hr ⟨r, rfl, ?_⟩
    have e1 : sgn s.1 z.natAbs = z := by rw [hs.neg]; unfold sgn; by_cases h : z < 0 <;> simp [h] <;> omega
    have e2 : sgn t.1 w.natAbs = w := by rw [ht.neg]; unfold sgn; by_cases h : w < 0 <;> simp [h] <;> omega
    rw [← sgn_mul, e1, e2] at hR
    exact hR
  exact key.out

def opZ (op : I .i64) (x y : Int) : Int := if op.val = 3 then x * y else if op.val = 2 then x - y else x + y

theorem mul_top {x y : Nat} (hx : x < U.top) (hy : y < U.top) : x * y < U.top * U.top := by
  have h1 : x * y ≤ (U.top - 1) * (U.top - 1) := Nat.mul_le_mul (by omega) (by omega)
  exact Nat.lt_of_le_of_lt h1 (by decide)

theorem RBinary_eq (op : I .i64) (x y : S) : pontageref3_Binary ((op, x, y, ()), ()) = some (((binS x y (opZ op x.int y.int)).1, (binS x y (opZ op x.int y.int)).2, ()), ()) := by
  refine Wp.out (T := fun o => o = some (((binS x y (opZ op x.int y.int)).1, (binS x y (opZ op x.int y.int)).2, ()), ())) ?_
  unfold pontageref3_Binary
  refine Wp.jn (fun s => s.1.1 = op ∧ s.2.1 = x ∧ s.2.2.1 = y ∧ validB x = true ∧ validB y = true) ?_ ?_
  · rintro ⟨⟨o, ⟨⟩⟩, x', y', r0, ⟨⟩⟩ ⟨e0, e1, e2, h1, h2⟩
    simp only at e0 e1 e2
    subst e0 e1 e2
    have hx := S.lt x'
    have hy := S.lt y'
    rw [binS_t h1 h2]
    have c3 : (I.of .i64 3).val = 3 := rfl
    have c2 : (I.of .i64 2).val = 2 := rfl
    obtain ⟨s, hs, hS⟩ := FromInt_ok x'
    obtain ⟨t, ht, hT⟩ := FromInt_ok y'
    refine Wp.optF hs (Wp.optF ht ?_)
    refine Wp.brn (fun h => ?_) (fun h => ?_)
    · have h := iff_eqb.1 h
      have h : o.val = (I.of .i64 3).val := h
      have e : opZ o (S.int x') (S.int y') = S.int x' * S.int y' := if_pos (by omega)
      rw [e]
      have hb : Bd ((S.int x').natAbs * (S.int y').natAbs) := Bd.of_sq (mul_top hx hy)
      obtain ⟨r, hr, hR⟩ := RMul_ok hS hT (Bd.of_top hx) (Bd.of_top hy) hb
      exact Wp.optF hr (Wp.optF (RChecked_ok hR (by rw [Int.natAbs_mul]; exact hb)) rfl)
    · have h := niff_eqb.1 h
      have h : o.val ≠ (I.of .i64 3).val := h
      refine Wp.jn (fun q => IsSB q.2.2.1 (S.int x') ∧ IsSB q.2.2.2.1 (opZ o (S.int x') (S.int y') - S.int x') ∧ (opZ o (S.int x') (S.int y') - S.int x').natAbs < U.top) ?_ ?_
      · rintro ⟨⟨⟩, r1, s', t', ⟨⟩⟩ ⟨e1, e2, e3⟩
        simp only at e1 e2 e3
        obtain ⟨r, hr, hR⟩ := RAdd_ok e1 e2 (Bd.of_top hx) (Bd.of_top e3) (Bd.of_two (by omega))
        rw [show S.int x' + (opZ o (S.int x') (S.int y') - S.int x') = opZ o (S.int x') (S.int y') by omega] at hR
        exact Wp.optF hr (Wp.optF (RChecked_ok hR (Bd.of_two (by omega))) rfl)
      · intro j hj
        refine Wp.brn (fun h2 => ?_) (fun h2 => ?_)
        · have h2 := iff_eqb.1 h2
          have h2 : o.val = (I.of .i64 2).val := h2
          obtain ⟨t2, ht2, hT2⟩ := RNegate_ok hT (Bd.of_top hy)
          have e : opZ o (S.int x') (S.int y') = S.int x' - S.int y' := by unfold opZ; rw [if_neg (by omega), if_pos (by omega)]
          refine Wp.optF ht2 (hj _ ⟨hS, ?_, ?_⟩)
          · rw [e, show S.int x' - S.int y' - S.int x' = -S.int y' by omega]; exact hT2
          · rw [e]; omega
        · have h2 := niff_eqb.1 h2
          have h2 : o.val ≠ (I.of .i64 2).val := h2
          have e : opZ o (S.int x') (S.int y') = S.int x' + S.int y' := by unfold opZ; rw [if_neg (by omega), if_neg (by omega)]
          refine hj _ ⟨hS, ?_, ?_⟩
          · rw [e, show S.int x' + S.int y' - S.int x' = S.int y' by omega]; exact hT
          · rw [e]; omega
  · intro j hj
    refine Wp.optF (RValid_eq x) ?_
    cases h1 : validB x with
    | false =>
      rw [binS_f1 h1]
      exact Wp.brnT rfl rfl
    | true =>
      refine Wp.brnF rfl (Wp.optF (RValid_eq y) ?_)
      cases h2 : validB y with
      | false =>
        rw [binS_f2 h2]
        exact Wp.brnT rfl rfl
      | true => exact Wp.brnF rfl (hj _ ⟨rfl, rfl, rfl, h1, h2⟩)

theorem ieqb {k : IntKind} (a : I k) : I.eqb a a = true := by simp [I.eqb]

theorem arith_law (a b : S) : pontagelaw3_Int256Arithmetic ((a, b, ()), ()) = some ((true, ()), ()) := by
  refine Wp.out (T := fun o => o = some ((true, ()), ())) ?_
  unfold pontagelaw3_Int256Arithmetic
  refine Wp.optF (SAdd_eq a b) (Wp.optF (RBinary_eq (I.of .i64 1) a b) (Wp.optF (SSub_eq a b) (Wp.optF (RBinary_eq (I.of .i64 2) a b) (Wp.optF (SMul_eq a b) (Wp.optF (RBinary_eq (I.of .i64 3) a b) ?_)))))
  refine Wp.brnT (eqbS_self _) (Wp.brnT (ieqb _) (Wp.brnT (eqbS_self _) (Wp.brnT (ieqb _) (Wp.brnT (eqbS_self _) (Wp.brnT (ieqb _) ?_)))))
  exact Wp.optF awake3 rfl

theorem Mod_ok (x n : I .i64) (h : 0 < n.val) : ∃ y : I .i64, pontagelaw0_Mod ((x, n, ()), ()) = some ((y, ()), ()) ∧ 0 ≤ y.val ∧ y.val < n.val := by
  have hn := i64_range n
  have e : (I.conv .u64 n).val = n.val := of_u64 ⟨by omega, by omega⟩
  have hx := u64_range (I.conv .u64 x)
  have er : (I.rem (I.conv .u64 x) (I.conv .u64 n)).val = (I.conv .u64 x).val % n.val := by rw [rem_u64 (by omega), e]
  have h3 := Int.emod_nonneg (I.conv .u64 x).val (b := n.val) (by omega)
  have h4 := Int.emod_lt_of_pos (I.conv .u64 x).val (b := n.val) (by omega)
  have ec : (I.conv .i64 (I.rem (I.conv .u64 x) (I.conv .u64 n))).val = (I.conv .u64 x).val % n.val := by
    show (I.of .i64 _).val = _
    rw [er]
    exact of_i64 ⟨by omega, by omega⟩
  refine ⟨I.conv .i64 (I.rem (I.conv .u64 x) (I.conv .u64 n)), ?_, by omega, by omega⟩
  refine Wp.out (T := fun o => o = _) ?_
  unfold pontagelaw0_Mod
  refine Wp.brnT (iff_nz.2 ?_) rfl
  show (I.conv .u64 n).val ≠ 0
  omega

theorem Edge_ok (a b : I .u64) (c : I .i64) : ∃ y : U, pontagelaw0_EdgeUint256 ((a, b, c, ()), ()) = some ((y, ()), ()) := by
  have key : Wp (fun o => ∃ y : U, o = some ((y, ()), ())) (pontagelaw0_EdgeUint256 ((a, b, c, ()), ())) := by
    unfold pontagelaw0_EdgeUint256
    obtain ⟨y, hy, _⟩ := Mod_ok c (I.of .i64 9) (by decide)
    refine Wp.optF hy ?_
    repeat' (first | exact ⟨_, rfl⟩ | refine Wp.brn (fun _ => ?_) (fun _ => ?_))
    · rename_i h
      have h2 := nn_u64 (I.rem b (I.of .u64 64))
      exact absurd (h2.symm.trans h) (by decide)
  exact key.out

theorem bound_law (a b : I .u64) (s t : I .i64) (n m : Bool) : pontagelaw3_Int256Boundaries ((a, b, s, t, n, m, ()), ()) = some ((true, ()), ()) := by
  refine Wp.out (T := fun o => o = some ((true, ()), ())) ?_
  unfold pontagelaw3_Int256Boundaries
  obtain ⟨u, hu⟩ := Edge_ok a b s
  obtain ⟨v, hv⟩ := Edge_ok b a t
  obtain ⟨w, hw⟩ := Edge_ok a a t
  refine Wp.optF hu (Wp.optF (New_eq n u) (Wp.optF hv (Wp.optF (New_eq m v) ?_)))
  generalize S.of (sgn n u.val) = x
  generalize S.of (sgn m v.val) = y
  refine Wp.optF (SAdd_eq x y) (Wp.optF (RBinary_eq (I.of .i64 1) x y) (Wp.optF (SSub_eq x y) (Wp.optF (RBinary_eq (I.of .i64 2) x y) (Wp.optF (SMul_eq x y) (Wp.optF (RBinary_eq (I.of .i64 3) x y) ?_)))))
  refine Wp.optF hw (Wp.optF (AddClamped_eq w y) (Wp.optF hw (Wp.optF (RClamp_eq w y) ?_)))
  refine Wp.brnT (eqbS_self _) (Wp.brnT (ieqb _) (Wp.brnT (eqbS_self _) (Wp.brnT (ieqb _) (Wp.brnT (eqbS_self _) (Wp.brnT (ieqb _) (Wp.brnT (eqb_self' _) (Wp.brnT (ieqb _) ?_)))))))
  exact Wp.optF awake3 rfl
end Sym

/- Natural numbers by digits of 65536: quotients. -/
namespace Sym
open Go

theorem rd0_set_eq (l : List Dg) (i : Nat) (d : Dg) (h : i < l.length) : rd0 (l.set i d) i = d := by
  unfold rd0
  rw [rdL_eq _ _ _ (by simpa using h)]
  simp

theorem drop_set_succ (l : List Dg) (i : Nat) (d : Dg) : (l.set i d).drop (i + 1) = l.drop (i + 1) := by
  rw [List.drop_set_of_lt (by omega)]

theorem bv_drop_set (l : List Dg) (i : Nat) (d : Dg) (h : i < l.length) : bv ((l.set i d).drop i) = d.nat + 65536 * bv (l.drop (i + 1)) := by
  rw [bv_drop, rd0_set_eq _ _ _ h, drop_set_succ]

structure ShInv (a : List Dg) (d : Nat) (left : Nat) (j : Nat) (q : List Dg) : Prop where
  len : q.length = a.length
  dig : Digs q
  lt : left < d
  eq : bv (a.drop j) = bv (q.drop j) * d + left

theorem sh_step {a q : List Dg} {d left j x : Nat} (h : ShInv a d left (j + 1) q) (hj : j < a.length) (hx : x = 65536 * left + (rd0 a j).nat) (v : Dg) (hv : v.nat = x / d) (hd : DigOk v) (hd0 : 0 < d) : ShInv a d (x % d) j (q.set j v) := by
  refine ⟨by simpa using h.len, digs_set h.dig _ hd, Nat.mod_lt _ hd0, ?_⟩
  rw [bv_drop a j, bv_drop_set _ _ _ (by rw [h.len]; exact hj), hv, h.eq, Nat.add_mul, Nat.mul_assoc]
  have h1 := Nat.div_add_mod x d
  rw [Nat.mul_comm] at h1
  rw [Nat.mul_add]
  omega

theorem short_ok {a : List Dg} {m : Nat} (ha : IsB a m) (hal : a.length ≤ 1000000) (d : Dg) (hd : DigOk d) (h0 : d.val ≠ 0) : ∃ q r, pontageref1_short ((a, d, ()), ()) = some ((q, r, ()), ()) ∧ IsB q (m / d.nat) ∧ IsB r (m % d.nat) := by
  have hol : (I.ofNat .i64 (lenL a)).val = a.length := ofNat_i64 (by show a.length < _; omega)
  have hn : I.nat (I.ofNat .i64 (lenL a)) = a.length := by unfold I.nat; omega
  have c0 : (I.of .i64 0).val = 0 := rfl
  have c1 : (I.of .i64 1).val = 1 := rfl
  have cB : (I.of .i64 65536).val = 65536 := rfl
  have dn := hd.nat
  have hd' := hd
  unfold DigOk at hd'
  have key : Wp (fun o => ∃ q r, o = some ((q, r, ()), ()) ∧ IsB q (m / d.nat) ∧ IsB r (m % d.nat)) (pontageref1_short ((a, d, ()), ())) := by
    unfold pontageref1_short
    refine Wp.brnT ?_ (Wp.brnT ?_ ?_)
    · show (decide (0 ≤ (I.ofNat .i64 (lenL a)).val) && decide ((I.ofNat .i64 (lenL a)).val ≤ ((I.nat (I.ofNat .i64 (lenL a)) : Nat) : Int))) = true
      rw [hn, hol]; simp
    · show (decide (0 ≤ (I.ofNat .i64 (lenL a)).val) && decide ((I.ofNat .i64 (lenL a)).val ≤ ((1073741824 : Nat) : Int))) = true
      rw [hol]; simp; omega
    refine Wp.iter (fun x => x.1.1 = a ∧ x.1.2.1 = d ∧ 0 ≤ x.1.2.2.1.val ∧ -1 ≤ x.1.2.2.2.1.val ∧ x.1.2.2.2.1.val < (a.length : Int) ∧ ShInv a d.nat (I.nat (k := .i64) x.1.2.2.1) (x.1.2.2.2.1.val + 1).toNat x.2.1) (fun x => (x.1.2.2.2.1.val + 1).toNat) ?_ ?_ ?_
    · rintro ⟨⟨a', d', left, i, ⟨⟩⟩, q, ⟨⟩⟩ ⟨e1, e2, hl0, hi0, hi1, hI⟩
      simp only at e1 e2 hl0 hi0 hi1 hI
      subst e1 e2
      have hlt := hI.lt
      have hll : (left.nat : Int) = left.val := by unfold I.nat; omega
      refine Wp.brn (fun h => ?_) (fun h => ?_)
      · have hge := iff_leb.1 h
        simp only [c0] at hge
        clear h
        have ej : (i.val + 1).toNat = i.val.toNat + 1 := by omega
        rw [ej] at hI
        have da := rd0_ok ha.dig i.val.toNat
        have na := da.nat
        unfold DigOk at da
        have hs : (I.sub i (I.of .i64 1)).val = i.val - 1 := by rw [sub_i64 (by omega)]; omega
        have hm1 : (I.mul (I.of .i64 65536) left).val = 65536 * left.val := by rw [mul_i64 (by rw [cB]; omega), cB]
        have hx : (I.add (I.mul (I.of .i64 65536) left) (rd0 a' i.val.toNat)).val = 65536 * left.val + (rd0 a' i.val.toNat).val := by rw [add_i64 (by rw [hm1]; omega), hm1]
        generalize hX : I.add (I.mul (I.of .i64 65536) left) (rd0 a' i.val.toNat) = x at hx
        have hxn : (x.nat : Int) = x.val := by unfold I.nat; omega
        have hq : (I.quo x d').val = x.val / d'.val := quo_i64 (by omega) (by omega)
        have hr : (I.rem x d').val = x.val % d'.val := rem_i64 (by omega) (by omega)
        have hq2 : x.val / d'.val = ((x.nat / d'.nat : Nat) : Int) := by rw [Int.natCast_ediv, hxn, dn.1]
        have hr2 : x.val % d'.val = ((x.nat % d'.nat : Nat) : Int) := by rw [Int.natCast_emod, hxn, dn.1]
        have hqlt : x.nat / d'.nat < 65536 := by
          rw [Nat.div_lt_iff_lt_mul (by omega)]
          omega
        have hqn : (I.quo x d').nat = x.nat / d'.nat := by
          show (I.quo x d').val.toNat = _
          rw [hq, hq2, Int.toNat_natCast]
        have hrn : (I.rem x d').nat = x.nat % d'.nat := by
          show (I.rem x d').val.toNat = _
          rw [hr, hr2, Int.toNat_natCast]
        have st := sh_step hI (by omega) (x := x.nat) (by omega) (I.quo x d') hqn ⟨by rw [hq, hq2]; omega, by rw [hq, hq2]; omega⟩ (by omega)
        have hlen := hI.len
        refine Wp.brnT (iff_inB.2 ⟨hge, by show i.val < ((a'.length : Nat) : Int); omega⟩) ?_
        refine Wp.brnT (iff_nz.2 h0) (Wp.brnT (iff_nz.2 h0) ?_)
        refine Wp.brnT (iff_inB.2 ⟨hge, by show i.val < ((q.length : Nat) : Int); omega⟩) ?_
        refine Wp.again ⟨rfl, rfl, ?_, ?_, ?_, ?_⟩ ?_
        · show 0 ≤ (I.rem (I.add (I.mul (I.of .i64 65536) left) (rd0 a' i.val.toNat)) d').val
          rw [hX, hr, hr2]; omega
        · show -1 ≤ (I.sub i (I.of .i64 1)).val; omega
        · show (I.sub i (I.of .i64 1)).val < _; omega
        · show ShInv a' d'.nat (I.nat (I.rem (I.add (I.mul (I.of .i64 65536) left) (rd0 a' i.val.toNat)) d')) ((I.sub i (I.of .i64 1)).val + 1).toNat (setAt q (I.nat i) (I.quo (I.add (I.mul (I.of .i64 65536) left) (rd0 a' i.val.toNat)) d'))
          rw [hX, setAt_eq, hrn, show ((I.sub i (I.of .i64 1)).val + 1).toNat = i.val.toNat by omega]
          exact st
        · show ((I.sub i (I.of .i64 1)).val + 1).toNat < (i.val + 1).toNat
          omega
      · have h := niff_leb.1 h
        simp only [c0] at h
        have e0 : (i.val + 1).toNat = 0 := by omega
        rw [e0] at hI
        have heq := hI.eq
        simp only [List.drop_zero] at heq
        rw [ha.val] at heq
        have hlen := hI.len
        obtain ⟨qq, hq, hQ⟩ := norm_ok q hI.dig (by omega)
        have hdl : Digs [left] := by intro e he; simp only [List.mem_singleton] at he; subst he; exact ⟨by omega, by omega⟩
        obtain ⟨rr, hr, hR⟩ := norm_ok [left] hdl (by simp)
        refine Wp.done (Wp.optF hq (Wp.optF hr ⟨qq, rr, rfl, ?_, ?_⟩))
        · refine ⟨hQ.dig, hQ.lead, ?_⟩
          rw [hQ.val, heq, Nat.mul_comm, Nat.mul_add_div (by omega), Nat.div_eq_of_lt hlt, Nat.add_zero]
        · refine ⟨hR.dig, hR.lead, ?_⟩
          rw [hR.val, heq, Nat.mul_comm, Nat.mul_add_mod, Nat.mod_eq_of_lt hlt]
          simp [bv]
    · refine ⟨rfl, rfl, by show 0 ≤ (I.of .i64 0).val; decide, ?_, ?_, ?_⟩
      · show -1 ≤ (I.sub (I.ofNat .i64 (lenL a)) (I.of .i64 1)).val
        rw [sub_i64 (by omega)]; omega
      · show (I.sub (I.ofNat .i64 (lenL a)) (I.of .i64 1)).val < _
        rw [sub_i64 (by omega)]; omega
      · show ShInv a d.nat (I.of .i64 0).nat ((I.sub (I.ofNat .i64 (lenL a)) (I.of .i64 1)).val + 1).toNat (repL (I.nat (I.ofNat .i64 (lenL a))) (I.of .i64 0))
        rw [sub_i64 (by omega), hn, hol, c1, show ((a.length : Int) - 1 + 1).toNat = a.length by omega]
        refine ⟨repL_length _ _, repL_digs _, by show 0 < d.nat; omega, ?_⟩
        rw [List.drop_of_length_le (Nat.le_refl _), List.drop_of_length_le (by rw [repL_length]; omega)]
        simp [bv]; rfl
    · refine K0_ge _ ?_
      show ((I.sub (I.ofNat .i64 (lenL a)) (I.of .i64 1)).val + 1).toNat < _
      rw [sub_i64 (by omega)]; omega
  exact key.out
end Sym
