/- Natural numbers by digits of 65536: the long division. -/
import Derived.Test.YtmjjppoaianfmaaPart4
import Derived.Test.YtmjjppoaianfmaaPart3
namespace Sym
open Go

theorem half' (N i : Nat) : N / 2 ^ i = 2 * (N / 2 ^ (i + 1)) + N / 2 ^ i % 2 := by
  rw [Nat.pow_succ, ← Nat.div_div_eq_div_mul]
  omega

structure DivOut (a q r : List Dg) (n j : Nat) : Prop where
  ql : q.length = a.length
  qd : Digs q
  rd : Digs r
  lt : bv r < n
  zero : ∀ s, s < j → (rd0 q s).nat = 0
  eq : bv (a.drop j) = bv (q.drop j) * n + bv r

structure DivMid (a q r : List Dg) (n i t : Nat) : Prop where
  ql : q.length = a.length
  qd : Digs q
  rd : Digs r
  lt : bv r < n
  zero : ∀ s, s < i → (rd0 q s).nat = 0
  low : (rd0 q i).nat % 2 ^ t = 0
  eq : bv (a.drop (i + 1)) * 2 ^ (16 - t) + (rd0 a i).nat / 2 ^ t = (bv (q.drop (i + 1)) * 2 ^ (16 - t) + (rd0 q i).nat / 2 ^ t) * n + bv r

theorem mid_start {a q r : List Dg} {n i : Nat} (ha : Digs a) (h : DivOut a q r n (i + 1)) : DivMid a q r n i 16 := by
  have hz := h.zero i (by omega)
  have h1 := (rd0_ok ha i).nat.2
  have p : 2 ^ 16 = 65536 := by decide
  refine ⟨h.ql, h.qd, h.rd, h.lt, fun s hs => h.zero s (by omega), by rw [hz, Nat.zero_mod], ?_⟩
  rw [hz, p, Nat.div_eq_of_lt h1, h.eq]
  simp

theorem mid_end {a q r : List Dg} {n i : Nat} (h : DivMid a q r n i 0) : DivOut a q r n i := by
  refine ⟨h.ql, h.qd, h.rd, h.lt, h.zero, ?_⟩
  have heq := h.eq
  have p : 2 ^ (16 - 0) = 65536 := by decide
  rw [p] at heq
  simp only [Nat.pow_zero, Nat.div_one] at heq
  rw [bv_drop a, bv_drop q, Nat.add_comm, Nat.mul_comm 65536, heq, Nat.add_comm (rd0 q i).nat, Nat.mul_comm 65536]

theorem mid_low {x t : Nat} (h : x % 2 ^ (t + 1) = 0) : x % 2 ^ t = 0 ∧ x / 2 ^ t = 2 * (x / 2 ^ (t + 1)) := by
  have h1 := half' x t
  rw [Nat.pow_succ] at h
  have h4 := Nat.mod_mul (x := x) (a := 2 ^ t) (b := 2)
  rw [h] at h4
  have h5 : 0 < 2 ^ t := Nat.pow_pos (by decide)
  have h6 : x / 2 ^ t % 2 = 0 := by
    rcases Nat.eq_zero_or_pos (x / 2 ^ t % 2) with h6 | h6
    · exact h6
    · have : 2 ^ t * 1 ≤ 2 ^ t * (x / 2 ^ t % 2) := Nat.mul_le_mul_left _ h6
      omega
  omega

theorem mid_both {a q r r' q' : List Dg} {n i t e : Nat} (h : DivMid a q r n i (t + 1)) (ht : t < 16) (hr : bv r' + e * n = 2 * bv r + (rd0 a i).nat / 2 ^ t % 2) (hrd : Digs r') (hlt : bv r' < n)
    (ql : q'.length = a.length) (qd : Digs q') (zero : ∀ s, s < i → (rd0 q' s).nat = 0) (qi : (rd0 q' i).nat = (rd0 q i).nat + e * 2 ^ t) (qdrop : q'.drop (i + 1) = q.drop (i + 1)) : DivMid a q' r' n i t := by
  have h1 := mid_low h.low
  have hp : 2 ^ (16 - t) = 2 * 2 ^ (16 - (t + 1)) := by
    have e : 16 - t = (16 - (t + 1)) + 1 := by omega
    rw [e, Nat.pow_succ, Nat.mul_comm]
  have ha := half' (rd0 a i).nat t
  have hq : (rd0 q' i).nat / 2 ^ t = 2 * ((rd0 q i).nat / 2 ^ (t + 1)) + e := by
    rw [qi, Nat.add_mul_div_right _ _ (Nat.pow_pos (by decide)), h1.2]
  refine ⟨ql, qd, hrd, hlt, zero, by rw [qi, Nat.add_mul_mod_self_right]; exact h1.1, ?_⟩
  have heq := h.eq
  rw [qdrop, hp, hq, ha]
  have e1 : bv (a.drop (i + 1)) * (2 * 2 ^ (16 - (t + 1))) = 2 * (bv (a.drop (i + 1)) * 2 ^ (16 - (t + 1))) := Nat.mul_left_comm _ _ _
  have e2 : bv (q.drop (i + 1)) * (2 * 2 ^ (16 - (t + 1))) = 2 * (bv (q.drop (i + 1)) * 2 ^ (16 - (t + 1))) := Nat.mul_left_comm _ _ _
  rw [e1, e2]
  have e3 : (2 * (bv (q.drop (i + 1)) * 2 ^ (16 - (t + 1))) + (2 * ((rd0 q i).nat / 2 ^ (t + 1)) + e)) * n = 2 * ((bv (q.drop (i + 1)) * 2 ^ (16 - (t + 1)) + (rd0 q i).nat / 2 ^ (t + 1)) * n) + e * n := by
    rw [← Nat.add_assoc, ← Nat.mul_add, Nat.add_mul, Nat.mul_assoc]
  rw [e3]
  omega

structure DblInv (r : List Dg) (b over k : Nat) (s : List Dg) : Prop where
  len : s.length = r.length
  dig : Digs s
  drop : s.drop k = r.drop k
  o1 : over ≤ 1
  eq : bv (s.take k) + 65536 ^ k * over = 2 * bv (r.take k) + b

theorem dbl_step {r s : List Dg} {b over k : Nat} (h : DblInv r b over k s) (hk : k < r.length) (d : Dg) (ov : Nat) (hd : DigOk d) (ho : ov ≤ 1) (hs : d.nat + 65536 * ov = over + 2 * (rd0 s k).nat) : DblInv r b ov (k + 1) (s.set k d) := by
  have hrs : rd0 s k = rd0 r k := by
    have e := congrArg (fun l : List Dg => l[0]?) h.drop
    simp only [List.getElem?_drop, Nat.add_zero] at e
    unfold rd0
    have hk2 : k < s.length := by rw [h.len]; exact hk
    rw [rdL_eq _ _ _ hk2, rdL_eq _ _ _ hk]
    rw [List.getElem?_eq_getElem hk2, List.getElem?_eq_getElem hk] at e
    exact Option.some.inj e
  refine ⟨by simpa using h.len, digs_set h.dig _ hd, ?_, ho, ?_⟩
  · rw [drop_set_succ]
    have e := congrArg (fun l : List Dg => l.drop 1) h.drop
    simpa [List.drop_drop] using e
  · rw [take_set_succ _ _ _ (by rw [h.len]; exact hk), bv_app, bv_take1 r k, ← hrs]
    have el : (s.take k).length = k := by simp [h.len]; omega
    rw [el, Nat.pow_succ]
    simp only [bv, Nat.mul_zero, Nat.add_zero]
    have heq := h.eq
    have e := congrArg (fun z => 65536 ^ k * z) hs
    simp only [Nat.mul_add] at e
    rw [← Nat.mul_assoc] at e
    have e2 : 65536 ^ k * (2 * (rd0 s k).nat) = 2 * (65536 ^ k * (rd0 s k).nat) := Nat.mul_left_comm _ _ _
    rw [e2] at e
    omega

theorem cut_ok {l : List Dg} {j : I .i64} (h0 : 0 ≤ j.val) (h1 : j.val ≤ (l.length : Int)) : inB' j (lenL l) = true := by
  show (decide (0 ≤ j.val) && decide (j.val ≤ ((l.length : Nat) : Int))) = true
  simp [h0, h1]

theorem cut_eq (l : List Dg) (j : I .i64) : subL l 0 (I.nat j) = l.take j.val.toNat := by simp [subL, I.nat]

theorem cut_zero {l : List Dg} {j : I .i64} (h0 : 0 ≤ j.val) (h : j.val ≤ 0) (hb : bv (l.take j.val.toNat) = bv l) : IsB (subL l 0 (I.nat j)) (bv l) := by
  rw [cut_eq]
  have e : j.val.toNat = 0 := by omega
  rw [e] at hb ⊢
  simp only [List.take_zero] at hb ⊢
  rw [← hb]
  exact isB_nil

theorem cut_dig {l : List Dg} {j : I .i64} (hd : Digs l) (h0 : 0 < j.val) (h1 : j.val ≤ (l.length : Int)) (hlen : l.length ≤ 1073741824) (hb : bv (l.take j.val.toNat) = bv l) :
    (I.sub j (I.of .i64 1)).val = j.val - 1 ∧ inB (I.sub j (I.of .i64 1)) (lenL l) = true ∧
    (I.eqb (rdL (I.of .i64 0) l (I.nat (I.sub j (I.of .i64 1)))) (I.of .i64 0) = true → bv (l.take (I.sub j (I.of .i64 1)).val.toNat) = bv l) ∧
    (I.eqb (rdL (I.of .i64 0) l (I.nat (I.sub j (I.of .i64 1)))) (I.of .i64 0) = false → IsB (subL l 0 (I.nat j)) (bv l)) := by
  have c1 : (I.of .i64 1).val = 1 := rfl
  have c0 : (I.of .i64 0).val = 0 := rfl
  have hs : (I.sub j (I.of .i64 1)).val = j.val - 1 := by rw [sub_i64 (by omega)]; omega
  have hidx : (I.nat (I.sub j (I.of .i64 1))) = j.val.toNat - 1 := by unfold I.nat; omega
  have hlt : j.val.toNat - 1 < l.length := by omega
  have hrd : rdL (I.of .i64 0) l (I.nat (I.sub j (I.of .i64 1))) = l[j.val.toNat - 1] := by rw [hidx]; exact rdL_eq _ _ _ hlt
  have htk : l.take j.val.toNat = l.take (j.val.toNat - 1) ++ [l[j.val.toNat - 1]] := by
    rw [List.take_append_getElem hlt]
    congr 1
    omega
  refine ⟨hs, iff_inB.2 ⟨by omega, by show (I.sub j (I.of .i64 1)).val < (l.length : Int); omega⟩, fun h2 => ?_, fun h2 => ?_⟩
  · have h2 := iff_eqb.1 h2
    rw [hrd, c0] at h2
    have e : (I.sub j (I.of .i64 1)).val.toNat = j.val.toNat - 1 := by omega
    rw [e, ← hb, htk, bv_app]
    have hz : (l[j.val.toNat - 1]).nat = 0 := by unfold I.nat; rw [h2]; rfl
    simp [bv, hz]
  · have h2 := niff_eqb.1 h2
    rw [hrd, c0] at h2
    rw [cut_eq]
    refine ⟨digs_take hd _, ?_, hb⟩
    rw [htk]
    exact lead_snoc _ _ h2

theorem copy_step {s d : List Dg} {k : Nat} (hk : k < s.length) (hb : bv (s.take k) = bv (d.take k)) (hs : Digs s) (hd : Digs d) : bv ((s.set k (rd0 d k)).take (k + 1)) = bv (d.take (k + 1)) ∧ Digs (s.set k (rd0 d k)) := by
  refine ⟨?_, digs_set hs _ (rd0_ok hd k)⟩
  rw [take_set_succ _ _ _ hk, bv_app, bv_take1 d k, hb]
  have el : (s.take k).length = k := by simp; omega
  rw [el]
  simp [bv]

theorem shl_bit (t : I .i64) (h0 : 0 ≤ t.val) (h1 : t.val ≤ 15) : (I.shl (I.of .i64 1) (I.conv .u64 t)).val = ((2 ^ t.val.toNat : Nat) : Int) := by
  have hc : (I.conv .u64 t).val = t.val := of_u64 ⟨by omega, by omega⟩
  have hm : min (I.conv .u64 t).val.toNat IntKind.i64.bits = t.val.toNat := by
    have : IntKind.i64.bits = 64 := rfl
    omega
  have h3 : 2 ^ t.val.toNat ≤ 2 ^ 15 := Nat.pow_le_pow_right (by decide) (by omega)
  have h4 : ((2 ^ t.val.toNat : Nat) : Int) = 2 ^ t.val.toNat := by simp
  have h5 : (I.of .i64 1).val = 1 := rfl
  unfold I.shl
  rw [hm, h5, Int.one_mul, ← h4]
  exact of_i64 ⟨Int.le_trans (by decide) (Int.natCast_nonneg _), Int.lt_of_le_of_lt (Int.ofNat_le.2 h3) (by decide)⟩

theorem bit_i64 (x t : I .i64) (hx : 0 ≤ x.val) (h0 : 0 ≤ t.val) (h1 : t.val ≤ 15) : (I.and (I.shr x (I.conv .u64 t)) (I.of .i64 1)).val = ((x.nat / 2 ^ t.val.toNat % 2 : Nat) : Int) := by
  have hxr := i64_range x
  have hc : (I.conv .u64 t).val = t.val := of_u64 ⟨by omega, by omega⟩
  have hm : min (I.conv .u64 t).val.toNat IntKind.i64.bits = t.val.toNat := by
    have : IntKind.i64.bits = 64 := rfl
    omega
  have hxn : (x.nat : Int) = x.val := by unfold I.nat; omega
  have h2 : ((x.nat / 2 ^ t.val.toNat : Nat) : Int) = x.val / (2 : Int) ^ t.val.toNat := by
    rw [Int.natCast_ediv, hxn]; simp
  have hle := Nat.div_le_self x.nat (2 ^ t.val.toNat)
  have hs : (I.shr x (I.conv .u64 t)).val = ((x.nat / 2 ^ t.val.toNat : Nat) : Int) := by
    unfold I.shr
    rw [hm, fdiv_pos _ _ hx, ← h2]
    exact of_i64 ⟨Int.le_trans (by decide) (Int.natCast_nonneg _), Int.lt_of_le_of_lt (Int.ofNat_le.2 hle) (by omega)⟩
  have h3 : (BitVec.ofInt 64 (I.shr x (I.conv .u64 t)).val &&& BitVec.ofInt 64 1).toNat = x.nat / 2 ^ t.val.toNat % 2 := by
    rw [BitVec.toNat_and, hs]
    have e1 : (BitVec.ofInt 64 1).toNat = 2 ^ 1 - 1 := rfl
    rw [e1, Nat.and_two_pow_sub_one_eq_mod, BitVec.toNat_ofInt]
    omega
  have h4 : (I.of .i64 1).val = 1 := rfl
  unfold I.and
  rw [h4]
  show (I.of .i64 ((BitVec.ofInt 64 _ &&& BitVec.ofInt 64 1).toNat : Int)).val = _
  rw [h3]
  exact of_i64 ⟨by omega, by omega⟩

set_option maxHeartbeats 4000000 in
theorem BDiv_ok {a b : List Dg} {m n : Nat} (ha : IsB a m) (hb : IsB b n) (hn0 : n ≠ 0) (hal : a.length ≤ 1000000) (hbl : b.length ≤ 900000) : ∃ q r, pontageref1_Div ((a, b, ()), ()) = some ((q, r, ()), ()) ∧ IsB q (m / n) ∧ IsB r (m % n) := by
  have hol : (I.ofNat .i64 (lenL a)).val = a.length := ofNat_i64 (by show a.length < _; omega)
  have hol2 : (I.ofNat .i64 (lenL b)).val = b.length := ofNat_i64 (by show b.length < _; omega)
  have hn : I.nat (I.ofNat .i64 (lenL a)) = a.length := by unfold I.nat; omega
  have c0 : (I.of .i64 0).val = 0 := rfl
  have c1 : (I.of .i64 1).val = 1 := rfl
  have c2 : (I.of .i64 2).val = 2 := rfl
  have hb1 : (I.add (I.ofNat .i64 (lenL b)) (I.of .i64 1)).val = b.length + 1 := by rw [add_i64 (by omega), hol2, c1]
  have hbn : I.nat (I.add (I.ofNat .i64 (lenL b)) (I.of .i64 1)) = b.length + 1 := by unfold I.nat; omega
  have hnlt := hb.len.1 (Nat.le_refl b.length)
  have key : Wp (fun o => ∃ q r, o = some ((q, r, ()), ()) ∧ IsB q (m / n) ∧ IsB r (m % n)) (pontageref1_Div ((a, b, ()), ())) := by
    unfold pontageref1_Div
    refine Wp.brn (fun h => ?_) (fun h => ?_)
    · have h := iff_eqb.1 h
      have h : (I.ofNat .i64 (lenL b)).val = (I.of .i64 1).val := h
      have hd1 : b.length = 1 := by omega
      obtain ⟨d, hd⟩ := List.length_eq_one_iff.1 hd1
      subst hd
      refine Wp.brnT (iff_inB.2 ⟨by show 0 ≤ (I.of .i64 0).val; decide, by show (I.of .i64 0).val < (([d] : List Dg).length : Int); simp [c0]⟩) ?_
      have hdd := (digs_cons.1 hb.dig).1
      have hdl : d.val ≠ 0 := hb.lead
      have hdv : d.nat = n := by have := hb.val; simp only [bv] at this; omega
      obtain ⟨q, r, h1, h2, h3⟩ := short_ok ha hal d hdd hdl
      rw [hdv] at h2 h3
      exact Wp.optF h1 ⟨q, r, rfl, h2, h3⟩
    clear h
    refine Wp.brnT ?_ (Wp.brnT ?_ (Wp.brnT ?_ (Wp.brnT ?_ ?_)))
    · show (decide (0 ≤ (I.ofNat .i64 (lenL a)).val) && decide ((I.ofNat .i64 (lenL a)).val ≤ ((I.nat (I.ofNat .i64 (lenL a)) : Nat) : Int))) = true
      rw [hn, hol]; simp
    · show (decide (0 ≤ (I.ofNat .i64 (lenL a)).val) && decide ((I.ofNat .i64 (lenL a)).val ≤ ((1073741824 : Nat) : Int))) = true
      rw [hol]; simp; omega
    · show (decide (0 ≤ (I.add (I.ofNat .i64 (lenL b)) (I.of .i64 1)).val) && decide ((I.add (I.ofNat .i64 (lenL b)) (I.of .i64 1)).val ≤ ((I.nat (I.add (I.ofNat .i64 (lenL b)) (I.of .i64 1)) : Nat) : Int))) = true
      rw [hbn, hb1]; simp; omega
    · show (decide (0 ≤ (I.add (I.ofNat .i64 (lenL b)) (I.of .i64 1)).val) && decide ((I.add (I.ofNat .i64 (lenL b)) (I.of .i64 1)).val ≤ ((1073741824 : Nat) : Int))) = true
      rw [hb1]; simp; omega
    refine Wp.iter (fun x => x.1.1 = a ∧ x.1.2.1 = b ∧ -1 ≤ x.1.2.2.1.val ∧ x.1.2.2.1.val < (a.length : Int) ∧ x.2.2.1.length = b.length + 1 ∧ DivOut a x.2.1 x.2.2.1 n (x.1.2.2.1.val + 1).toNat) (fun x => (x.1.2.2.1.val + 1).toNat) ?_ ?_ ?_
    · rintro ⟨⟨a', b', i, ⟨⟩⟩, q0, r0, ⟨⟩⟩ ⟨e1, e2, hi0, hi1, hrl, hI⟩
      simp only at e1 e2 hi0 hi1 hrl hI
      subst e1 e2
      have hal : a'.length ≤ 1000000 := hal
      have hbl : b'.length ≤ 900000 := hbl
      have hnlt : n < 65536 ^ b'.length := hnlt
      have hi1 : i.val < (a'.length : Int) := hi1
      have hrl : r0.length = b'.length + 1 := hrl
      refine Wp.brn (fun h => ?_) (fun h => ?_)
      · have hge := iff_leb.1 h
        have hge : (I.of .i64 0).val ≤ i.val := hge
        clear h
        have si : (I.sub i (I.of .i64 1)).val = i.val - 1 := by rw [sub_i64 (by omega)]; omega
        have ei : (i.val + 1).toNat = i.val.toNat + 1 := by omega
        rw [ei] at hI
        have hmi : ((I.sub i (I.of .i64 1)).val + 1).toNat < (i.val + 1).toNat := by omega
        have da := rd0_ok ha.dig i.val.toNat
        have na := da.nat
        have da0 := da.1
        refine Wp.iter (fun x => x.1.1 = a' ∧ x.1.2.1 = b' ∧ x.1.2.2.1 = i ∧ -1 ≤ x.1.2.2.2.1.val ∧ x.1.2.2.2.1.val ≤ 15 ∧ x.2.2.1.length = b'.length + 1 ∧ DivMid a' x.2.1 x.2.2.1 n i.val.toNat (x.1.2.2.2.1.val + 1).toNat) (fun x => (x.1.2.2.2.1.val + 1).toNat) ?_ ⟨rfl, rfl, rfl, by show -1 ≤ (I.of .i64 15).val; decide, by show (I.of .i64 15).val ≤ 15; decide, hrl, mid_start ha.dig hI⟩ (K0_ge _ (by show ((I.of .i64 15).val + 1).toNat < _; decide))
        rintro ⟨⟨a1, b1, i1, bit, ⟨⟩⟩, q, r, ⟨⟩⟩ ⟨e1, e2, e3, hb0, hb15, hrl, hM⟩
        simp only at e1 e2 e3 hb0 hb15 hrl hM
        subst e1 e2 e3
        have hal : a1.length ≤ 1000000 := hal
        have hbl : b1.length ≤ 900000 := hbl
        have hnlt : n < 65536 ^ b1.length := hnlt
        have hi1 : i1.val < (a1.length : Int) := hi1
        have hrl : r.length = b1.length + 1 := hrl
        refine Wp.brn (fun h => ?_) (fun h => ?_)
        · have hbg := iff_leb.1 h
          have hbg : (I.of .i64 0).val ≤ bit.val := hbg
          clear h
          have sb : (I.sub bit (I.of .i64 1)).val = bit.val - 1 := by rw [sub_i64 (by omega)]; omega
          have eb : (bit.val + 1).toNat = bit.val.toNat + 1 := by omega
          rw [eb] at hM
          have hmb : ((I.sub bit (I.of .i64 1)).val + 1).toNat < (bit.val + 1).toNat := by omega
          have esb : ((I.sub bit (I.of .i64 1)).val + 1).toNat = bit.val.toNat := by omega
          refine Wp.brnT (iff_inB.2 ⟨by show 0 ≤ i1.val; omega, by show i1.val < ((a1.length : Nat) : Int); omega⟩) (Wp.brnT (nn_u64 _) ?_)
          have hbv := bit_i64 (rd0 a1 i1.val.toNat) bit da0 (by omega) hb15
          generalize hbe : (rd0 a1 i1.val.toNat).nat / 2 ^ bit.val.toNat % 2 = bv0 at hbv
          have hbv1 : bv0 ≤ 1 := by omega
          have holr : (I.ofNat .i64 (lenL r)).val = r.length := ofNat_i64 (by show r.length < _; omega)
          have hrlt := hM.lt
          refine Wp.iter (fun x => x.1.1 = a1 ∧ x.1.2.1 = b1 ∧ x.1.2.2.1 = i1 ∧ x.1.2.2.2.1 = bit ∧ x.2.1 = q ∧ 0 ≤ x.1.2.2.2.2.1.val ∧ 0 ≤ x.1.2.2.2.2.2.1.val ∧ x.1.2.2.2.2.2.1.val ≤ (r.length : Int) ∧ DblInv r bv0 (I.nat (k := .i64) x.1.2.2.2.2.1) x.1.2.2.2.2.2.1.val.toNat x.2.2.1) (fun x => ((r.length : Int) - x.1.2.2.2.2.2.1.val).toNat) ?_ ?_ ?_
          · rintro ⟨⟨a2, b2, i2, bit2, ov, k, ⟨⟩⟩, q2, s, ⟨⟩⟩ ⟨e1, e2, e3, e4, e5, ho0, hk0, hk1, hD⟩
            simp only at e1 e2 e3 e4 e5 ho0 hk0 hk1 hD
            subst e1 e2 e3 e4 e5
            have hal : a2.length ≤ 1000000 := hal
            have hbl : b2.length ≤ 900000 := hbl
            have hnlt : n < 65536 ^ b2.length := hnlt
            have hi1 : i2.val < (a2.length : Int) := hi1
            have hrl : r.length = b2.length + 1 := hrl
            have hsl : s.length = r.length := hD.len
            have hols : (I.ofNat .i64 (lenL s)).val = s.length := ofNat_i64 (by show s.length < _; omega)
            refine Wp.brn (fun h => ?_) (fun h => ?_)
            · have hkl := iff_ltb.1 h
              have hkl : k.val < (I.ofNat .i64 (lenL s)).val := hkl
              clear h
              have sk : (I.add k (I.of .i64 1)).val = k.val + 1 := by rw [add_i64 (by omega)]; omega
              have bk : inB k (lenL s) = true := iff_inB.2 ⟨hk0, by show k.val < ((s.length : Nat) : Int); omega⟩
              have ds := rd0_ok hD.dig k.val.toNat
              have ns := ds.nat
              have ds0 := ds.1
              have o1 := hD.o1
              have ovn : (I.nat ov : Int) = ov.val := by unfold I.nat; omega
              have hm1 : (I.mul (I.of .i64 2) (rd0 s k.val.toNat)).val = 2 * (rd0 s k.val.toNat).val := by rw [mul_i64 (by rw [c2]; omega), c2]
              have hs1 : (I.add ov (I.mul (I.of .i64 2) (rd0 s k.val.toNat))).val = ov.val + 2 * (rd0 s k.val.toNat).val := by rw [add_i64 (by rw [hm1]; omega), hm1]
              generalize hX : I.add ov (I.mul (I.of .i64 2) (rd0 s k.val.toNat)) = x at hs1
              have hsh := shr_i64_16 x (by omega)
              have han := and_i64 x (by omega)
              have hdig : DigOk (I.and x (I.of .i64 65535)) := ⟨by omega, by omega⟩
              have hshn : ((I.shr x (I.of .u64 16)).nat : Int) = (I.shr x (I.of .u64 16)).val := by unfold I.nat; omega
              have st := dbl_step hD (by omega) (I.and x (I.of .i64 65535)) (I.shr x (I.of .u64 16)).nat hdig (by omega) (by have := hdig.nat; omega)
              refine Wp.brnT bk (Wp.brnT bk ?_)
              refine Wp.again ⟨rfl, rfl, rfl, rfl, rfl, ?_, ?_, ?_, ?_⟩ ?_
              · show 0 ≤ (I.shr (I.add ov (I.mul (I.of .i64 2) (rd0 s k.val.toNat))) (I.of .u64 16)).val
                rw [hX]; omega
              · show 0 ≤ (I.add k (I.of .i64 1)).val; omega
              · show (I.add k (I.of .i64 1)).val ≤ _; omega
              · show DblInv r bv0 (I.nat (I.shr (I.add ov (I.mul (I.of .i64 2) (rd0 s k.val.toNat))) (I.of .u64 16))) (I.add k (I.of .i64 1)).val.toNat (setAt s (I.nat k) (I.and (I.add ov (I.mul (I.of .i64 2) (rd0 s k.val.toNat))) (I.of .i64 65535)))
                rw [hX, setAt_eq, show (I.add k (I.of .i64 1)).val.toNat = k.val.toNat + 1 by omega]
                exact st
              · show ((r.length : Int) - (I.add k (I.of .i64 1)).val).toNat < ((r.length : Int) - k.val).toNat
                omega
            · have hkg := niff_ltb.1 h
              have hkg : (I.ofNat .i64 (lenL s)).val ≤ k.val := hkg
              clear h
              have hk : k.val.toNat = r.length := by omega
              rw [hk] at hD
              have heq := hD.eq
              rw [List.take_of_length_le (l := s) (by omega), List.take_length, hrl, Nat.pow_succ] at heq
              have hR : bv s = 2 * bv r + bv0 := by
                rcases Nat.lt_or_ge (I.nat ov) 1 with h1 | h1
                · have : I.nat ov = 0 := by omega
                  rw [this, Nat.mul_zero, Nat.add_zero] at heq; exact heq
                · exfalso
                  have : I.nat ov = 1 := by have := hD.o1; omega
                  rw [this, Nat.mul_one] at heq
                  omega
              have hsd := hD.dig
              have hsl2 : s.length ≤ 1073741824 := by omega
              have hRb : bv s < 65536 ^ (b2.length + 1) := by have := bv_lt hsd; rw [hsl, hrl] at this; exact this
              refine Wp.done ?_
              refine Wp.iter (fun x => x.1.2.1 = a2 ∧ x.1.2.2.1 = b2 ∧ x.1.2.2.2.1 = i2 ∧ x.1.2.2.2.2.1 = bit2 ∧ x.2.1 = s ∧ x.2.2.1 = q2 ∧ 0 ≤ x.1.1.val ∧ x.1.1.val ≤ (s.length : Int) ∧ bv (s.take x.1.1.val.toNat) = bv s) (fun x => x.1.1.val.toNat) ?_ ?_ ?_
              · rintro ⟨⟨j, a3, b3, i3, bit3, ⟨⟩⟩, s3, q3, ⟨⟩⟩ ⟨k0, k1, k2, k3, k4, k5, hj0, hj1, hbt⟩
                simp only at k0 k1 k2 k3 k4 k5 hj0 hj1 hbt
                subst k0 k1 k2 k3 k4 k5
                refine Wp.brn (fun h => ?_) (fun h => ?_)
                · have hjp := iff_ltb.1 h
                  have hjp : (I.of .i64 0).val < j.val := hjp
                  clear h
                  obtain ⟨sj, bj, z1, z2⟩ := cut_dig (l := s3) (j := j) hsd hjp hj1 hsl2 hbt
                  refine Wp.brnT bj (Wp.brn (fun h2 => ?_) (fun h2 => ?_))
                  · refine Wp.again ⟨rfl, rfl, rfl, rfl, rfl, rfl, ?_, ?_, z1 h2⟩ ?_
                    · show 0 ≤ (I.sub j (I.of .i64 1)).val; omega
                    · show (I.sub j (I.of .i64 1)).val ≤ _; omega
                    · show (I.sub j (I.of .i64 1)).val.toNat < j.val.toNat
                      omega
                  · have hB := z2 h2
                    clear z1 z2 h2 bj sj
                    refine Wp.done (Wp.brnT (cut_ok hj0 hj1) ?_)
                    have hal : a3.length ≤ 1000000 := hal
                    have hbl : b3.length ≤ 900000 := hbl
                    have hnlt : n < 65536 ^ b3.length := hnlt
                    have hi1 : i3.val < (a3.length : Int) := hi1
                    have hrl : r.length = b3.length + 1 := hrl
                    have hsl : s3.length = r.length := hsl
                    have hcl : (subL s3 0 (I.nat j)).length ≤ 1000000 := by rw [cut_eq, List.length_take]; omega
                    refine Wp.optF (Cmp_ok hB hb hcl (show b3.length ≤ 1000000 by omega)) ?_
                    by_cases hcmp : bv s3 < n
                    · refine Wp.brnF (by show I.leb (I.of .i64 0) (cmpN (bv s3) n) = false; unfold cmpN; rw [if_pos hcmp]; rfl) ?_
                      have st := mid_both (e := 0) (q' := q3) (r' := s3) hM (by omega) (by rw [hbe]; omega) hsd hcmp hM.ql hM.qd hM.zero (by omega) rfl
                      refine Wp.again ⟨rfl, rfl, rfl, ?_, ?_, ?_, ?_⟩ hmb
                      · show -1 ≤ (I.sub bit3 (I.of .i64 1)).val; omega
                      · show (I.sub bit3 (I.of .i64 1)).val ≤ 15; omega
                      · show s3.length = _; omega
                      · show DivMid a3 q3 s3 n i3.val.toNat ((I.sub bit3 (I.of .i64 1)).val + 1).toNat
                        rw [esb]; exact st
                    · refine Wp.brnT (by show I.leb (I.of .i64 0) (cmpN (bv s3) n) = true; unfold cmpN; rw [if_neg hcmp]; split <;> rfl) ?_
                      have hcge : n ≤ bv s3 := by omega
                      clear hB hbt hj0 hj1 hcl
                      refine Wp.iter (fun x => x.1.2.1 = a3 ∧ x.1.2.2.1 = b3 ∧ x.1.2.2.2.1 = i3 ∧ x.1.2.2.2.2.1 = bit3 ∧ x.2.1 = s3 ∧ x.2.2.1 = q3 ∧ 0 ≤ x.1.1.val ∧ x.1.1.val ≤ (s3.length : Int) ∧ bv (s3.take x.1.1.val.toNat) = bv s3) (fun x => x.1.1.val.toNat) ?_ ?_ ?_
                      · rintro ⟨⟨j, a3, b3, i3, bit3, ⟨⟩⟩, s3, q3, ⟨⟩⟩ ⟨k0, k1, k2, k3, k4, k5, hj0, hj1, hbt⟩
                        simp only at k0 k1 k2 k3 k4 k5 hj0 hj1 hbt
                        subst k0 k1 k2 k3 k4 k5
                        refine Wp.brn (fun h => ?_) (fun h => ?_)
                        · have hjp := iff_ltb.1 h
                          have hjp : (I.of .i64 0).val < j.val := hjp
                          clear h
                          obtain ⟨sj, bj, z1, z2⟩ := cut_dig (l := s3) (j := j) hsd hjp hj1 hsl2 hbt
                          refine Wp.brnT bj (Wp.brn (fun h2 => ?_) (fun h2 => ?_))
                          · refine Wp.again ⟨rfl, rfl, rfl, rfl, rfl, rfl, ?_, ?_, z1 h2⟩ ?_
                            · show 0 ≤ (I.sub j (I.of .i64 1)).val; omega
                            · show (I.sub j (I.of .i64 1)).val ≤ _; omega
                            · show (I.sub j (I.of .i64 1)).val.toNat < j.val.toNat
                              omega
                          · have hB := z2 h2
                            clear z1 z2 h2 bj sj
                            refine Wp.done (Wp.brnT (cut_ok hj0 hj1) ?_)
                            have hal : a3.length ≤ 1000000 := hal
                            have hbl : b3.length ≤ 900000 := hbl
                            have hnlt : n < 65536 ^ b3.length := hnlt
                            have hi1 : i3.val < (a3.length : Int) := hi1
                            have hrl : r.length = b3.length + 1 := hrl
                            have hsl : s3.length = r.length := hsl
                            have hcl : (subL s3 0 (I.nat j)).length ≤ 1000000 := by rw [cut_eq, List.length_take]; omega
                            obtain ⟨d, hsub, hdB⟩ := Sub_ok hB hb hcge hcl
                            refine Wp.optF hsub ?_
                            have hdlen : d.length ≤ b3.length + 1 := hdB.len.2 (by omega)
                            have hold : (I.ofNat .i64 (lenL d)).val = d.length := ofNat_i64 (by show d.length < _; omega)
                            refine Wp.iter (fun x => x.1.1 = a3 ∧ x.1.2.1 = b3 ∧ x.1.2.2.1 = i3 ∧ x.1.2.2.2.1 = bit3 ∧ x.1.2.2.2.2.1 = d ∧ x.2.1 = q3 ∧ x.2.2.1.length = b3.length + 1 ∧ Digs x.2.2.1 ∧ 0 ≤ x.1.2.2.2.2.2.1.val ∧ x.1.2.2.2.2.2.1.val ≤ (b3.length + 1 : Int) ∧ bv (x.2.2.1.take x.1.2.2.2.2.2.1.val.toNat) = bv (d.take x.1.2.2.2.2.2.1.val.toNat)) (fun x => ((b3.length + 1 : Int) - x.1.2.2.2.2.2.1.val).toNat) ?_ ?_ ?_
                            · rintro ⟨⟨a4, b4, i4, bit4, d4, k4, ⟨⟩⟩, q4, r4, ⟨⟩⟩ ⟨f1, f2, f3, f4, f5, f6, hl4, hd4, hk40, hk41, hbk⟩
                              simp only at f1 f2 f3 f4 f5 f6 hl4 hd4 hk40 hk41 hbk
                              subst f1 f2 f3 f4 f5 f6
                              have hal : a4.length ≤ 1000000 := hal
                              have hbl : b4.length ≤ 900000 := hbl
                              have hi1 : i4.val < (a4.length : Int) := hi1
                              have hl4 : r4.length = b4.length + 1 := hl4
                              have hdlen : d4.length ≤ b4.length + 1 := hdlen
                              have hold : (I.ofNat .i64 (lenL d4)).val = d4.length := hold
                              have hol4 : (I.ofNat .i64 (lenL r4)).val = r4.length := ofNat_i64 (by show r4.length < _; omega)
                              refine Wp.brn (fun h => ?_) (fun h => ?_)
                              · have hkl := iff_ltb.1 h
                                have hkl : k4.val < (I.ofNat .i64 (lenL r4)).val := hkl
                                clear h
                                have sk : (I.add k4 (I.of .i64 1)).val = k4.val + 1 := by rw [add_i64 (by omega)]; omega
                                have st := copy_step (s := r4) (d := d4) (k := k4.val.toNat) (by omega) hbk hd4 hdB.dig
                                have hm4 : ((b4.length + 1 : Int) - (I.add k4 (I.of .i64 1)).val).toNat < ((b4.length + 1 : Int) - k4.val).toNat := by omega
                                refine Wp.brnT (iff_inB.2 ⟨hk40, by show k4.val < ((r4.length : Nat) : Int); omega⟩) ?_
                                refine Wp.brn (fun h => ?_) (fun h => ?_)
                                · have hkd := iff_ltb.1 h
                                  have hkd : k4.val < (I.ofNat .i64 (lenL d4)).val := hkd
                                  clear h
                                  refine Wp.brnT (iff_inB.2 ⟨hk40, by show k4.val < ((d4.length : Nat) : Int); omega⟩) ?_
                                  refine Wp.brnT (iff_inB.2 ⟨hk40, by show k4.val < (((setAt r4 (I.nat k4) (I.of .i64 0)).length : Nat) : Int); rw [setAt_eq, List.length_set]; omega⟩) ?_
                                  have e : setAt (setAt r4 (I.nat k4) (I.of .i64 0)) (I.nat k4) (rd0 d4 k4.val.toNat) = r4.set k4.val.toNat (rd0 d4 k4.val.toNat) := by
                                    rw [setAt_eq, setAt_eq]
                                    show (r4.set k4.val.toNat _).set k4.val.toNat _ = _
                                    rw [List.set_set]
                                  refine Wp.again ⟨rfl, rfl, rfl, rfl, rfl, rfl, ?_, ?_, ?_, ?_, ?_⟩ hm4
                                  · show (setAt (setAt r4 (I.nat k4) (I.of .i64 0)) (I.nat k4) (rd0 d4 k4.val.toNat)).length = _
                                    rw [e, List.length_set]; exact hl4
                                  · show Digs (setAt (setAt r4 (I.nat k4) (I.of .i64 0)) (I.nat k4) (rd0 d4 k4.val.toNat))
                                    rw [e]; exact st.2
                                  · show 0 ≤ (I.add k4 (I.of .i64 1)).val; omega
                                  · show (I.add k4 (I.of .i64 1)).val ≤ _; omega
                                  · show bv ((setAt (setAt r4 (I.nat k4) (I.of .i64 0)) (I.nat k4) (rd0 d4 k4.val.toNat)).take (I.add k4 (I.of .i64 1)).val.toNat) = bv (d4.take (I.add k4 (I.of .i64 1)).val.toNat)
                                    rw [e, show (I.add k4 (I.of .i64 1)).val.toNat = k4.val.toNat + 1 by omega]
                                    exact st.1
                                · have hkd := niff_ltb.1 h
                                  have hkd : (I.ofNat .i64 (lenL d4)).val ≤ k4.val := hkd
                                  clear h
                                  have hz : rd0 d4 k4.val.toNat = I.of .i64 0 := rdL_out _ _ _ (by omega)
                                  rw [hz] at st
                                  have e : setAt r4 (I.nat k4) (I.of .i64 0) = r4.set k4.val.toNat (I.of .i64 0) := setAt_eq _ _ _
                                  refine Wp.again ⟨rfl, rfl, rfl, rfl, rfl, rfl, ?_, ?_, ?_, ?_, ?_⟩ hm4
                                  · show (setAt r4 (I.nat k4) (I.of .i64 0)).length = _
                                    rw [e, List.length_set]; exact hl4
                                  · show Digs (setAt r4 (I.nat k4) (I.of .i64 0))
                                    rw [e]; exact st.2
                                  · show 0 ≤ (I.add k4 (I.of .i64 1)).val; omega
                                  · show (I.add k4 (I.of .i64 1)).val ≤ _; omega
                                  · show bv ((setAt r4 (I.nat k4) (I.of .i64 0)).take (I.add k4 (I.of .i64 1)).val.toNat) = bv (d4.take (I.add k4 (I.of .i64 1)).val.toNat)
                                    rw [e, show (I.add k4 (I.of .i64 1)).val.toNat = k4.val.toNat + 1 by omega]
                                    exact st.1
                              · have hkg := niff_ltb.1 h
                                have hkg : (I.ofNat .i64 (lenL r4)).val ≤ k4.val := hkg
                                clear h
                                have hk : k4.val.toNat = b4.length + 1 := by omega
                                rw [hk, List.take_of_length_le (by omega), List.take_of_length_le hdlen, hdB.val] at hbk
                                have hqi := (rd0_ok hM.qd i4.val.toNat)
                                have hqn := hqi.nat
                                have hq0 := hqi.1
                                have hlow := hM.low
                                have hqlen := hM.ql
                                have hsb := shl_bit bit4 (by omega) hb15
                                have hpw : 2 ^ bit4.val.toNat ≤ 2 ^ 15 := Nat.pow_le_pow_right (by decide) (by omega)
                                have hqb : (rd0 q4 i4.val.toNat).nat + 2 ^ bit4.val.toNat < 65536 := by
                                  have e1 : 65536 = 2 ^ (bit4.val.toNat + 1) * 2 ^ (15 - bit4.val.toNat) := by rw [← Nat.pow_add, show bit4.val.toNat + 1 + (15 - bit4.val.toNat) = 16 by omega]
                                  have e2 := Nat.div_add_mod (rd0 q4 i4.val.toNat).nat (2 ^ (bit4.val.toNat + 1))
                                  rw [hlow, Nat.add_zero] at e2
                                  have e3 : (rd0 q4 i4.val.toNat).nat / 2 ^ (bit4.val.toNat + 1) + 1 ≤ 2 ^ (15 - bit4.val.toNat) := by
                                    rcases Nat.lt_or_ge ((rd0 q4 i4.val.toNat).nat / 2 ^ (bit4.val.toNat + 1)) (2 ^ (15 - bit4.val.toNat)) with h1 | h1
                                    · exact h1
                                    · exfalso
                                      have := Nat.mul_le_mul_left (2 ^ (bit4.val.toNat + 1)) h1
                                      omega
                                  have e4 := Nat.mul_le_mul_left (2 ^ (bit4.val.toNat + 1)) e3
                                  rw [Nat.mul_add, Nat.mul_one, ← e1, e2, Nat.pow_succ] at e4
                                  have : 0 < 2 ^ bit4.val.toNat := Nat.pow_pos (by decide)
                                  omega
                                have hv : (I.add (rd0 q4 i4.val.toNat) (I.shl (I.of .i64 1) (I.conv .u64 bit4))).val = (rd0 q4 i4.val.toNat).val + ((2 ^ bit4.val.toNat : Nat) : Int) := by rw [add_i64 (by rw [hsb]; omega), hsb]
                                generalize hV : I.add (rd0 q4 i4.val.toNat) (I.shl (I.of .i64 1) (I.conv .u64 bit4)) = v at hv
                                have hvn : v.nat = (rd0 q4 i4.val.toNat).nat + 2 ^ bit4.val.toNat := by unfold I.nat at hqn ⊢; omega
                                have hvd : DigOk v := ⟨by omega, by omega⟩
                                have bi : inB i4 (lenL q4) = true := iff_inB.2 ⟨by omega, by show i4.val < ((q4.length : Nat) : Int); omega⟩
                                have st := mid_both (e := 1) (q' := q4.set i4.val.toNat v) (r' := r4) hM (by omega) (by rw [hbk, hbe]; omega) hd4 (by omega) (by simpa using hqlen) (digs_set hM.qd _ hvd) (fun t ht => by rw [rd0_set_ne _ _ _ _ (by omega)]; exact hM.zero t ht) (by rw [rd0_set_eq _ _ _ (by omega), hvn, Nat.one_mul]) (drop_set_succ _ _ _)
                                refine Wp.done (Wp.brnT bi (Wp.brnT (nn_u64 _) (Wp.brnT bi ?_)))
                                refine Wp.again ⟨rfl, rfl, rfl, ?_, ?_, hl4, ?_⟩ hmb
                                · show -1 ≤ (I.sub bit4 (I.of .i64 1)).val; omega
                                · show (I.sub bit4 (I.of .i64 1)).val ≤ 15; omega
                                · show DivMid a4 (setAt q4 (I.nat i4) (I.add (rd0 q4 i4.val.toNat) (I.shl (I.of .i64 1) (I.conv .u64 bit4)))) r4 n i4.val.toNat ((I.sub bit4 (I.of .i64 1)).val + 1).toNat
                                  rw [hV, setAt_eq, esb]
                                  exact st
                            · exact ⟨rfl, rfl, rfl, rfl, rfl, rfl, by show s3.length = _; omega, hsd, by show 0 ≤ (I.of .i64 0).val; decide, by show (I.of .i64 0).val ≤ _; omega, rfl⟩
                            · exact K0_ge _ (by show ((b3.length + 1 : Int) - (I.of .i64 0).val).toNat < _; omega)
                        · have hjz := niff_ltb.1 h
                          have hjz : j.val ≤ (I.of .i64 0).val := hjz
                          clear h
                          have hB := cut_zero (l := s3) (j := j) hj0 (by omega) hbt
                          refine Wp.done (Wp.brnT (cut_ok hj0 hj1) ?_)
                          have hal : a3.length ≤ 1000000 := hal
                          have hbl : b3.length ≤ 900000 := hbl
                          have hnlt : n < 65536 ^ b3.length := hnlt
                          have hi1 : i3.val < (a3.length : Int) := hi1
                          have hrl : r.length = b3.length + 1 := hrl
                          have hsl : s3.length = r.length := hsl
                          have hcl : (subL s3 0 (I.nat j)).length ≤ 1000000 := by rw [cut_eq, List.length_take]; omega
                          obtain ⟨d, hsub, hdB⟩ := Sub_ok hB hb hcge hcl
                          refine Wp.optF hsub ?_
                          have hdlen : d.length ≤ b3.length + 1 := hdB.len.2 (by omega)
                          have hold : (I.ofNat .i64 (lenL d)).val = d.length := ofNat_i64 (by show d.length < _; omega)
                          refine Wp.iter (fun x => x.1.1 = a3 ∧ x.1.2.1 = b3 ∧ x.1.2.2.1 = i3 ∧ x.1.2.2.2.1 = bit3 ∧ x.1.2.2.2.2.1 = d ∧ x.2.1 = q3 ∧ x.2.2.1.length = b3.length + 1 ∧ Digs x.2.2.1 ∧ 0 ≤ x.1.2.2.2.2.2.1.val ∧ x.1.2.2.2.2.2.1.val ≤ (b3.length + 1 : Int) ∧ bv (x.2.2.1.take x.1.2.2.2.2.2.1.val.toNat) = bv (d.take x.1.2.2.2.2.2.1.val.toNat)) (fun x => ((b3.length + 1 : Int) - x.1.2.2.2.2.2.1.val).toNat) ?_ ?_ ?_
                          · rintro ⟨⟨a4, b4, i4, bit4, d4, k4, ⟨⟩⟩, q4, r4, ⟨⟩⟩ ⟨f1, f2, f3, f4, f5, f6, hl4, hd4, hk40, hk41, hbk⟩
                            simp only at f1 f2 f3 f4 f5 f6 hl4 hd4 hk40 hk41 hbk
                            subst f1 f2 f3 f4 f5 f6
                            have hal : a4.length ≤ 1000000 := hal
                            have hbl : b4.length ≤ 900000 := hbl
                            have hi1 : i4.val < (a4.length : Int) := hi1
                            have hl4 : r4.length = b4.length + 1 := hl4
                            have hdlen : d4.length ≤ b4.length + 1 := hdlen
                            have hold : (I.ofNat .i64 (lenL d4)).val = d4.length := hold
                            have hol4 : (I.ofNat .i64 (lenL r4)).val = r4.length := ofNat_i64 (by show r4.length < _; omega)
                            refine Wp.brn (fun h => ?_) (fun h => ?_)
                            · have hkl := iff_ltb.1 h
                              have hkl : k4.val < (I.ofNat .i64 (lenL r4)).val := hkl
                              clear h
                              have sk : (I.add k4 (I.of .i64 1)).val = k4.val + 1 := by rw [add_i64 (by omega)]; omega
                              have st := copy_step (s := r4) (d := d4) (k := k4.val.toNat) (by omega) hbk hd4 hdB.dig
                              have hm4 : ((b4.length + 1 : Int) - (I.add k4 (I.of .i64 1)).val).toNat < ((b4.length + 1 : Int) - k4.val).toNat := by omega
                              refine Wp.brnT (iff_inB.2 ⟨hk40, by show k4.val < ((r4.length : Nat) : Int); omega⟩) ?_
                              refine Wp.brn (fun h => ?_) (fun h => ?_)
                              · have hkd := iff_ltb.1 h
                                have hkd : k4.val < (I.ofNat .i64 (lenL d4)).val := hkd
                                clear h
                                refine Wp.brnT (iff_inB.2 ⟨hk40, by show k4.val < ((d4.length : Nat) : Int); omega⟩) ?_
                                refine Wp.brnT (iff_inB.2 ⟨hk40, by show k4.val < (((setAt r4 (I.nat k4) (I.of .i64 0)).length : Nat) : Int); rw [setAt_eq, List.length_set]; omega⟩) ?_
                                have e : setAt (setAt r4 (I.nat k4) (I.of .i64 0)) (I.nat k4) (rd0 d4 k4.val.toNat) = r4.set k4.val.toNat (rd0 d4 k4.val.toNat) := by
                                  rw [setAt_eq, setAt_eq]
                                  show (r4.set k4.val.toNat _).set k4.val.toNat _ = _
                                  rw [List.set_set]
                                refine Wp.again ⟨rfl, rfl, rfl, rfl, rfl, rfl, ?_, ?_, ?_, ?_, ?_⟩ hm4
                                · show (setAt (setAt r4 (I.nat k4) (I.of .i64 0)) (I.nat k4) (rd0 d4 k4.val.toNat)).length = _
                                  rw [e, List.length_set]; exact hl4
                                · show Digs (setAt (setAt r4 (I.nat k4) (I.of .i64 0)) (I.nat k4) (rd0 d4 k4.val.toNat))
                                  rw [e]; exact st.2
                                · show 0 ≤ (I.add k4 (I.of .i64 1)).val; omega
                                · show (I.add k4 (I.of .i64 1)).val ≤ _; omega
                                · show bv ((setAt (setAt r4 (I.nat k4) (I.of .i64 0)) (I.nat k4) (rd0 d4 k4.val.toNat)).take (I.add k4 (I.of .i64 1)).val.toNat) = bv (d4.take (I.add k4 (I.of .i64 1)).val.toNat)
                                  rw [e, show (I.add k4 (I.of .i64 1)).val.toNat = k4.val.toNat + 1 by omega]
                                  exact st.1
                              · have hkd := niff_ltb.1 h
                                have hkd : (I.ofNat .i64 (lenL d4)).val ≤ k4.val := hkd
                                clear h
                                have hz : rd0 d4 k4.val.toNat = I.of .i64 0 := rdL_out _ _ _ (by omega)
                                rw [hz] at st
                                have e : setAt r4 (I.nat k4) (I.of .i64 0) = r4.set k4.val.toNat (I.of .i64 0) := setAt_eq _ _ _
                                refine Wp.again ⟨rfl, rfl, rfl, rfl, rfl, rfl, ?_, ?_, ?_, ?_, ?_⟩ hm4
                                · show (setAt r4 (I.nat k4) (I.of .i64 0)).length = _
                                  rw [e, List.length_set]; exact hl4
                                · show Digs (setAt r4 (I.nat k4) (I.of .i64 0))
                                  rw [e]; exact st.2
                                · show 0 ≤ (I.add k4 (I.of .i64 1)).val; omega
                                · show (I.add k4 (I.of .i64 1)).val ≤ _; omega
                                · show bv ((setAt r4 (I.nat k4) (I.of .i64 0)).take (I.add k4 (I.of .i64 1)).val.toNat) = bv (d4.take (I.add k4 (I.of .i64 1)).val.toNat)
                                  rw [e, show (I.add k4 (I.of .i64 1)).val.toNat = k4.val.toNat + 1 by omega]
                                  exact st.1
                            · have hkg := niff_ltb.1 h
                              have hkg : (I.ofNat .i64 (lenL r4)).val ≤ k4.val := hkg
                              clear h
                              have hk : k4.val.toNat = b4.length + 1 := by omega
                              rw [hk, List.take_of_length_le (by omega), List.take_of_length_le hdlen, hdB.val] at hbk
                              have hqi := (rd0_ok hM.qd i4.val.toNat)
                              have hqn := hqi.nat
                              have hq0 := hqi.1
                              have hlow := hM.low
                              have hqlen := hM.ql
                              have hsb := shl_bit bit4 (by omega) hb15
                              have hpw : 2 ^ bit4.val.toNat ≤ 2 ^ 15 := Nat.pow_le_pow_right (by decide) (by omega)
                              have hqb : (rd0 q4 i4.val.toNat).nat + 2 ^ bit4.val.toNat < 65536 := by
                                have e1 : 65536 = 2 ^ (bit4.val.toNat + 1) * 2 ^ (15 - bit4.val.toNat) := by rw [← Nat.pow_add, show bit4.val.toNat + 1 + (15 - bit4.val.toNat) = 16 by omega]
                                have e2 := Nat.div_add_mod (rd0 q4 i4.val.toNat).nat (2 ^ (bit4.val.toNat + 1))
                                rw [hlow, Nat.add_zero] at e2
                                have e3 : (rd0 q4 i4.val.toNat).nat / 2 ^ (bit4.val.toNat + 1) + 1 ≤ 2 ^ (15 - bit4.val.toNat) := by
                                  rcases Nat.lt_or_ge ((rd0 q4 i4.val.toNat).nat / 2 ^ (bit4.val.toNat + 1)) (2 ^ (15 - bit4.val.toNat)) with h1 | h1
                                  · exact h1
                                  · exfalso
                                    have := Nat.mul_le_mul_left (2 ^ (bit4.val.toNat + 1)) h1
                                    omega
                                have e4 := Nat.mul_le_mul_left (2 ^ (bit4.val.toNat + 1)) e3
                                rw [Nat.mul_add, Nat.mul_one, ← e1, e2, Nat.pow_succ] at e4
                                have : 0 < 2 ^ bit4.val.toNat := Nat.pow_pos (by decide)
                                omega
                              have hv : (I.add (rd0 q4 i4.val.toNat) (I.shl (I.of .i64 1) (I.conv .u64 bit4))).val = (rd0 q4 i4.val.toNat).val + ((2 ^ bit4.val.toNat : Nat) : Int) := by rw [add_i64 (by rw [hsb]; omega), hsb]
                              generalize hV : I.add (rd0 q4 i4.val.toNat) (I.shl (I.of .i64 1) (I.conv .u64 bit4)) = v at hv
                              have hvn : v.nat = (rd0 q4 i4.val.toNat).nat + 2 ^ bit4.val.toNat := by unfold I.nat at hqn ⊢; omega
                              have hvd : DigOk v := ⟨by omega, by omega⟩
                              have bi : inB i4 (lenL q4) = true := iff_inB.2 ⟨by omega, by show i4.val < ((q4.length : Nat) : Int); omega⟩
                              have st := mid_both (e := 1) (q' := q4.set i4.val.toNat v) (r' := r4) hM (by omega) (by rw [hbk, hbe]; omega) hd4 (by omega) (by simpa using hqlen) (digs_set hM.qd _ hvd) (fun t ht => by rw [rd0_set_ne _ _ _ _ (by omega)]; exact hM.zero t ht) (by rw [rd0_set_eq _ _ _ (by omega), hvn, Nat.one_mul]) (drop_set_succ _ _ _)
                              refine Wp.done (Wp.brnT bi (Wp.brnT (nn_u64 _) (Wp.brnT bi ?_)))
                              refine Wp.again ⟨rfl, rfl, rfl, ?_, ?_, hl4, ?_⟩ hmb
                              · show -1 ≤ (I.sub bit4 (I.of .i64 1)).val; omega
                              · show (I.sub bit4 (I.of .i64 1)).val ≤ 15; omega
                              · show DivMid a4 (setAt q4 (I.nat i4) (I.add (rd0 q4 i4.val.toNat) (I.shl (I.of .i64 1) (I.conv .u64 bit4)))) r4 n i4.val.toNat ((I.sub bit4 (I.of .i64 1)).val + 1).toNat
                                rw [hV, setAt_eq, esb]
                                exact st
                          · exact ⟨rfl, rfl, rfl, rfl, rfl, rfl, by show s3.length = _; omega, hsd, by show 0 ≤ (I.of .i64 0).val; decide, by show (I.of .i64 0).val ≤ _; omega, rfl⟩
                          · exact K0_ge _ (by show ((b3.length + 1 : Int) - (I.of .i64 0).val).toNat < _; omega)
                      · refine ⟨rfl, rfl, rfl, rfl, rfl, rfl, ?_, ?_, ?_⟩
                        · show 0 ≤ (I.ofNat .i64 (lenL s3)).val; omega
                        · show (I.ofNat .i64 (lenL s3)).val ≤ _; omega
                        · show bv (s3.take (I.ofNat .i64 (lenL s3)).val.toNat) = _
                          rw [hols, Int.toNat_natCast, List.take_length]
                      · refine K0_ge _ ?_
                        show (I.ofNat .i64 (lenL s3)).val.toNat < _
                        omega
                · have hjz := niff_ltb.1 h
                  have hjz : j.val ≤ (I.of .i64 0).val := hjz
                  clear h
                  have hB := cut_zero (l := s3) (j := j) hj0 (by omega) hbt
                  refine Wp.done (Wp.brnT (cut_ok hj0 hj1) ?_)
                  have hal : a3.length ≤ 1000000 := hal
                  have hbl : b3.length ≤ 900000 := hbl
                  have hnlt : n < 65536 ^ b3.length := hnlt
                  have hi1 : i3.val < (a3.length : Int) := hi1
                  have hrl : r.length = b3.length + 1 := hrl
                  have hsl : s3.length = r.length := hsl
                  have hcl : (subL s3 0 (I.nat j)).length ≤ 1000000 := by rw [cut_eq, List.length_take]; omega
                  refine Wp.optF (Cmp_ok hB hb hcl (show b3.length ≤ 1000000 by omega)) ?_
                  by_cases hcmp : bv s3 < n
                  · refine Wp.brnF (by show I.leb (I.of .i64 0) (cmpN (bv s3) n) = false; unfold cmpN; rw [if_pos hcmp]; rfl) ?_
                    have st := mid_both (e := 0) (q' := q3) (r' := s3) hM (by omega) (by rw [hbe]; omega) hsd hcmp hM.ql hM.qd hM.zero (by omega) rfl
                    refine Wp.again ⟨rfl, rfl, rfl, ?_, ?_, ?_, ?_⟩ hmb
                    · show -1 ≤ (I.sub bit3 (I.of .i64 1)).val; omega
                    · show (I.sub bit3 (I.of .i64 1)).val ≤ 15; omega
                    · show s3.length = _; omega
                    · show DivMid a3 q3 s3 n i3.val.toNat ((I.sub bit3 (I.of .i64 1)).val + 1).toNat
                      rw [esb]; exact st
                  · refine Wp.brnT (by show I.leb (I.of .i64 0) (cmpN (bv s3) n) = true; unfold cmpN; rw [if_neg hcmp]; split <;> rfl) ?_
                    have hcge : n ≤ bv s3 := by omega
                    clear hB hbt hj0 hj1 hcl
                    refine Wp.iter (fun x => x.1.2.1 = a3 ∧ x.1.2.2.1 = b3 ∧ x.1.2.2.2.1 = i3 ∧ x.1.2.2.2.2.1 = bit3 ∧ x.2.1 = s3 ∧ x.2.2.1 = q3 ∧ 0 ≤ x.1.1.val ∧ x.1.1.val ≤ (s3.length : Int) ∧ bv (s3.take x.1.1.val.toNat) = bv s3) (fun x => x.1.1.val.toNat) ?_ ?_ ?_
                    · rintro ⟨⟨j, a3, b3, i3, bit3, ⟨⟩⟩, s3, q3, ⟨⟩⟩ ⟨k0, k1, k2, k3, k4, k5, hj0, hj1, hbt⟩
                      simp only at k0 k1 k2 k3 k4 k5 hj0 hj1 hbt
                      subst k0 k1 k2 k3 k4 k5
                      refine Wp.brn (fun h => ?_) (fun h => ?_)
                      · have hjp := iff_ltb.1 h
                        have hjp : (I.of .i64 0).val < j.val := hjp
                        clear h
                        obtain ⟨sj, bj, z1, z2⟩ := cut_dig (l := s3) (j := j) hsd hjp hj1 hsl2 hbt
                        refine Wp.brnT bj (Wp.brn (fun h2 => ?_) (fun h2 => ?_))
                        · refine Wp.again ⟨rfl, rfl, rfl, rfl, rfl, rfl, ?_, ?_, z1 h2⟩ ?_
                          · show 0 ≤ (I.sub j (I.of .i64 1)).val; omega
                          · show (I.sub j (I.of .i64 1)).val ≤ _; omega
                          · show (I.sub j (I.of .i64 1)).val.toNat < j.val.toNat
                            omega
                        · have hB := z2 h2
                          clear z1 z2 h2 bj sj
                          refine Wp.done (Wp.brnT (cut_ok hj0 hj1) ?_)
                          have hal : a3.length ≤ 1000000 := hal
                          have hbl : b3.length ≤ 900000 := hbl
                          have hnlt : n < 65536 ^ b3.length := hnlt
                          have hi1 : i3.val < (a3.length : Int) := hi1
                          have hrl : r.length = b3.length + 1 := hrl
                          have hsl : s3.length = r.length := hsl
                          have hcl : (subL s3 0 (I.nat j)).length ≤ 1000000 := by rw [cut_eq, List.length_take]; omega
                          obtain ⟨d, hsub, hdB⟩ := Sub_ok hB hb hcge hcl
                          refine Wp.optF hsub ?_
                          have hdlen : d.length ≤ b3.length + 1 := hdB.len.2 (by omega)
                          have hold : (I.ofNat .i64 (lenL d)).val = d.length := ofNat_i64 (by show d.length < _; omega)
                          refine Wp.iter (fun x => x.1.1 = a3 ∧ x.1.2.1 = b3 ∧ x.1.2.2.1 = i3 ∧ x.1.2.2.2.1 = bit3 ∧ x.1.2.2.2.2.1 = d ∧ x.2.1 = q3 ∧ x.2.2.1.length = b3.length + 1 ∧ Digs x.2.2.1 ∧ 0 ≤ x.1.2.2.2.2.2.1.val ∧ x.1.2.2.2.2.2.1.val ≤ (b3.length + 1 : Int) ∧ bv (x.2.2.1.take x.1.2.2.2.2.2.1.val.toNat) = bv (d.take x.1.2.2.2.2.2.1.val.toNat)) (fun x => ((b3.length + 1 : Int) - x.1.2.2.2.2.2.1.val).toNat) ?_ ?_ ?_
                          · rintro ⟨⟨a4, b4, i4, bit4, d4, k4, ⟨⟩⟩, q4, r4, ⟨⟩⟩ ⟨f1, f2, f3, f4, f5, f6, hl4, hd4, hk40, hk41, hbk⟩
                            simp only at f1 f2 f3 f4 f5 f6 hl4 hd4 hk40 hk41 hbk
                            subst f1 f2 f3 f4 f5 f6
                            have hal : a4.length ≤ 1000000 := hal
                            have hbl : b4.length ≤ 900000 := hbl
                            have hi1 : i4.val < (a4.length : Int) := hi1
                            have hl4 : r4.length = b4.length + 1 := hl4
                            have hdlen : d4.length ≤ b4.length + 1 := hdlen
                            have hold : (I.ofNat .i64 (lenL d4)).val = d4.length := hold
                            have hol4 : (I.ofNat .i64 (lenL r4)).val = r4.length := ofNat_i64 (by show r4.length < _; omega)
                            refine Wp.brn (fun h => ?_) (fun h => ?_)
                            · have hkl := iff_ltb.1 h
                              have hkl : k4.val < (I.ofNat .i64 (lenL r4)).val := hkl
                              clear h
                              have sk : (I.add k4 (I.of .i64 1)).val = k4.val + 1 := by rw [add_i64 (by omega)]; omega
                              have st := copy_step (s := r4) (d := d4) (k := k4.val.toNat) (by omega) hbk hd4 hdB.dig
                              have hm4 : ((b4.length + 1 : Int) - (I.add k4 (I.of .i64 1)).val).toNat < ((b4.length + 1 : Int) - k4.val).toNat := by omega
                              refine Wp.brnT (iff_inB.2 ⟨hk40, by show k4.val < ((r4.length : Nat) : Int); omega⟩) ?_
                              refine Wp.brn (fun h => ?_) (fun h => ?_)
                              · have hkd := iff_ltb.1 h
                                have hkd : k4.val < (I.ofNat .i64 (lenL d4)).val := hkd
                                clear h
                                refine Wp.brnT (iff_inB.2 ⟨hk40, by show k4.val < ((d4.length : Nat) : Int); omega⟩) ?_
                                refine Wp.brnT (iff_inB.2 ⟨hk40, by show k4.val < (((setAt r4 (I.nat k4) (I.of .i64 0)).length : Nat) : Int); rw [setAt_eq, List.length_set]; omega⟩) ?_
                                have e : setAt (setAt r4 (I.nat k4) (I.of .i64 0)) (I.nat k4) (rd0 d4 k4.val.toNat) = r4.set k4.val.toNat (rd0 d4 k4.val.toNat) := by
                                  rw [setAt_eq, setAt_eq]
                                  show (r4.set k4.val.toNat _).set k4.val.toNat _ = _
                                  rw [List.set_set]
                                refine Wp.again ⟨rfl, rfl, rfl, rfl, rfl, rfl, ?_, ?_, ?_, ?_, ?_⟩ hm4
                                · show (setAt (setAt r4 (I.nat k4) (I.of .i64 0)) (I.nat k4) (rd0 d4 k4.val.toNat)).length = _
                                  rw [e, List.length_set]; exact hl4
                                · show Digs (setAt (setAt r4 (I.nat k4) (I.of .i64 0)) (I.nat k4) (rd0 d4 k4.val.toNat))
                                  rw [e]; exact st.2
                                · show 0 ≤ (I.add k4 (I.of .i64 1)).val; omega
                                · show (I.add k4 (I.of .i64 1)).val ≤ _; omega
                                · show bv ((setAt (setAt r4 (I.nat k4) (I.of .i64 0)) (I.nat k4) (rd0 d4 k4.val.toNat)).take (I.add k4 (I.of .i64 1)).val.toNat) = bv (d4.take (I.add k4 (I.of .i64 1)).val.toNat)
                                  rw [e, show (I.add k4 (I.of .i64 1)).val.toNat = k4.val.toNat + 1 by omega]
                                  exact st.1
                              · have hkd := niff_ltb.1 h
                                have hkd : (I.ofNat .i64 (lenL d4)).val ≤ k4.val := hkd
                                clear h
                                have hz : rd0 d4 k4.val.toNat = I.of .i64 0 := rdL_out _ _ _ (by omega)
                                rw [hz] at st
                                have e : setAt r4 (I.nat k4) (I.of .i64 0) = r4.set k4.val.toNat (I.of .i64 0) := setAt_eq _ _ _
                                refine Wp.again ⟨rfl, rfl, rfl, rfl, rfl, rfl, ?_, ?_, ?_, ?_, ?_⟩ hm4
                                · show (setAt r4 (I.nat k4) (I.of .i64 0)).length = _
                                  rw [e, List.length_set]; exact hl4
                                · show Digs (setAt r4 (I.nat k4) (I.of .i64 0))
                                  rw [e]; exact st.2
                                · show 0 ≤ (I.add k4 (I.of .i64 1)).val; omega
                                · show (I.add k4 (I.of .i64 1)).val ≤ _; omega
                                · show bv ((setAt r4 (I.nat k4) (I.of .i64 0)).take (I.add k4 (I.of .i64 1)).val.toNat) = bv (d4.take (I.add k4 (I.of .i64 1)).val.toNat)
                                  rw [e, show (I.add k4 (I.of .i64 1)).val.toNat = k4.val.toNat + 1 by omega]
                                  exact st.1
                            · have hkg := niff_ltb.1 h
                              have hkg : (I.ofNat .i64 (lenL r4)).val ≤ k4.val := hkg
                              clear h
                              have hk : k4.val.toNat = b4.length + 1 := by omega
                              rw [hk, List.take_of_length_le (by omega), List.take_of_length_le hdlen, hdB.val] at hbk
                              have hqi := (rd0_ok hM.qd i4.val.toNat)
                              have hqn := hqi.nat
                              have hq0 := hqi.1
                              have hlow := hM.low
                              have hqlen := hM.ql
                              have hsb := shl_bit bit4 (by omega) hb15
                              have hpw : 2 ^ bit4.val.toNat ≤ 2 ^ 15 := Nat.pow_le_pow_right (by decide) (by omega)
                              have hqb : (rd0 q4 i4.val.toNat).nat + 2 ^ bit4.val.toNat < 65536 := by
                                have e1 : 65536 = 2 ^ (bit4.val.toNat + 1) * 2 ^ (15 - bit4.val.toNat) := by rw [← Nat.pow_add, show bit4.val.toNat + 1 + (15 - bit4.val.toNat) = 16 by omega]
                                have e2 := Nat.div_add_mod (rd0 q4 i4.val.toNat).nat (2 ^ (bit4.val.toNat + 1))
                                rw [hlow, Nat.add_zero] at e2
                                have e3 : (rd0 q4 i4.val.toNat).nat / 2 ^ (bit4.val.toNat + 1) + 1 ≤ 2 ^ (15 - bit4.val.toNat) := by
                                  rcases Nat.lt_or_ge ((rd0 q4 i4.val.toNat).nat / 2 ^ (bit4.val.toNat + 1)) (2 ^ (15 - bit4.val.toNat)) with h1 | h1
                                  · exact h1
                                  · exfalso
                                    have := Nat.mul_le_mul_left (2 ^ (bit4.val.toNat + 1)) h1
                                    omega
                                have e4 := Nat.mul_le_mul_left (2 ^ (bit4.val.toNat + 1)) e3
                                rw [Nat.mul_add, Nat.mul_one, ← e1, e2, Nat.pow_succ] at e4
                                have : 0 < 2 ^ bit4.val.toNat := Nat.pow_pos (by decide)
                                omega
                              have hv : (I.add (rd0 q4 i4.val.toNat) (I.shl (I.of .i64 1) (I.conv .u64 bit4))).val = (rd0 q4 i4.val.toNat).val + ((2 ^ bit4.val.toNat : Nat) : Int) := by rw [add_i64 (by rw [hsb]; omega), hsb]
                              generalize hV : I.add (rd0 q4 i4.val.toNat) (I.shl (I.of .i64 1) (I.conv .u64 bit4)) = v at hv
                              have hvn : v.nat = (rd0 q4 i4.val.toNat).nat + 2 ^ bit4.val.toNat := by unfold I.nat at hqn ⊢; omega
                              have hvd : DigOk v := ⟨by omega, by omega⟩
                              have bi : inB i4 (lenL q4) = true := iff_inB.2 ⟨by omega, by show i4.val < ((q4.length : Nat) : Int); omega⟩
                              have st := mid_both (e := 1) (q' := q4.set i4.val.toNat v) (r' := r4) hM (by omega) (by rw [hbk, hbe]; omega) hd4 (by omega) (by simpa using hqlen) (digs_set hM.qd _ hvd) (fun t ht => by rw [rd0_set_ne _ _ _ _ (by omega)]; exact hM.zero t ht) (by rw [rd0_set_eq _ _ _ (by omega), hvn, Nat.one_mul]) (drop_set_succ _ _ _)
                              refine Wp.done (Wp.brnT bi (Wp.brnT (nn_u64 _) (Wp.brnT bi ?_)))
                              refine Wp.again ⟨rfl, rfl, rfl, ?_, ?_, hl4, ?_⟩ hmb
                              · show -1 ≤ (I.sub bit4 (I.of .i64 1)).val; omega
                              · show (I.sub bit4 (I.of .i64 1)).val ≤ 15; omega
                              · show DivMid a4 (setAt q4 (I.nat i4) (I.add (rd0 q4 i4.val.toNat) (I.shl (I.of .i64 1) (I.conv .u64 bit4)))) r4 n i4.val.toNat ((I.sub bit4 (I.of .i64 1)).val + 1).toNat
                                rw [hV, setAt_eq, esb]
                                exact st
                          · exact ⟨rfl, rfl, rfl, rfl, rfl, rfl, by show s3.length = _; omega, hsd, by show 0 ≤ (I.of .i64 0).val; decide, by show (I.of .i64 0).val ≤ _; omega, rfl⟩
                          · exact K0_ge _ (by show ((b3.length + 1 : Int) - (I.of .i64 0).val).toNat < _; omega)
                      · have hjz := niff_ltb.1 h
                        have hjz : j.val ≤ (I.of .i64 0).val := hjz
                        clear h
                        have hB := cut_zero (l := s3) (j := j) hj0 (by omega) hbt
                        refine Wp.done (Wp.brnT (cut_ok hj0 hj1) ?_)
                        have hal : a3.length ≤ 1000000 := hal
                        have hbl : b3.length ≤ 900000 := hbl
                        have hnlt : n < 65536 ^ b3.length := hnlt
                        have hi1 : i3.val < (a3.length : Int) := hi1
                        have hrl : r.length = b3.length + 1 := hrl
                        have hsl : s3.length = r.length := hsl
                        have hcl : (subL s3 0 (I.nat j)).length ≤ 1000000 := by rw [cut_eq, List.length_take]; omega
                        obtain ⟨d, hsub, hdB⟩ := Sub_ok hB hb hcge hcl
                        refine Wp.optF hsub ?_
                        have hdlen : d.length ≤ b3.length + 1 := hdB.len.2 (by omega)
                        have hold : (I.ofNat .i64 (lenL d)).val = d.length := ofNat_i64 (by show d.length < _; omega)
                        refine Wp.iter (fun x => x.1.1 = a3 ∧ x.1.2.1 = b3 ∧ x.1.2.2.1 = i3 ∧ x.1.2.2.2.1 = bit3 ∧ x.1.2.2.2.2.1 = d ∧ x.2.1 = q3 ∧ x.2.2.1.length = b3.length + 1 ∧ Digs x.2.2.1 ∧ 0 ≤ x.1.2.2.2.2.2.1.val ∧ x.1.2.2.2.2.2.1.val ≤ (b3.length + 1 : Int) ∧ bv (x.2.2.1.take x.1.2.2.2.2.2.1.val.toNat) = bv (d.take x.1.2.2.2.2.2.1.val.toNat)) (fun x => ((b3.length + 1 : Int) - x.1.2.2.2.2.2.1.val).toNat) ?_ ?_ ?_
                        · rintro ⟨⟨a4, b4, i4, bit4, d4, k4, ⟨⟩⟩, q4, r4, ⟨⟩⟩ ⟨f1, f2, f3, f4, f5, f6, hl4, hd4, hk40, hk41, hbk⟩
                          simp only at f1 f2 f3 f4 f5 f6 hl4 hd4 hk40 hk41 hbk
                          subst f1 f2 f3 f4 f5 f6
                          have hal : a4.length ≤ 1000000 := hal
                          have hbl : b4.length ≤ 900000 := hbl
                          have hi1 : i4.val < (a4.length : Int) := hi1
                          have hl4 : r4.length = b4.length + 1 := hl4
                          have hdlen : d4.length ≤ b4.length + 1 := hdlen
                          have hold : (I.ofNat .i64 (lenL d4)).val = d4.length := hold
                          have hol4 : (I.ofNat .i64 (lenL r4)).val = r4.length := ofNat_i64 (by show r4.length < _; omega)
                          refine Wp.brn (fun h => ?_) (fun h => ?_)
                          · have hkl := iff_ltb.1 h
                            have hkl : k4.val < (I.ofNat .i64 (lenL r4)).val := hkl
                            clear h
                            have sk : (I.add k4 (I.of .i64 1)).val = k4.val + 1 := by rw [add_i64 (by omega)]; omega
                            have st := copy_step (s := r4) (d := d4) (k := k4.val.toNat) (by omega) hbk hd4 hdB.dig
                            have hm4 : ((b4.length + 1 : Int) - (I.add k4 (I.of .i64 1)).val).toNat < ((b4.length + 1 : Int) - k4.val).toNat := by omega
                            refine Wp.brnT (iff_inB.2 ⟨hk40, by show k4.val < ((r4.length : Nat) : Int); omega⟩) ?_
                            refine Wp.brn (fun h => ?_) (fun h => ?_)
                            · have hkd := iff_ltb.1 h
                              have hkd : k4.val < (I.ofNat .i64 (lenL d4)).val := hkd
                              clear h
                              refine Wp.brnT (iff_inB.2 ⟨hk40, by show k4.val < ((d4.length : Nat) : Int); omega⟩) ?_
                              refine Wp.brnT (iff_inB.2 ⟨hk40, by show k4.val < (((setAt r4 (I.nat k4) (I.of .i64 0)).length : Nat) : Int); rw [setAt_eq, List.length_set]; omega⟩) ?_
                              have e : setAt (setAt r4 (I.nat k4) (I.of .i64 0)) (I.nat k4) (rd0 d4 k4.val.toNat) = r4.set k4.val.toNat (rd0 d4 k4.val.toNat) := by
                                rw [setAt_eq, setAt_eq]
                                show (r4.set k4.val.toNat _).set k4.val.toNat _ = _
                                rw [List.set_set]
                              refine Wp.again ⟨rfl, rfl, rfl, rfl, rfl, rfl, ?_, ?_, ?_, ?_, ?_⟩ hm4
                              · show (setAt (setAt r4 (I.nat k4) (I.of .i64 0)) (I.nat k4) (rd0 d4 k4.val.toNat)).length = _
                                rw [e, List.length_set]; exact hl4
                              · show Digs (setAt (setAt r4 (I.nat k4) (I.of .i64 0)) (I.nat k4) (rd0 d4 k4.val.toNat))
                                rw [e]; exact st.2
                              · show 0 ≤ (I.add k4 (I.of .i64 1)).val; omega
                              · show (I.add k4 (I.of .i64 1)).val ≤ _; omega
                              · show bv ((setAt (setAt r4 (I.nat k4) (I.of .i64 0)) (I.nat k4) (rd0 d4 k4.val.toNat)).take (I.add k4 (I.of .i64 1)).val.toNat) = bv (d4.take (I.add k4 (I.of .i64 1)).val.toNat)
                                rw [e, show (I.add k4 (I.of .i64 1)).val.toNat = k4.val.toNat + 1 by omega]
                                exact st.1
                            · have hkd := niff_ltb.1 h
                              have hkd : (I.ofNat .i64 (lenL d4)).val ≤ k4.val := hkd
                              clear h
                              have hz : rd0 d4 k4.val.toNat = I.of .i64 0 := rdL_out _ _ _ (by omega)
                              rw [hz] at st
                              have e : setAt r4 (I.nat k4) (I.of .i64 0) = r4.set k4.val.toNat (I.of .i64 0) := setAt_eq _ _ _
                              refine Wp.again ⟨rfl, rfl, rfl, rfl, rfl, rfl, ?_, ?_, ?_, ?_, ?_⟩ hm4
                              · show (setAt r4 (I.nat k4) (I.of .i64 0)).length = _
                                rw [e, List.length_set]; exact hl4
                              · show Digs (setAt r4 (I.nat k4) (I.of .i64 0))
                                rw [e]; exact st.2
                              · show 0 ≤ (I.add k4 (I.of .i64 1)).val; omega
                              · show (I.add k4 (I.of .i64 1)).val ≤ _; omega
                              · show bv ((setAt r4 (I.nat k4) (I.of .i64 0)).take (I.add k4 (I.of .i64 1)).val.toNat) = bv (d4.take (I.add k4 (I.of .i64 1)).val.toNat)
                                rw [e, show (I.add k4 (I.of .i64 1)).val.toNat = k4.val.toNat + 1 by omega]
                                exact st.1
                          · have hkg := niff_ltb.1 h
                            have hkg : (I.ofNat .i64 (lenL r4)).val ≤ k4.val := hkg
                            clear h
                            have hk : k4.val.toNat = b4.length + 1 := by omega
                            rw [hk, List.take_of_length_le (by omega), List.take_of_length_le hdlen, hdB.val] at hbk
                            have hqi := (rd0_ok hM.qd i4.val.toNat)
                            have hqn := hqi.nat
                            have hq0 := hqi.1
                            have hlow := hM.low
                            have hqlen := hM.ql
                            have hsb := shl_bit bit4 (by omega) hb15
                            have hpw : 2 ^ bit4.val.toNat ≤ 2 ^ 15 := Nat.pow_le_pow_right (by decide) (by omega)
                            have hqb : (rd0 q4 i4.val.toNat).nat + 2 ^ bit4.val.toNat < 65536 := by
                              have e1 : 65536 = 2 ^ (bit4.val.toNat + 1) * 2 ^ (15 - bit4.val.toNat) := by rw [← Nat.pow_add, show bit4.val.toNat + 1 + (15 - bit4.val.toNat) = 16 by omega]
                              have e2 := Nat.div_add_mod (rd0 q4 i4.val.toNat).nat (2 ^ (bit4.val.toNat + 1))
                              rw [hlow, Nat.add_zero] at e2
                              have e3 : (rd0 q4 i4.val.toNat).nat / 2 ^ (bit4.val.toNat + 1) + 1 ≤ 2 ^ (15 - bit4.val.toNat) := by
                                rcases Nat.lt_or_ge ((rd0 q4 i4.val.toNat).nat / 2 ^ (bit4.val.toNat + 1)) (2 ^ (15 - bit4.val.toNat)) with h1 | h1
                                · exact h1
                                · exfalso
                                  have := Nat.mul_le_mul_left (2 ^ (bit4.val.toNat + 1)) h1
                                  omega
                              have e4 := Nat.mul_le_mul_left (2 ^ (bit4.val.toNat + 1)) e3
                              rw [Nat.mul_add, Nat.mul_one, ← e1, e2, Nat.pow_succ] at e4
                              have : 0 < 2 ^ bit4.val.toNat := Nat.pow_pos (by decide)
                              omega
                            have hv : (I.add (rd0 q4 i4.val.toNat) (I.shl (I.of .i64 1) (I.conv .u64 bit4))).val = (rd0 q4 i4.val.toNat).val + ((2 ^ bit4.val.toNat : Nat) : Int) := by rw [add_i64 (by rw [hsb]; omega), hsb]
                            generalize hV : I.add (rd0 q4 i4.val.toNat) (I.shl (I.of .i64 1) (I.conv .u64 bit4)) = v at hv
                            have hvn : v.nat = (rd0 q4 i4.val.toNat).nat + 2 ^ bit4.val.toNat := by unfold I.nat at hqn ⊢; omega
                            have hvd : DigOk v := ⟨by omega, by omega⟩
                            have bi : inB i4 (lenL q4) = true := iff_inB.2 ⟨by omega, by show i4.val < ((q4.length : Nat) : Int); omega⟩
                            have st := mid_both (e := 1) (q' := q4.set i4.val.toNat v) (r' := r4) hM (by omega) (by rw [hbk, hbe]; omega) hd4 (by omega) (by simpa using hqlen) (digs_set hM.qd _ hvd) (fun t ht => by rw [rd0_set_ne _ _ _ _ (by omega)]; exact hM.zero t ht) (by rw [rd0_set_eq _ _ _ (by omega), hvn, Nat.one_mul]) (drop_set_succ _ _ _)
                            refine Wp.done (Wp.brnT bi (Wp.brnT (nn_u64 _) (Wp.brnT bi ?_)))
                            refine Wp.again ⟨rfl, rfl, rfl, ?_, ?_, hl4, ?_⟩ hmb
                            · show -1 ≤ (I.sub bit4 (I.of .i64 1)).val; omega
                            · show (I.sub bit4 (I.of .i64 1)).val ≤ 15; omega
                            · show DivMid a4 (setAt q4 (I.nat i4) (I.add (rd0 q4 i4.val.toNat) (I.shl (I.of .i64 1) (I.conv .u64 bit4)))) r4 n i4.val.toNat ((I.sub bit4 (I.of .i64 1)).val + 1).toNat
                              rw [hV, setAt_eq, esb]
                              exact st
                        · exact ⟨rfl, rfl, rfl, rfl, rfl, rfl, by show s3.length = _; omega, hsd, by show 0 ≤ (I.of .i64 0).val; decide, by show (I.of .i64 0).val ≤ _; omega, rfl⟩
                        · exact K0_ge _ (by show ((b3.length + 1 : Int) - (I.of .i64 0).val).toNat < _; omega)
                    · refine ⟨rfl, rfl, rfl, rfl, rfl, rfl, ?_, ?_, ?_⟩
                      · show 0 ≤ (I.ofNat .i64 (lenL s3)).val; omega
                      · show (I.ofNat .i64 (lenL s3)).val ≤ _; omega
                      · show bv (s3.take (I.ofNat .i64 (lenL s3)).val.toNat) = _
                        rw [hols, Int.toNat_natCast, List.take_length]
                    · refine K0_ge _ ?_
                      show (I.ofNat .i64 (lenL s3)).val.toNat < _
                      omega
              · refine ⟨rfl, rfl, rfl, rfl, rfl, rfl, ?_, ?_, ?_⟩
                · show 0 ≤ (I.ofNat .i64 (lenL s)).val; omega
                · show (I.ofNat .i64 (lenL s)).val ≤ _; omega
                · show bv (s.take (I.ofNat .i64 (lenL s)).val.toNat) = _
                  rw [hols, Int.toNat_natCast, List.take_length]
              · refine K0_ge _ ?_
                show (I.ofNat .i64 (lenL s)).val.toNat < _
                omega
          · refine ⟨rfl, rfl, rfl, rfl, rfl, ?_, by show 0 ≤ (I.of .i64 0).val; decide, by show (I.of .i64 0).val ≤ (r.length : Int); omega, ?_⟩
            · show 0 ≤ (I.and (I.shr (rd0 a1 i1.val.toNat) (I.conv .u64 bit)) (I.of .i64 1)).val
              rw [hbv]; omega
            · show DblInv r bv0 (I.nat (I.and (I.shr (rd0 a1 i1.val.toNat) (I.conv .u64 bit)) (I.of .i64 1))) (I.of .i64 0).val.toNat r
              have e : I.nat (I.and (I.shr (rd0 a1 i1.val.toNat) (I.conv .u64 bit)) (I.of .i64 1)) = bv0 := by
                show (I.and (I.shr (rd0 a1 i1.val.toNat) (I.conv .u64 bit)) (I.of .i64 1)).val.toNat = _
                rw [hbv, Int.toNat_natCast]
              rw [e]
              refine ⟨rfl, hM.rd, rfl, hbv1, ?_⟩
              have e0 : (I.of .i64 0).val.toNat = 0 := rfl
              rw [e0]
              simp [bv]
          · exact K0_ge _ (by show ((r.length : Int) - (I.of .i64 0).val).toNat < _; omega)
        · have hbz := niff_leb.1 h
          have hbz : bit.val < (I.of .i64 0).val := hbz
          clear h
          have e0 : (bit.val + 1).toNat = 0 := by omega
          rw [e0] at hM
          refine Wp.done (Wp.again ⟨rfl, rfl, ?_, ?_, hrl, ?_⟩ hmi)
          · show -1 ≤ (I.sub i1 (I.of .i64 1)).val; omega
          · show (I.sub i1 (I.of .i64 1)).val < _; omega
          · show DivOut a1 q r n ((I.sub i1 (I.of .i64 1)).val + 1).toNat
            rw [show ((I.sub i1 (I.of .i64 1)).val + 1).toNat = i1.val.toNat by omega]
            exact mid_end hM
      · have hz := niff_leb.1 h
        have hz : i.val < (I.of .i64 0).val := hz
        clear h
        have e0 : (i.val + 1).toNat = 0 := by omega
        rw [e0] at hI
        have heq := hI.eq
        have hlt := hI.lt
        have hqd := hI.qd
        have hrd := hI.rd
        have hql := hI.ql
        simp only [List.drop_zero] at heq
        rw [ha.val] at heq
        have hQ : bv q0 = m / n := by rw [heq, Nat.mul_comm, Nat.mul_add_div (by omega), Nat.div_eq_of_lt hlt, Nat.add_zero]
        have hR : bv r0 = m % n := by rw [heq, Nat.mul_comm, Nat.mul_add_mod, Nat.mod_eq_of_lt hlt]
        have holq : (I.ofNat .i64 (lenL q0)).val = q0.length := ofNat_i64 (by show q0.length < _; omega)
        have holr0 : (I.ofNat .i64 (lenL r0)).val = r0.length := ofNat_i64 (by show r0.length < _; omega)
        have hq2 : q0.length ≤ 1073741824 := by omega
        have hr2 : r0.length ≤ 1073741824 := by omega
        clear heq hI hrl hlt
        refine Wp.done ?_
        refine Wp.iter (fun x => x.2.1 = q0 ∧ x.2.2.1 = r0 ∧ 0 ≤ x.1.1.val ∧ x.1.1.val ≤ (q0.length : Int) ∧ bv (q0.take x.1.1.val.toNat) = bv q0) (fun x => x.1.1.val.toNat) ?_ ?_ ?_
        · rintro ⟨⟨j, ⟨⟩⟩, q1, r1, ⟨⟩⟩ ⟨k0, k1, hj0, hj1, hbt⟩
          simp only at k0 k1 hj0 hj1 hbt
          subst k0 k1
          refine Wp.brn (fun h => ?_) (fun h => ?_)
          · have hjp := iff_ltb.1 h
            have hjp : (I.of .i64 0).val < j.val := hjp
            clear h
            obtain ⟨sj, bj, z1, z2⟩ := cut_dig (l := q1) (j := j) hqd hjp hj1 hq2 hbt
            refine Wp.brnT bj (Wp.brn (fun h2 => ?_) (fun h2 => ?_))
            · refine Wp.again ⟨rfl, rfl, ?_, ?_, z1 h2⟩ ?_
              · show 0 ≤ (I.sub j (I.of .i64 1)).val; omega
              · show (I.sub j (I.of .i64 1)).val ≤ _; omega
              · show (I.sub j (I.of .i64 1)).val.toNat < j.val.toNat
                omega
            · have hB := z2 h2
              clear z1 z2 h2 bj sj
              refine Wp.done (Wp.brnT (cut_ok hj0 hj1) ?_)
              have hQB := hB
              clear hB
              generalize subL q1 0 (I.nat j) = ql2 at hQB
              clear hbt hj0 hj1
              refine Wp.iter (fun x => x.1.2.1 = ql2 ∧ x.2.1 = r1 ∧ 0 ≤ x.1.1.val ∧ x.1.1.val ≤ (r1.length : Int) ∧ bv (r1.take x.1.1.val.toNat) = bv r1) (fun x => x.1.1.val.toNat) ?_ ?_ ?_
              · rintro ⟨⟨j, ql2, ⟨⟩⟩, r1, ⟨⟩⟩ ⟨k0, k1, hj0, hj1, hbt⟩
                simp only at k0 k1 hj0 hj1 hbt
                subst k0 k1
                refine Wp.brn (fun h => ?_) (fun h => ?_)
                · have hjp := iff_ltb.1 h
                  have hjp : (I.of .i64 0).val < j.val := hjp
                  clear h
                  obtain ⟨sj, bj, z1, z2⟩ := cut_dig (l := r1) (j := j) hrd hjp hj1 hr2 hbt
                  refine Wp.brnT bj (Wp.brn (fun h2 => ?_) (fun h2 => ?_))
                  · refine Wp.again ⟨rfl, rfl, ?_, ?_, z1 h2⟩ ?_
                    · show 0 ≤ (I.sub j (I.of .i64 1)).val; omega
                    · show (I.sub j (I.of .i64 1)).val ≤ _; omega
                    · show (I.sub j (I.of .i64 1)).val.toNat < j.val.toNat
                      omega
                  · have hB := z2 h2
                    clear z1 z2 h2 bj sj
                    refine Wp.done (Wp.brnT (cut_ok hj0 hj1) ?_)
                    refine ⟨_, _, rfl, ?_, ?_⟩
                    · show IsB ql2 (m / n)
                      rw [← hQ]; exact hQB
                    · show IsB (subL r1 0 (I.nat j)) (m % n)
                      rw [← hR]; exact hB
                · have hjz := niff_ltb.1 h
                  have hjz : j.val ≤ (I.of .i64 0).val := hjz
                  clear h
                  have hB := cut_zero (l := r1) (j := j) hj0 (by omega) hbt
                  refine Wp.done (Wp.brnT (cut_ok hj0 hj1) ?_)
                  refine ⟨_, _, rfl, ?_, ?_⟩
                  · show IsB ql2 (m / n)
                    rw [← hQ]; exact hQB
                  · show IsB (subL r1 0 (I.nat j)) (m % n)
                    rw [← hR]; exact hB
              · refine ⟨rfl, rfl, ?_, ?_, ?_⟩
                · show 0 ≤ (I.ofNat .i64 (lenL r1)).val; omega
                · show (I.ofNat .i64 (lenL r1)).val ≤ _; omega
                · show bv (r1.take (I.ofNat .i64 (lenL r1)).val.toNat) = _
                  rw [holr0, Int.toNat_natCast, List.take_length]
              · refine K0_ge _ ?_
                show (I.ofNat .i64 (lenL r1)).val.toNat < _
                omega
          · have hjz := niff_ltb.1 h
            have hjz : j.val ≤ (I.of .i64 0).val := hjz
            clear h
            have hB := cut_zero (l := q1) (j := j) hj0 (by omega) hbt
            refine Wp.done (Wp.brnT (cut_ok hj0 hj1) ?_)
            have hQB := hB
            clear hB
            generalize subL q1 0 (I.nat j) = ql2 at hQB
            clear hbt hj0 hj1
            refine Wp.iter (fun x => x.1.2.1 = ql2 ∧ x.2.1 = r1 ∧ 0 ≤ x.1.1.val ∧ x.1.1.val ≤ (r1.length : Int) ∧ bv (r1.take x.1.1.val.toNat) = bv r1) (fun x => x.1.1.val.toNat) ?_ ?_ ?_
            · rintro ⟨⟨j, ql2, ⟨⟩⟩, r1, ⟨⟩⟩ ⟨k0, k1, hj0, hj1, hbt⟩
              simp only at k0 k1 hj0 hj1 hbt
              subst k0 k1
              refine Wp.brn (fun h => ?_) (fun h => ?_)
              · have hjp := iff_ltb.1 h
                have hjp : (I.of .i64 0).val < j.val := hjp
                clear h
                obtain ⟨sj, bj, z1, z2⟩ := cut_dig (l := r1) (j := j) hrd hjp hj1 hr2 hbt
                refine Wp.brnT bj (Wp.brn (fun h2 => ?_) (fun h2 => ?_))
                · refine Wp.again ⟨rfl, rfl, ?_, ?_, z1 h2⟩ ?_
                  · show 0 ≤ (I.sub j (I.of .i64 1)).val; omega
                  · show (I.sub j (I.of .i64 1)).val ≤ _; omega
                  · show (I.sub j (I.of .i64 1)).val.toNat < j.val.toNat
                    omega
                · have hB := z2 h2
                  clear z1 z2 h2 bj sj
                  refine Wp.done (Wp.brnT (cut_ok hj0 hj1) ?_)
                  refine ⟨_, _, rfl, ?_, ?_⟩
                  · show IsB ql2 (m / n)
                    rw [← hQ]; exact hQB
                  · show IsB (subL r1 0 (I.nat j)) (m % n)
                    rw [← hR]; exact hB
              · have hjz := niff_ltb.1 h
                have hjz : j.val ≤ (I.of .i64 0).val := hjz
                clear h
                have hB := cut_zero (l := r1) (j := j) hj0 (by omega) hbt
                refine Wp.done (Wp.brnT (cut_ok hj0 hj1) ?_)
                refine ⟨_, _, rfl, ?_, ?_⟩
                · show IsB ql2 (m / n)
                  rw [← hQ]; exact hQB
                · show IsB (subL r1 0 (I.nat j)) (m % n)
                  rw [← hR]; exact hB
            · refine ⟨rfl, rfl, ?_, ?_, ?_⟩
              · show 0 ≤ (I.ofNat .i64 (lenL r1)).val; omega
              · show (I.ofNat .i64 (lenL r1)).val ≤ _; omega
              · show bv (r1.take (I.ofNat .i64 (lenL r1)).val.toNat) = _
                rw [holr0, Int.toNat_natCast, List.take_length]
            · refine K0_ge _ ?_
              show (I.ofNat .i64 (lenL r1)).val.toNat < _
              omega
        · refine ⟨rfl, rfl, ?_, ?_, ?_⟩
          · show 0 ≤ (I.ofNat .i64 (lenL q0)).val; omega
          · show (I.ofNat .i64 (lenL q0)).val ≤ _; omega
          · show bv (q0.take (I.ofNat .i64 (lenL q0)).val.toNat) = _
            rw [holq, Int.toNat_natCast, List.take_length]
        · refine K0_ge _ ?_
          show (I.ofNat .i64 (lenL q0)).val.toNat < _
          omega
    · have hsub1 : (I.sub (I.ofNat .i64 (lenL a)) (I.of .i64 1)).val = a.length - 1 := by rw [sub_i64 (by omega)]; omega
      refine ⟨rfl, rfl, ?_, ?_, ?_, ?_⟩
      · show -1 ≤ (I.sub (I.ofNat .i64 (lenL a)) (I.of .i64 1)).val; omega
      · show (I.sub (I.ofNat .i64 (lenL a)) (I.of .i64 1)).val < _; omega
      · show (repL (I.nat (I.add (I.ofNat .i64 (lenL b)) (I.of .i64 1))) (I.of .i64 0)).length = _
        rw [repL_length, hbn]
      · show DivOut a (repL (I.nat (I.ofNat .i64 (lenL a))) (I.of .i64 0)) (repL (I.nat (I.add (I.ofNat .i64 (lenL b)) (I.of .i64 1))) (I.of .i64 0)) n ((I.sub (I.ofNat .i64 (lenL a)) (I.of .i64 1)).val + 1).toNat
        rw [hsub1, hn, show ((a.length : Int) - 1 + 1).toNat = a.length by omega]
        refine ⟨repL_length _ _, repL_digs _, repL_digs _, by rw [bv_repL]; omega, fun s _ => rd0_repL _ _, ?_⟩
        rw [List.drop_of_length_le (Nat.le_refl _), List.drop_of_length_le (by rw [repL_length]; omega), bv_repL]
        simp [bv]
    · have hsub1 : (I.sub (I.ofNat .i64 (lenL a)) (I.of .i64 1)).val = a.length - 1 := by rw [sub_i64 (by omega)]; omega
      exact K0_ge _ (by show ((I.sub (I.ofNat .i64 (lenL a)) (I.of .i64 1)).val + 1).toNat < _; omega)
  exact key.out
end Sym

/- Signed numbers: the law of quotients. -/
namespace Sym
open Go

theorem RDiv_ok {s : SB} {z : Int} {l : List Dg} {d : Nat} (hs : IsSB s z) (hl : IsB l d) (hd : d ≠ 0) (hz : Bd z.natAbs) (hdl : l.length ≤ 900000) : ∃ r : SB, pontageref3_DivFloor ((s, l, ()), ()) = some ((r, ()), ()) ∧ IsSB r (z / (d : Int)) := by
  have key : Wp (fun o => ∃ r : SB, o = some ((r, ()), ()) ∧ IsSB r (z / (d : Int))) (pontageref3_DivFloor ((s, l, ()), ())) := by
    unfold pontageref3_DivFloor
    obtain ⟨q, r, hqr, hQ, hR⟩ : ∃ (q r : List Dg), pontageref1_Div ((s.2.1, l, ()), ()) = some ((q, r, ()), ()) ∧ IsB q (z.natAbs / d) ∧ IsB r (z.natAbs % d) := BDiv_ok hs.abs hl hd (Bd.len hs.abs hz) hdl
    have hqb : Bd (z.natAbs / d) := Nat.lt_of_le_of_lt (Nat.div_le_self _ _) hz
    have hqb1 : z.natAbs / d + 1 < 65536 ^ 65 := by
      have h1 : z.natAbs / d < 65536 ^ 64 := hqb
      have h2 : 65536 ^ 64 < 65536 ^ 65 := by decide
      omega
    have hrb : Bd (z.natAbs % d) := Nat.lt_of_le_of_lt (Nat.mod_le _ _) hz
    have hql := Bd.len hQ hqb
    have hrl := Bd.len hR hrb
    have hol : (I.ofNat .i64 (lenL r)).val = r.length := ofNat_i64 (by show r.length < _; omega)
    have c0 : (I.of .i64 0).val = 0 := rfl
    have hrp := len_pos hR
    have hbit : I.ltb (I.of .i64 0) (I.ofNat .i64 (lenL r)) = decide (z.natAbs % d ≠ 0) := by
      unfold I.ltb
      rw [c0, hol]
      have : ((0 : Int) < (r.length : Int)) ↔ z.natAbs % d ≠ 0 := by omega
      simp only [this]
    refine Wp.optF hqr ?_
    refine Wp.jn (fun x => x.1.1 = q ∧ x.1.2.1 = (s.1 && decide (z.natAbs % d ≠ 0)) ∧ x.2.1.1 = s.1) ?_ ?_
    · rintro ⟨⟨q', b, ⟨⟩⟩, ⟨n, l', ⟨⟩⟩, r', ⟨⟩⟩ ⟨e1, e2, e3⟩
      simp only at e1 e2 e3
      subst e1 e2
      have hneg := hs.neg
      by_cases hz0 : z < 0
      · have hn : n = true := by rw [e3, hneg]; exact decide_eq_true hz0
        have hdiv : z / (d : Int) = if z.natAbs % d = 0 then -((z.natAbs / d : Nat) : Int) else -((z.natAbs / d + 1 : Nat) : Int) := by
          have h1 := neg_div z.natAbs d (by omega)
          have h2 : -(z.natAbs : Int) = z := by omega
          rw [h2] at h1
          exact h1
        by_cases hm : z.natAbs % d = 0
        · rw [if_pos hm] at hdiv
          refine Wp.brnF (by show (s.1 && decide (z.natAbs % d ≠ 0)) = false; simp [hm]) ?_
          obtain ⟨t, ht, hT⟩ := sign_ok n hQ hql
          refine Wp.optF ht ⟨t, rfl, ?_⟩
          rw [hdiv]
          subst hn
          exact hT
        · rw [if_neg hm] at hdiv
          refine Wp.brnT (by show (s.1 && decide (z.natAbs % d ≠ 0)) = true; rw [hneg, decide_eq_true hz0]; simp [hm]) ?_
          obtain ⟨o, ho, hO⟩ := FromUint64_ok (I.of .u64 1)
          refine Wp.optF ho ?_
          have h1 : (I.of .u64 1).nat = 1 := rfl
          rw [h1] at hO
          obtain ⟨q2, hq2, hQ2⟩ := Add_ok hQ hO hql (Bd.len hO (by unfold Bd; decide))
          refine Wp.optF hq2 ?_
          obtain ⟨t, ht, hT⟩ := sign_ok n hQ2 (len_small' hQ2 65 hqb1 (by decide))
          refine Wp.optF ht ⟨t, rfl, ?_⟩
          rw [hdiv]
          subst hn
          exact hT
      · have hn : n = false := by rw [e3, hneg]; exact decide_eq_false hz0
        refine Wp.brnF (by show (s.1 && decide (z.natAbs % d ≠ 0)) = false; rw [hneg, decide_eq_false hz0]; rfl) ?_
        obtain ⟨t, ht, hT⟩ := sign_ok n hQ hql
        refine Wp.optF ht ⟨t, rfl, ?_⟩
        have h2 : z / (d : Int) = ((z.natAbs / d : Nat) : Int) := by
          rw [Int.natCast_ediv]
          congr 1
          omega
        rw [h2]
        subst hn
        exact hT
    · intro j hj
      cases hs1 : s.1 with
      | false => exact Wp.brnF rfl (hj _ ⟨rfl, by rw [hs1]; rfl, rfl⟩)
      | true => exact Wp.brnT rfl (hj _ ⟨rfl, by rw [hs1]; exact hbit, rfl⟩)
  exact key.out

theorem top_pow2 : U.top = 65536 ^ 16 := by decide

theorem RDiv256_eq (x : S) (d : U) : pontageref3_DivFloor256 ((x, d, ()), ()) = some (((divFS x d).1, (divFS x d).2, ()), ()) := by
  refine Wp.out (T := fun o => o = some (((divFS x d).1, (divFS x d).2, ()), ())) ?_
  unfold pontageref3_DivFloor256 divFS
  refine Wp.optF (RValid_eq x) ?_
  cases h1 : validB x with
  | false => exact Wp.brnT rfl rfl
  | true =>
    refine Wp.brnF rfl (Wp.optF (IsZero_eq d) ?_)
    rw [if_pos rfl]
    by_cases hd : d.val = 0
    · rw [if_pos hd]
      exact Wp.brnT (by show decide (d.val = 0) = true; exact decide_eq_true hd) rfl
    · rw [if_neg hd]
      refine Wp.brnF (by show decide (d.val = 0) = false; exact decide_eq_false hd) ?_
      obtain ⟨s, hs, hS⟩ := FromInt_ok x
      refine Wp.optF hs ?_
      obtain ⟨l, hl, hL⟩ : ∃ l : List Dg, pontageref1_FromUint256 ((d, ()), ()) = some ((l, ()), ()) ∧ IsB l d.val := FromUint256_ok d
      refine Wp.optF hl ?_
      have hx := S.lt x
      have hll : l.length ≤ 16 := hL.len.2 (by rw [← top_pow2]; exact d.lt)
      obtain ⟨r, hr, hR⟩ := RDiv_ok hS hL hd (Bd.of_top hx) (by omega)
      refine Wp.optF hr ?_
      have hq := floor_abs x.int d.val hd
      refine Wp.optF (RChecked_ok hR (Bd.of_top (by omega))) ?_
      rw [resS_lt (by omega)]
      rfl

theorem div_law (x : S) (d : U) (c : I .u64) : pontagelaw3_Int256DivFloor ((x, d, c, ()), ()) = some ((true, ()), ()) := by
  refine Wp.out (T := fun o => o = some ((true, ()), ())) ?_
  unfold pontagelaw3_Int256DivFloor
  refine Wp.optF (DivFloor_eq x d) (Wp.optF (RDiv256_eq x d) (Wp.optF (DivFloor_eq x (u64U c)) (Wp.optF (RDiv256_eq x (u64U c)) ?_)))
  refine Wp.brnT (eqbS_self _) (Wp.brnT (ieqb _) (Wp.brnT (eqbS_self _) (Wp.brnT (ieqb _) ?_)))
  exact Wp.optF awake3 rfl
end Sym

/- The given functions as plain functions, as the printer told them. -/
namespace Sym
open Go

/-- pontage/params.Genesis -/
noncomputable def params_Genesis (x : (⟨[], []⟩ : Tm).D) : Option (⟨[.pl (.cons (.int .u64) (.cons (.int .u64) (.cons (.int .u64) (.cons (.arr 4 (.int .u64)) (.cons (.int .u64) (.cons (.arr 4 (.int .u64)) (.cons (.int .u64) (.cons (.arr 4 (.int .u64)) (.cons (.int .u64) (.cons (.int .u64) (.cons (.int .u64) (.cons (.int .u64) .nil))))))))))))], []⟩ : Tm).D :=
 optF (none) (uint256_FromUint64 (((I.of .u64 100000000), ()), ())) fun y0 =>
 optF (none) (uint256_FromUint64 (((I.of .u64 60000000), ()), ())) fun y1 =>
 optF (none) (uint256_FromUint64 (((I.of .u64 10), ()), ())) fun y2 =>
 some ((((I.of .u64 7000000), ((I.of .u64 10), ((I.of .u64 102), (y0.1.1, ((I.of .u64 32000000), (y1.1.1, ((I.of .u64 1000), (y2.1.1, ((I.of .u64 160000000), ((I.of .u64 10), ((I.of .u64 16), ((I.of .u64 65536), ())))))))))))), ()), ())

/-- pontage/pontagelaw14.ValidParams -/
noncomputable def pontagelaw14_ValidParams (x : (⟨[.pl (.arr 8 (.int .u64))], []⟩ : Tm).D) : Option (⟨[.pl (.cons (.int .u64) (.cons (.int .u64) (.cons (.int .u64) (.cons (.arr 4 (.int .u64)) (.cons (.int .u64) (.cons (.arr 4 (.int .u64)) (.cons (.int .u64) (.cons (.arr 4 (.int .u64)) (.cons (.int .u64) (.cons (.int .u64) (.cons (.int .u64) (.cons (.int .u64) .nil))))))))))))], []⟩ : Tm).D :=
 let a : (I .u64) × (I .u64) × (I .u64) × (I .u64) × (I .u64) × (I .u64) × (I .u64) × (I .u64) × Unit := x.1.1
 optF (none) (params_Genesis ((), ())) fun y0 =>
 brn (@I.nn .u64 (@I.add .u64 (I.of .u64 1) (@I.rem .u64 a.1 (I.of .u64 40))))
  (brn (@I.nz .u64 (@I.shl .u64 .u64 (I.of .u64 1) (@I.add .u64 (I.of .u64 1) (@I.rem .u64 a.1 (I.of .u64 40)))))
   (brn (@I.nn .u64 (@I.add .u64 (I.of .u64 1) (@I.rem .u64 a.2.2.2.1 (I.of .u64 60))))
    (brn (@I.nz .u64 (@I.shl .u64 .u64 (I.of .u64 1) (@I.add .u64 (I.of .u64 1) (@I.rem .u64 a.2.2.2.1 (I.of .u64 60)))))
     (brn (@I.nn .u64 (@I.add .u64 (I.of .u64 10) (@I.rem .u64 a.2.2.2.2.1 (I.of .u64 30))))
      (brn (@I.nz .u64 (@I.shl .u64 .u64 (I.of .u64 1) (@I.add .u64 (I.of .u64 10) (@I.rem .u64 a.2.2.2.2.1 (I.of .u64 30)))))
       (brn (@I.nn .u64 (@I.add .u64 (I.of .u64 1) (@I.rem .u64 a.2.2.2.2.2.1 (I.of .u64 60))))
        (brn (@I.nz .u64 (@I.shl .u64 .u64 (I.of .u64 1) (@I.add .u64 (I.of .u64 1) (@I.rem .u64 a.2.2.2.2.2.1 (I.of .u64 60)))))
         (brn (@I.nn .u64 (@I.add .u64 (I.of .u64 1) (@I.rem .u64 a.2.2.2.2.2.2.2.1 (I.of .u64 40))))
          (brn (@I.nz .u64 (@I.shl .u64 .u64 (I.of .u64 1) (@I.add .u64 (I.of .u64 1) (@I.rem .u64 a.2.2.2.2.2.2.2.1 (I.of .u64 40)))))
           (some ((((@I.add .u64 (I.of .u64 1) (@I.rem .u64 a.1 (@I.shl .u64 .u64 (I.of .u64 1) (@I.add .u64 (I.of .u64 1) (@I.rem .u64 a.1 (I.of .u64 40)))))), ((@I.rem .u64 a.2.1 (I.of .u64 40)), ((@I.add .u64 (I.of .u64 1) (@I.rem .u64 a.2.2.1 (I.of .u64 300))), (((@I.add .u64 (I.of .u64 1) (@I.rem .u64 a.2.2.2.1 (@I.shl .u64 .u64 (I.of .u64 1) (@I.add .u64 (I.of .u64 1) (@I.rem .u64 a.2.2.2.1 (I.of .u64 60)))))), ((I.of .u64 0), ((I.of .u64 0), ((I.of .u64 0), ())))), ((@I.add .u64 (I.of .u64 1) (@I.rem .u64 a.2.2.2.2.1 (@I.shl .u64 .u64 (I.of .u64 1) (@I.add .u64 (I.of .u64 10) (@I.rem .u64 a.2.2.2.2.1 (I.of .u64 30)))))), (((@I.rem .u64 a.2.2.2.2.2.1 (@I.shl .u64 .u64 (I.of .u64 1) (@I.add .u64 (I.of .u64 1) (@I.rem .u64 a.2.2.2.2.2.1 (I.of .u64 60))))), ((I.of .u64 0), ((I.of .u64 0), ((I.of .u64 0), ())))), ((@I.rem .u64 a.2.2.2.2.2.2.1 (I.of .u64 10001)), (((@I.rem .u64 a.2.2.2.2.2.2.1 (I.of .u64 5000)), ((I.of .u64 0), ((I.of .u64 0), ((I.of .u64 0), ())))), ((@I.add .u64 (I.of .u64 1) (@I.rem .u64 a.2.2.2.2.2.2.2.1 (@I.shl .u64 .u64 (I.of .u64 1) (@I.add .u64 (I.of .u64 1) (@I.rem .u64 a.2.2.2.2.2.2.2.1 (I.of .u64 40)))))), ((@I.add .u64 (I.of .u64 1) (@I.rem .u64 (@I.quo .u64 a.2.2.2.2.2.2.2.1 (I.of .u64 7)) (I.of .u64 100))), y0.1.1.2.2.2.2.2.2.2.2.2.2)))))))))), ()), ()))
           (none))
          (none))
         (none))
        (none))
       (none))
      (none))
     (none))
    (none))
   (none))
  (none)

/-- pontage/params.Get -/
noncomputable def params_Get (x : (⟨[.pl (.cons (.int .u64) (.cons (.int .u64) (.cons (.int .u64) (.cons (.arr 4 (.int .u64)) (.cons (.int .u64) (.cons (.arr 4 (.int .u64)) (.cons (.int .u64) (.cons (.arr 4 (.int .u64)) (.cons (.int .u64) (.cons (.int .u64) (.cons (.int .u64) (.cons (.int .u64) .nil)))))))))))), .pl (.int .i64)], []⟩ : Tm).D) : Option (⟨[.pl (.arr 4 (.int .u64)), .pl (.int .i64)], []⟩ : Tm).D :=
 let a : (I .u64) × (I .u64) × (I .u64) × ((I .u64) × (I .u64) × (I .u64) × (I .u64) × Unit) × (I .u64) × ((I .u64) × (I .u64) × (I .u64) × (I .u64) × Unit) × (I .u64) × ((I .u64) × (I .u64) × (I .u64) × (I .u64) × Unit) × (I .u64) × (I .u64) × (I .u64) × (I .u64) × Unit := x.1.1
 let b : I .i64 := x.1.2.1
 brn (@I.eqb .i64 b (I.of .i64 4))
  (some ((a.2.2.2.1, ((I.of .i64 0), ())), ()))
  (brn (@I.eqb .i64 b (I.of .i64 6))
   (some ((a.2.2.2.2.2.1, ((I.of .i64 0), ())), ()))
   (brn (@I.eqb .i64 b (I.of .i64 8))
    (some ((a.2.2.2.2.2.2.2.1, ((I.of .i64 0), ())), ()))
    (brn (@I.eqb .i64 b (I.of .i64 1))
     (optF (none) (uint256_FromUint64 ((a.1, ()), ())) fun y0 =>
     some ((y0.1.1, ((I.of .i64 0), ())), ()))
     (brn (@I.eqb .i64 b (I.of .i64 2))
      (optF (none) (uint256_FromUint64 ((a.2.1, ()), ())) fun y0 =>
      some ((y0.1.1, ((I.of .i64 0), ())), ()))
      (brn (@I.eqb .i64 b (I.of .i64 3))
       (optF (none) (uint256_FromUint64 ((a.2.2.1, ()), ())) fun y0 =>
       some ((y0.1.1, ((I.of .i64 0), ())), ()))
       (brn (@I.eqb .i64 b (I.of .i64 5))
        (optF (none) (uint256_FromUint64 ((a.2.2.2.2.1, ()), ())) fun y0 =>
        some ((y0.1.1, ((I.of .i64 0), ())), ()))
        (brn (@I.eqb .i64 b (I.of .i64 7))
         (optF (none) (uint256_FromUint64 ((a.2.2.2.2.2.2.1, ()), ())) fun y0 =>
         some ((y0.1.1, ((I.of .i64 0), ())), ()))
         (brn (@I.eqb .i64 b (I.of .i64 9))
          (optF (none) (uint256_FromUint64 ((a.2.2.2.2.2.2.2.2.1, ()), ())) fun y0 =>
          some ((y0.1.1, ((I.of .i64 0), ())), ()))
          (brn (@I.eqb .i64 b (I.of .i64 10))
           (optF (none) (uint256_FromUint64 ((a.2.2.2.2.2.2.2.2.2.1, ()), ())) fun y0 =>
           some ((y0.1.1, ((I.of .i64 0), ())), ()))
           (brn (@I.eqb .i64 b (I.of .i64 11))
            (optF (none) (uint256_FromUint64 ((a.2.2.2.2.2.2.2.2.2.2.1, ()), ())) fun y0 =>
            some ((y0.1.1, ((I.of .i64 0), ())), ()))
            (brn (@I.eqb .i64 b (I.of .i64 12))
             (optF (none) (uint256_FromUint64 ((a.2.2.2.2.2.2.2.2.2.2.2.1, ()), ())) fun y0 =>
             some ((y0.1.1, ((I.of .i64 0), ())), ()))
             (some ((((I.of .u64 0), ((I.of .u64 0), ((I.of .u64 0), ((I.of .u64 0), ())))), ((I.of .i64 17), ())), ())))))))))))))

/-- pontage/params.bounds -/
noncomputable def params_bounds (x : (⟨[.pl (.cons (.int .u64) (.cons (.int .u64) (.cons (.int .u64) (.cons (.arr 4 (.int .u64)) (.cons (.int .u64) (.cons (.arr 4 (.int .u64)) (.cons (.int .u64) (.cons (.arr 4 (.int .u64)) (.cons (.int .u64) (.cons (.int .u64) (.cons (.int .u64) (.cons (.int .u64) .nil)))))))))))), .pl (.int .i64)], []⟩ : Tm).D) : Option (⟨[.pl (.int .u64), .pl (.int .u64)], []⟩ : Tm).D :=
 let a : (I .u64) × (I .u64) × (I .u64) × ((I .u64) × (I .u64) × (I .u64) × (I .u64) × Unit) × (I .u64) × ((I .u64) × (I .u64) × (I .u64) × (I .u64) × Unit) × (I .u64) × ((I .u64) × (I .u64) × (I .u64) × (I .u64) × Unit) × (I .u64) × (I .u64) × (I .u64) × (I .u64) × Unit := x.1.1
 let b : I .i64 := x.1.2.1
 jn (fun (x0 : (((I .i64) × (Bool × Unit)) × (((I .u64) × ((I .u64) × ((I .u64) × (((I .u64) × ((I .u64) × ((I .u64) × ((I .u64) × Unit)))) × ((I .u64) × (((I .u64) × ((I .u64) × ((I .u64) × ((I .u64) × Unit)))) × ((I .u64) × (((I .u64) × ((I .u64) × ((I .u64) × ((I .u64) × Unit)))) × ((I .u64) × ((I .u64) × ((I .u64) × ((I .u64) × Unit)))))))))))) × Unit))) =>
   brn x0.1.2.1
    (some (((I.of .u64 1), ((I.of .u64 1099511627776), ())), ()))
    (jn (fun (x1 : (((I .i64) × (Bool × Unit)) × (((I .u64) × ((I .u64) × ((I .u64) × (((I .u64) × ((I .u64) × ((I .u64) × ((I .u64) × Unit)))) × ((I .u64) × (((I .u64) × ((I .u64) × ((I .u64) × ((I .u64) × Unit)))) × ((I .u64) × (((I .u64) × ((I .u64) × ((I .u64) × ((I .u64) × Unit)))) × ((I .u64) × ((I .u64) × ((I .u64) × ((I .u64) × Unit)))))))))))) × Unit))) =>
      brn x1.1.2.1
       (some (((I.of .u64 0), ((I.of .u64 1048576), ())), ()))
       (jn (fun (x2 : (((I .i64) × (Bool × Unit)) × (((I .u64) × ((I .u64) × ((I .u64) × (((I .u64) × ((I .u64) × ((I .u64) × ((I .u64) × Unit)))) × ((I .u64) × (((I .u64) × ((I .u64) × ((I .u64) × ((I .u64) × Unit)))) × ((I .u64) × (((I .u64) × ((I .u64) × ((I .u64) × ((I .u64) × Unit)))) × ((I .u64) × ((I .u64) × ((I .u64) × ((I .u64) × Unit)))))))))))) × Unit))) =>
         brn x2.1.2.1
          (some (((I.of .u64 1), ((I.of .u64 1048576), ())), ()))
          (brn (@I.eqb .i64 x2.1.1 (I.of .i64 4))
           (some (((I.of .u64 1), ((I.of .u64 18446744073709551615), ())), ()))
           (brn (@I.eqb .i64 x2.1.1 (I.of .i64 7))
            (some (((I.of .u64 0), ((I.of .u64 10000), ())), ()))
            (brn (@I.eqb .i64 x2.1.1 (I.of .i64 12))
             (some ((x2.2.1.2.2.2.2.2.2.2.2.2.2.1, ((I.of .u64 16777216), ())), ()))
             (some (((I.of .u64 0), ((I.of .u64 18446744073709551615), ())), ())))))) fun j2 =>
       brn (@I.eqb .i64 x1.1.1 (I.of .i64 3))
        (j2 ((x1.1.1, ((@I.eqb .i64 x1.1.1 (I.of .i64 3)), ())), (x1.2.1, ())))
        (j2 ((x1.1.1, ((@I.eqb .i64 x1.1.1 (I.of .i64 10)), ())), (x1.2.1, ()))))) fun j1 =>
    brn (@I.eqb .i64 x0.1.1 (I.of .i64 2))
     (j1 ((x0.1.1, ((@I.eqb .i64 x0.1.1 (I.of .i64 2)), ())), (x0.2.1, ())))
     (j1 ((x0.1.1, ((@I.eqb .i64 x0.1.1 (I.of .i64 11)), ())), (x0.2.1, ()))))) fun j0 =>
 brn (@I.eqb .i64 b (I.of .i64 1))
  (j0 ((b, ((@I.eqb .i64 b (I.of .i64 1)), ())), (a, ())))
  (brn (@I.eqb .i64 b (I.of .i64 5))
   (j0 ((b, ((@I.eqb .i64 b (I.of .i64 5)), ())), (a, ())))
   (j0 ((b, ((@I.eqb .i64 b (I.of .i64 9)), ())), (a, ()))))

/-- pontage/params.FirstInvalid -/
noncomputable def params_FirstInvalid (x : (⟨[.pl (.cons (.int .u64) (.cons (.int .u64) (.cons (.int .u64) (.cons (.arr 4 (.int .u64)) (.cons (.int .u64) (.cons (.arr 4 (.int .u64)) (.cons (.int .u64) (.cons (.arr 4 (.int .u64)) (.cons (.int .u64) (.cons (.int .u64) (.cons (.int .u64) (.cons (.int .u64) .nil))))))))))))], []⟩ : Tm).D) : Option (⟨[.pl (.int .i64)], []⟩ : Tm).D :=
 let a : (I .u64) × (I .u64) × (I .u64) × ((I .u64) × (I .u64) × (I .u64) × (I .u64) × Unit) × (I .u64) × ((I .u64) × (I .u64) × (I .u64) × (I .u64) × Unit) × (I .u64) × ((I .u64) × (I .u64) × (I .u64) × (I .u64) × Unit) × (I .u64) × (I .u64) × (I .u64) × (I .u64) × Unit := x.1.1
 iter (none) (fun x0 =>
   brn (@I.leb .i64 x0.1.1 (I.of .i64 12))
    (optF (.done (none)) (params_Get ((x0.2.1, (x0.1.1, ())), ())) fun y1 =>
    optF (.done (none)) (params_bounds ((x0.2.1, (x0.1.1, ())), ())) fun y2 =>
    optF (.done (none)) (uint256_FromUint64 ((y2.1.1, ()), ())) fun y3 =>
    optF (.done (none)) (uint256_Cmp ((y1.1.1, (y3.1.1, ())), ())) fun y4 =>
    brn (@I.ltb .i64 y4.1.1 (I.of .i64 0))
     (.done (some ((x0.1.1, ()), ())))
     (optF (.done (none)) (uint256_FromUint64 ((y2.1.2.1, ()), ())) fun y5 =>
     optF (.done (none)) (uint256_Cmp ((y1.1.1, (y5.1.1, ())), ())) fun y6 =>
     brn (@I.ltb .i64 (I.of .i64 0) y6.1.1)
      (.done (some ((x0.1.1, ()), ())))
      (.again (((@I.add .i64 x0.1.1 (I.of .i64 1)), ()), (x0.2.1, ())))))
    (.done (some (((I.of .i64 0), ()), ()))))
 K0 (((I.of .i64 1), ()), (a, ()))

/-- pontage/params.Valid -/
noncomputable def params_Valid (x : (⟨[.pl (.cons (.int .u64) (.cons (.int .u64) (.cons (.int .u64) (.cons (.arr 4 (.int .u64)) (.cons (.int .u64) (.cons (.arr 4 (.int .u64)) (.cons (.int .u64) (.cons (.arr 4 (.int .u64)) (.cons (.int .u64) (.cons (.int .u64) (.cons (.int .u64) (.cons (.int .u64) .nil))))))))))))], []⟩ : Tm).D) : Option (⟨[.pl .bool], []⟩ : Tm).D :=
 let a : (I .u64) × (I .u64) × (I .u64) × ((I .u64) × (I .u64) × (I .u64) × (I .u64) × Unit) × (I .u64) × ((I .u64) × (I .u64) × (I .u64) × (I .u64) × Unit) × (I .u64) × ((I .u64) × (I .u64) × (I .u64) × (I .u64) × Unit) × (I .u64) × (I .u64) × (I .u64) × (I .u64) × Unit := x.1.1
 optF (none) (params_FirstInvalid ((a, ()), ())) fun y0 =>
 some (((@I.eqb .i64 y0.1.1 (I.of .i64 0)), ()), ())

/-- pontage/l1price.Delta -/
noncomputable def l1price_Delta (x : (⟨[.pl (.cons .bool (.cons (.arr 4 (.int .u64)) .nil)), .pl (.cons .bool (.cons (.arr 4 (.int .u64)) .nil)), .pl (.int .u64), .pl (.cons (.int .u64) (.cons (.int .u64) (.cons (.int .u64) (.cons (.arr 4 (.int .u64)) (.cons (.int .u64) (.cons (.arr 4 (.int .u64)) (.cons (.int .u64) (.cons (.arr 4 (.int .u64)) (.cons (.int .u64) (.cons (.int .u64) (.cons (.int .u64) (.cons (.int .u64) .nil))))))))))))], []⟩ : Tm).D) : Option (⟨[.pl (.cons .bool (.cons (.arr 4 (.int .u64)) .nil)), .pl (.int .i64)], []⟩ : Tm).D :=
 let a : (Bool) × ((I .u64) × (I .u64) × (I .u64) × (I .u64) × Unit) × Unit := x.1.1
 let b : (Bool) × ((I .u64) × (I .u64) × (I .u64) × (I .u64) × Unit) × Unit := x.1.2.1
 let c : I .u64 := x.1.2.2.1
 let d : (I .u64) × (I .u64) × (I .u64) × ((I .u64) × (I .u64) × (I .u64) × (I .u64) × Unit) × (I .u64) × ((I .u64) × (I .u64) × (I .u64) × (I .u64) × Unit) × (I .u64) × ((I .u64) × (I .u64) × (I .u64) × (I .u64) × Unit) × (I .u64) × (I .u64) × (I .u64) × (I .u64) × Unit := x.1.2.2.2.1
 jn (fun (x0 : (((I .u64) × Unit) × ((Bool × (((I .u64) × ((I .u64) × ((I .u64) × ((I .u64) × Unit)))) × Unit)) × ((Bool × (((I .u64) × ((I .u64) × ((I .u64) × ((I .u64) × Unit)))) × Unit)) × (((I .u64) × ((I .u64) × ((I .u64) × (((I .u64) × ((I .u64) × ((I .u64) × ((I .u64) × Unit)))) × ((I .u64) × (((I .u64) × ((I .u64) × ((I .u64) × ((I .u64) × Unit)))) × ((I .u64) × (((I .u64) × ((I .u64) × ((I .u64) × ((I .u64) × Unit)))) × ((I .u64) × ((I .u64) × ((I .u64) × ((I .u64) × Unit)))))))))))) × ((Bool × (((I .u64) × ((I .u64) × ((I .u64) × ((I .u64) × Unit)))) × Unit)) × Unit)))))) =>
   optF (none) (int256_Neg ((x0.2.1, ()), ())) fun y1 =>
   optF (none) (uint256_FromUint64 ((x0.2.2.2.1.2.2.2.2.2.2.2.2.1, ()), ())) fun y2 =>
   optF (none) (int256_DivFloor ((y1.1.1, (y2.1.1, ())), ())) fun y3 =>
   optF (none) (int256_Sub ((x0.2.1, (x0.2.2.1, ())), ())) fun y4 =>
   brn (@I.neb .i64 y4.1.2.1 (I.of .i64 0))
    (some (((false, (((I.of .u64 0), ((I.of .u64 0), ((I.of .u64 0), ((I.of .u64 0), ())))), ())), (y4.1.2.1, ())), ()))
    (optF (none) (uint256_FromUint64 ((x0.1.1, ()), ())) fun y5 =>
    optF (none) (int256_DivFloor ((y4.1.1, (y5.1.1, ())), ())) fun y6 =>
    optF (none) (int256_Sub ((y3.1.1, (y6.1.1, ())), ())) fun y7 =>
    brn (@I.neb .i64 y7.1.2.1 (I.of .i64 0))
     (some (((false, (((I.of .u64 0), ((I.of .u64 0), ((I.of .u64 0), ((I.of .u64 0), ())))), ())), (y7.1.2.1, ())), ()))
     (optF (none) (uint256_FromUint64 ((x0.1.1, ()), ())) fun y8 =>
     optF (none) (int256_Mul ((y7.1.1, ((false, (y8.1.1, ())), ())), ())) fun y9 =>
     brn (@I.neb .i64 y9.1.2.1 (I.of .i64 0))
      (some (((false, (((I.of .u64 0), ((I.of .u64 0), ((I.of .u64 0), ((I.of .u64 0), ())))), ())), (y9.1.2.1, ())), ()))
      (brn (@I.nz .u64 x0.2.2.2.1.2.2.2.2.2.2.2.2.2.1)
       (optF (none) (uint256_FromUint64 (((@I.quo .u64 x0.2.2.2.1.2.2.2.2.2.2.2.2.1 x0.2.2.2.1.2.2.2.2.2.2.2.2.2.1), ()), ())) fun y10 =>
       optF (none) (uint256_FromUint64 ((x0.1.1, ()), ())) fun y11 =>
       optF (none) (uint256_SaturatingAdd ((y10.1.1, (y11.1.1, ())), ())) fun y12 =>
       optF (none) (int256_DivFloor ((y9.1.1, (y12.1.1, ())), ())) fun y13 =>
       some ((y13.1.1, (y13.1.2.1, ())), ()))
       (none))))) fun j0 =>
 optF (none) (params_Valid ((d, ()), ())) fun y1 =>
 brn (bnot y1.1.1)
  (some (((false, (((I.of .u64 0), ((I.of .u64 0), ((I.of .u64 0), ((I.of .u64 0), ())))), ())), ((I.of .i64 15), ())), ()))
  (optF (none) (int256_Valid ((a, ()), ())) fun y2 =>
  brn (bnot y2.1.1)
   (some (((false, (((I.of .u64 0), ((I.of .u64 0), ((I.of .u64 0), ((I.of .u64 0), ())))), ())), ((I.of .i64 2), ())), ()))
   (optF (none) (int256_Valid ((b, ()), ())) fun y3 =>
   brn (bnot y3.1.1)
    (some (((false, (((I.of .u64 0), ((I.of .u64 0), ((I.of .u64 0), ((I.of .u64 0), ())))), ())), ((I.of .i64 2), ())), ()))
    (brn (@I.eqb .u64 c (I.of .u64 0))
     (some (((false, (((I.of .u64 0), ((I.of .u64 0), ((I.of .u64 0), ((I.of .u64 0), ())))), ())), ((I.of .i64 2), ())), ()))
     (j0 ((c, ()), (a, (b, (d, ((false, (((I.of .u64 0), ((I.of .u64 0), ((I.of .u64 0), ((I.of .u64 0), ())))), ())), ())))))))))

/-- pontage/pontageref12.in -/
noncomputable def pontageref12_in (x : (⟨[.pl (.int .u64), .pl (.int .u64), .pl (.int .u64)], []⟩ : Tm).D) : Option (⟨[.pl .bool], []⟩ : Tm).D :=
 let a : I .u64 := x.1.1
 let b : I .u64 := x.1.2.1
 let c : I .u64 := x.1.2.2.1
 brn (@I.leb .u64 b a)
  (some (((@I.leb .u64 a c), ()), ()))
  (some ((false, ()), ()))

/-- pontage/pontageref1.Uint64 -/
noncomputable def pontageref1_Uint64 (x : (⟨[.pl (.arr 4 (.int .u64))], []⟩ : Tm).D) : Option (⟨[.pl (.int .u64), .pl .bool], []⟩ : Tm).D :=
 let a : (I .u64) × (I .u64) × (I .u64) × (I .u64) × Unit := x.1.1
 brn (@I.neb .u64 a.2.1 (I.of .u64 0))
  (some (((I.of .u64 0), (false, ())), ()))
  (brn (@I.neb .u64 a.2.2.1 (I.of .u64 0))
   (some (((I.of .u64 0), (false, ())), ()))
   (brn (@I.neb .u64 a.2.2.2.1 (I.of .u64 0))
    (some (((I.of .u64 0), (false, ())), ()))
    (some ((a.1, (true, ())), ()))))

/-- pontage/pontageref12.atLeast -/
noncomputable def pontageref12_atLeast (x : (⟨[.pl (.arr 4 (.int .u64)), .pl (.int .u64)], []⟩ : Tm).D) : Option (⟨[.pl .bool], []⟩ : Tm).D :=
 let a : (I .u64) × (I .u64) × (I .u64) × (I .u64) × Unit := x.1.1
 let b : I .u64 := x.1.2.1
 optF (none) (pontageref1_Uint64 ((a, ()), ())) fun y0 =>
 brn y0.1.2.1
  (some (((@I.leb .u64 b y0.1.1), ()), ()))
  (some ((false, ()), ()))

/-- pontage/pontageref12.FirstInvalid -/
noncomputable def pontageref12_FirstInvalid (x : (⟨[.pl (.cons (.int .u64) (.cons (.int .u64) (.cons (.int .u64) (.cons (.arr 4 (.int .u64)) (.cons (.int .u64) (.cons (.arr 4 (.int .u64)) (.cons (.int .u64) (.cons (.arr 4 (.int .u64)) (.cons (.int .u64) (.cons (.int .u64) (.cons (.int .u64) (.cons (.int .u64) .nil))))))))))))], []⟩ : Tm).D) : Option (⟨[.pl (.int .i64)], []⟩ : Tm).D :=
 let a : (I .u64) × (I .u64) × (I .u64) × ((I .u64) × (I .u64) × (I .u64) × (I .u64) × Unit) × (I .u64) × ((I .u64) × (I .u64) × (I .u64) × (I .u64) × Unit) × (I .u64) × ((I .u64) × (I .u64) × (I .u64) × (I .u64) × Unit) × (I .u64) × (I .u64) × (I .u64) × (I .u64) × Unit := x.1.1
 optF (none) (pontageref12_in ((a.1, ((I.of .u64 1), ((I.of .u64 1099511627776), ()))), ())) fun y0 =>
  optF (none) (pontageref12_in ((a.2.1, ((I.of .u64 0), ((I.of .u64 1048576), ()))), ())) fun y1 =>
  optF (none) (pontageref12_in ((a.2.2.1, ((I.of .u64 1), ((I.of .u64 1048576), ()))), ())) fun y2 =>
  optF (none) (pontageref12_atLeast ((a.2.2.2.1, ((I.of .u64 1), ())), ())) fun y3 =>
  optF (none) (pontageref12_in ((a.2.2.2.2.1, ((I.of .u64 1), ((I.of .u64 1099511627776), ()))), ())) fun y4 =>
  optF (none) (pontageref12_atLeast ((a.2.2.2.2.2.1, ((I.of .u64 0), ())), ())) fun y5 =>
  optF (none) (pontageref12_in ((a.2.2.2.2.2.2.1, ((I.of .u64 0), ((I.of .u64 10000), ()))), ())) fun y6 =>
  optF (none) (pontageref12_atLeast ((a.2.2.2.2.2.2.2.1, ((I.of .u64 0), ())), ())) fun y7 =>
  optF (none) (pontageref12_in ((a.2.2.2.2.2.2.2.2.1, ((I.of .u64 1), ((I.of .u64 1099511627776), ()))), ())) fun y8 =>
  optF (none) (pontageref12_in ((a.2.2.2.2.2.2.2.2.2.1, ((I.of .u64 1), ((I.of .u64 1048576), ()))), ())) fun y9 =>
  optF (none) (pontageref12_in ((a.2.2.2.2.2.2.2.2.2.2.1, ((I.of .u64 0), ((I.of .u64 1048576), ()))), ())) fun y10 =>
  optF (none) (pontageref12_in ((a.2.2.2.2.2.2.2.2.2.2.2.1, (a.2.2.2.2.2.2.2.2.2.2.1, ((I.of .u64 16777216), ()))), ())) fun y11 =>
  brn (bnot y0.1.1)
   (some (((I.of .i64 1), ()), ()))
   (brn (bnot y1.1.1)
   (some (((I.of .i64 2), ()), ()))
   (brn (bnot y2.1.1)
   (some (((I.of .i64 3), ()), ()))
   (brn (bnot y3.1.1)
   (some (((I.of .i64 4), ()), ()))
   (brn (bnot y4.1.1)
   (some (((I.of .i64 5), ()), ()))
   (brn (bnot y5.1.1)
   (some (((I.of .i64 6), ()), ()))
   (brn (bnot y6.1.1)
   (some (((I.of .i64 7), ()), ()))
   (brn (bnot y7.1.1)
   (some (((I.of .i64 8), ()), ()))
   (brn (bnot y8.1.1)
   (some (((I.of .i64 9), ()), ()))
   (brn (bnot y9.1.1)
   (some (((I.of .i64 10), ()), ()))
   (brn (bnot y10.1.1)
   (some (((I.of .i64 11), ()), ()))
   (brn (bnot y11.1.1)
   (some (((I.of .i64 12), ()), ()))
   (some (((I.of .i64 0), ()), ())))))))))))))

/-- pontage/pontageref12.Valid -/
noncomputable def pontageref12_Valid (x : (⟨[.pl (.cons (.int .u64) (.cons (.int .u64) (.cons (.int .u64) (.cons (.arr 4 (.int .u64)) (.cons (.int .u64) (.cons (.arr 4 (.int .u64)) (.cons (.int .u64) (.cons (.arr 4 (.int .u64)) (.cons (.int .u64) (.cons (.int .u64) (.cons (.int .u64) (.cons (.int .u64) .nil))))))))))))], []⟩ : Tm).D) : Option (⟨[.pl .bool], []⟩ : Tm).D :=
 let a : (I .u64) × (I .u64) × (I .u64) × ((I .u64) × (I .u64) × (I .u64) × (I .u64) × Unit) × (I .u64) × ((I .u64) × (I .u64) × (I .u64) × (I .u64) × Unit) × (I .u64) × ((I .u64) × (I .u64) × (I .u64) × (I .u64) × Unit) × (I .u64) × (I .u64) × (I .u64) × (I .u64) × Unit := x.1.1
 optF (none) (pontageref12_FirstInvalid ((a, ()), ())) fun y0 =>
 some (((@I.eqb .i64 y0.1.1 (I.of .i64 0)), ()), ())

/-- pontage/pontageref19.Delta -/
noncomputable def pontageref19_Delta (x : (⟨[.pl (.cons .bool (.cons (.arr 4 (.int .u64)) .nil)), .pl (.cons .bool (.cons (.arr 4 (.int .u64)) .nil)), .pl (.int .u64), .pl (.cons (.int .u64) (.cons (.int .u64) (.cons (.int .u64) (.cons (.arr 4 (.int .u64)) (.cons (.int .u64) (.cons (.arr 4 (.int .u64)) (.cons (.int .u64) (.cons (.arr 4 (.int .u64)) (.cons (.int .u64) (.cons (.int .u64) (.cons (.int .u64) (.cons (.int .u64) .nil))))))))))))], []⟩ : Tm).D) : Option (⟨[.pl (.cons .bool (.cons (.arr 4 (.int .u64)) .nil)), .pl (.int .i64)], []⟩ : Tm).D :=
 let a : (Bool) × ((I .u64) × (I .u64) × (I .u64) × (I .u64) × Unit) × Unit := x.1.1
 let b : (Bool) × ((I .u64) × (I .u64) × (I .u64) × (I .u64) × Unit) × Unit := x.1.2.1
 let c : I .u64 := x.1.2.2.1
 let d : (I .u64) × (I .u64) × (I .u64) × ((I .u64) × (I .u64) × (I .u64) × (I .u64) × Unit) × (I .u64) × ((I .u64) × (I .u64) × (I .u64) × (I .u64) × Unit) × (I .u64) × ((I .u64) × (I .u64) × (I .u64) × (I .u64) × Unit) × (I .u64) × (I .u64) × (I .u64) × (I .u64) × Unit := x.1.2.2.2.1
 optF (none) (pontageref12_Valid ((d, ()), ())) fun y0 =>
 brn (bnot y0.1.1)
  (some (((false, (((I.of .u64 0), ((I.of .u64 0), ((I.of .u64 0), ((I.of .u64 0), ())))), ())), ((I.of .i64 15), ())), ()))
  (jn (fun (x1 : (((I .u64) × Unit) × ((Bool × (((I .u64) × ((I .u64) × ((I .u64) × ((I .u64) × Unit)))) × Unit)) × ((Bool × (((I .u64) × ((I .u64) × ((I .u64) × ((I .u64) × Unit)))) × Unit)) × (((I .u64) × ((I .u64) × ((I .u64) × (((I .u64) × ((I .u64) × ((I .u64) × ((I .u64) × Unit)))) × ((I .u64) × (((I .u64) × ((I .u64) × ((I .u64) × ((I .u64) × Unit)))) × ((I .u64) × (((I .u64) × ((I .u64) × ((I .u64) × ((I .u64) × Unit)))) × ((I .u64) × ((I .u64) × ((I .u64) × ((I .u64) × Unit)))))))))))) × ((Bool × (((I .u64) × ((I .u64) × ((I .u64) × ((I .u64) × Unit)))) × Unit)) × Unit)))))) =>
    optF (none) (pontageref3_FromInt256 ((x1.2.1, ()), ())) fun y2 =>
    optF (none) (pontageref3_Negate ((y2.1.1, ()), ())) fun y3 =>
    optF (none) (pontageref1_FromUint64 ((x1.2.2.2.1.2.2.2.2.2.2.2.2.1, ()), ())) fun y4 =>
    optF (none) (pontageref3_DivFloor ((y3.1.1, (y4.1.1, ())), ())) fun y5 =>
    optF (none) (pontageref3_FromInt256 ((x1.2.1, ()), ())) fun y6 =>
    optF (none) (pontageref3_FromInt256 ((x1.2.2.1, ()), ())) fun y7 =>
    optF (none) (pontageref3_Negate ((y7.1.1, ()), ())) fun y8 =>
    optF (none) (pontageref3_Add ((y6.1.1, (y8.1.1, ())), ())) fun y9 =>
    optF (none) (pontageref1_FromUint64 ((x1.1.1, ()), ())) fun y10 =>
    optF (none) (pontageref3_DivFloor ((y9.1.1, (y10.1.1, ())), ())) fun y11 =>
    optF (none) (pontageref3_Negate ((y11.1.1, ()), ())) fun y12 =>
    optF (none) (pontageref3_Add ((y5.1.1, (y12.1.1, ())), ())) fun y13 =>
    optF (none) (pontageref1_FromUint64 ((x1.1.1, ()), ())) fun y14 =>
    optF (none) (pontageref3_Mul ((y13.1.1, ((false, (y14.1.1, ())), ())), ())) fun y15 =>
    jn (fun (x16 : (((I .u64) × Unit) × (((I .u64) × ((I .u64) × ((I .u64) × (((I .u64) × ((I .u64) × ((I .u64) × ((I .u64) × Unit)))) × ((I .u64) × (((I .u64) × ((I .u64) × ((I .u64) × ((I .u64) × Unit)))) × ((I .u64) × (((I .u64) × ((I .u64) × ((I .u64) × ((I .u64) × Unit)))) × ((I .u64) × ((I .u64) × ((I .u64) × ((I .u64) × Unit)))))))))))) × ((Bool × (((I .u64) × ((I .u64) × ((I .u64) × ((I .u64) × Unit)))) × Unit)) × ((Bool × ((List (I .i64)) × Unit)) × Unit))))) =>
      optF (none) (pontageref1_FromUint64 ((x16.2.1.2.2.2.2.2.2.2.2.1, ()), ())) fun y17 =>
      optF (none) (pontageref1_FromUint64 ((x16.2.1.2.2.2.2.2.2.2.2.2.1, ()), ())) fun y18 =>
      optF (none) (pontageref1_Div ((y17.1.1, (y18.1.1, ())), ())) fun y19 =>
      optF (none) (pontageref1_FromUint64 ((x16.1.1, ()), ())) fun y20 =>
      optF (none) (pontageref1_Add ((y19.1.1, (y20.1.1, ())), ())) fun y21 =>
      optF (none) (pontageref3_DivFloor ((x16.2.2.2.1, (y21.1.1, ())), ())) fun y22 =>
      optF (none) (pontageref3_Checked ((y22.1.1, ()), ())) fun y23 =>
      some ((y23.1.1, (y23.1.2.1, ())), ())) fun j16 =>
    optF (none) (pontageref1_Fits ((y9.1.1.2.1, ()), ())) fun y17 =>
    brn (bnot y17.1.1)
     (some (((false, (((I.of .u64 0), ((I.of .u64 0), ((I.of .u64 0), ((I.of .u64 0), ())))), ())), ((I.of .i64 4), ())), ()))
     (optF (none) (pontageref1_Fits ((y13.1.1.2.1, ()), ())) fun y18 =>
     brn (bnot y18.1.1)
      (some (((false, (((I.of .u64 0), ((I.of .u64 0), ((I.of .u64 0), ((I.of .u64 0), ())))), ())), ((I.of .i64 4), ())), ()))
      (optF (none) (pontageref1_Fits ((y15.1.1.2.1, ()), ())) fun y19 =>
      brn (bnot y19.1.1)
       (some (((false, (((I.of .u64 0), ((I.of .u64 0), ((I.of .u64 0), ((I.of .u64 0), ())))), ())), ((I.of .i64 4), ())), ()))
       (j16 ((x1.1.1, ()), (x1.2.2.2.1, (x1.2.2.2.2.1, (y15.1.1, ())))))))) fun j1 =>
  optF (none) (pontageref3_Valid ((a, ()), ())) fun y2 =>
  brn (bnot y2.1.1)
   (some (((false, (((I.of .u64 0), ((I.of .u64 0), ((I.of .u64 0), ((I.of .u64 0), ())))), ())), ((I.of .i64 2), ())), ()))
   (optF (none) (pontageref3_Valid ((b, ()), ())) fun y3 =>
   brn (bnot y3.1.1)
    (some (((false, (((I.of .u64 0), ((I.of .u64 0), ((I.of .u64 0), ((I.of .u64 0), ())))), ())), ((I.of .i64 2), ())), ()))
    (brn (@I.eqb .u64 c (I.of .u64 0))
     (some (((false, (((I.of .u64 0), ((I.of .u64 0), ((I.of .u64 0), ((I.of .u64 0), ())))), ())), ((I.of .i64 2), ())), ()))
     (j1 ((c, ()), (a, (b, (d, ((false, (((I.of .u64 0), ((I.of .u64 0), ((I.of .u64 0), ((I.of .u64 0), ())))), ())), ())))))))))

/-- pontage/l1price.Next -/
noncomputable def l1price_Next (x : (⟨[.pl (.arr 4 (.int .u64)), .pl (.cons .bool (.cons (.arr 4 (.int .u64)) .nil)), .pl (.cons .bool (.cons (.arr 4 (.int .u64)) .nil)), .pl (.int .u64), .pl (.cons (.int .u64) (.cons (.int .u64) (.cons (.int .u64) (.cons (.arr 4 (.int .u64)) (.cons (.int .u64) (.cons (.arr 4 (.int .u64)) (.cons (.int .u64) (.cons (.arr 4 (.int .u64)) (.cons (.int .u64) (.cons (.int .u64) (.cons (.int .u64) (.cons (.int .u64) .nil))))))))))))], []⟩ : Tm).D) : Option (⟨[.pl (.arr 4 (.int .u64)), .pl (.int .i64)], []⟩ : Tm).D :=
 let a : (I .u64) × (I .u64) × (I .u64) × (I .u64) × Unit := x.1.1
 let b : (Bool) × ((I .u64) × (I .u64) × (I .u64) × (I .u64) × Unit) × Unit := x.1.2.1
 let c : (Bool) × ((I .u64) × (I .u64) × (I .u64) × (I .u64) × Unit) × Unit := x.1.2.2.1
 let d : I .u64 := x.1.2.2.2.1
 let e : (I .u64) × (I .u64) × (I .u64) × ((I .u64) × (I .u64) × (I .u64) × (I .u64) × Unit) × (I .u64) × ((I .u64) × (I .u64) × (I .u64) × (I .u64) × Unit) × (I .u64) × ((I .u64) × (I .u64) × (I .u64) × (I .u64) × Unit) × (I .u64) × (I .u64) × (I .u64) × (I .u64) × Unit := x.1.2.2.2.2.1
 jn (fun (x0 : (((I .u64) × Unit) × (((I .u64) × ((I .u64) × ((I .u64) × ((I .u64) × Unit)))) × ((Bool × (((I .u64) × ((I .u64) × ((I .u64) × ((I .u64) × Unit)))) × Unit)) × ((Bool × (((I .u64) × ((I .u64) × ((I .u64) × ((I .u64) × Unit)))) × Unit)) × (((I .u64) × ((I .u64) × ((I .u64) × (((I .u64) × ((I .u64) × ((I .u64) × ((I .u64) × Unit)))) × ((I .u64) × (((I .u64) × ((I .u64) × ((I .u64) × ((I .u64) × Unit)))) × ((I .u64) × (((I .u64) × ((I .u64) × ((I .u64) × ((I .u64) × Unit)))) × ((I .u64) × ((I .u64) × ((I .u64) × ((I .u64) × Unit)))))))))))) × (((I .u64) × ((I .u64) × ((I .u64) × ((I .u64) × Unit)))) × Unit))))))) =>
   optF (none) (l1price_Delta ((x0.2.2.1, (x0.2.2.2.1, (x0.1.1, (x0.2.2.2.2.1, ())))), ())) fun y1 =>
   brn (@I.neb .i64 y1.1.2.1 (I.of .i64 0))
    (some ((((I.of .u64 0), ((I.of .u64 0), ((I.of .u64 0), ((I.of .u64 0), ())))), (y1.1.2.1, ())), ()))
    (optF (none) (int256_AddClamped ((x0.2.1, (y1.1.1, ())), ())) fun y2 =>
    some ((y2.1.1, (y2.1.2.1, ())), ()))) fun j0 =>
 optF (none) (params_Valid ((e, ()), ())) fun y1 =>
 brn (bnot y1.1.1)
  (some ((((I.of .u64 0), ((I.of .u64 0), ((I.of .u64 0), ((I.of .u64 0), ())))), ((I.of .i64 15), ())), ()))
  (jn (fun (x2 : (((I .u64) × (Bool × Unit)) × (((I .u64) × ((I .u64) × ((I .u64) × ((I .u64) × Unit)))) × ((Bool × (((I .u64) × ((I .u64) × ((I .u64) × ((I .u64) × Unit)))) × Unit)) × ((Bool × (((I .u64) × ((I .u64) × ((I .u64) × ((I .u64) × Unit)))) × Unit)) × (((I .u64) × ((I .u64) × ((I .u64) × (((I .u64) × ((I .u64) × ((I .u64) × ((I .u64) × Unit)))) × ((I .u64) × (((I .u64) × ((I .u64) × ((I .u64) × ((I .u64) × Unit)))) × ((I .u64) × (((I .u64) × ((I .u64) × ((I .u64) × ((I .u64) × Unit)))) × ((I .u64) × ((I .u64) × ((I .u64) × ((I .u64) × Unit)))))))))))) × (((I .u64) × ((I .u64) × ((I .u64) × ((I .u64) × Unit)))) × Unit))))))) =>
    brn x2.1.2.1
     (some ((((I.of .u64 0), ((I.of .u64 0), ((I.of .u64 0), ((I.of .u64 0), ())))), ((I.of .i64 2), ())), ()))
     (brn (@I.eqb .u64 x2.1.1 (I.of .u64 0))
      (some ((x2.2.1, ((I.of .i64 0), ())), ()))
      (j0 ((x2.1.1, ()), (x2.2.1, (x2.2.2.1, (x2.2.2.2.1, (x2.2.2.2.2.1, (x2.2.2.2.2.2.1, ()))))))))) fun j2 =>
  optF (none) (int256_Valid ((b, ()), ())) fun y3 =>
  brn (bnot y3.1.1)
   (j2 ((d, (true, ())), (a, (b, (c, (e, (((I.of .u64 0), ((I.of .u64 0), ((I.of .u64 0), ((I.of .u64 0), ())))), ())))))))
   (optF (none) (int256_Valid ((c, ()), ())) fun y4 =>
   j2 ((d, ((bnot y4.1.1), ())), (a, (b, (c, (e, (((I.of .u64 0), ((I.of .u64 0), ((I.of .u64 0), ((I.of .u64 0), ())))), ()))))))))

/-- pontage/pontagelaw19.awake -/
noncomputable def pontagelaw19_awake (x : (⟨[], []⟩ : Tm).D) : Option (⟨[.pl .bool], []⟩ : Tm).D :=
 optF (none) (int256_FromInt64 (((I.of .i64 (-160000000)), ()), ())) fun y0 =>
 optF (none) (int256_FromInt64 (((I.of .i64 0), ()), ())) fun y1 =>
 optF (none) (params_Genesis ((), ())) fun y2 =>
 optF (none) (l1price_Delta ((y0.1.1, (y1.1.1, ((I.of .u64 16000000), (y2.1.1, ())))), ())) fun y3 =>
 optF (none) (int256_FromInt64 (((I.of .i64 5), ()), ())) fun y4 =>
 optF (none) (int256_FromInt64 (((I.of .i64 5), ()), ())) fun y5 =>
 optF (none) (params_Genesis ((), ())) fun y6 =>
 optF (none) (l1price_Next ((((I.of .u64 3), ((I.of .u64 0), ((I.of .u64 0), ((I.of .u64 0), ())))), (y4.1.1, (y5.1.1, ((I.of .u64 0), (y6.1.1, ()))))), ())) fun y7 =>
 optF (none) (int256_FromInt64 (((I.of .i64 5), ()), ())) fun y8 =>
 brn (Ty.eqb (.cons .bool (.cons (.arr 4 (.int .u64)) .nil)) y3.1.1 y8.1.1)
  (brn (@I.eqb .i64 y3.1.2.1 (I.of .i64 0))
   (brn (Ty.eqb (.arr 4 (.int .u64)) y7.1.1 ((I.of .u64 3), ((I.of .u64 0), ((I.of .u64 0), ((I.of .u64 0), ())))))
    (some (((@I.eqb .i64 y7.1.2.1 (I.of .i64 0)), ()), ()))
    (some ((false, ()), ())))
   (some ((false, ()), ())))
  (some ((false, ()), ()))

/-- pontage/pontagelaw19.L1PriceDelta -/
noncomputable def pontagelaw19_L1PriceDelta (x : (⟨[.pl (.cons .bool (.cons (.arr 4 (.int .u64)) .nil)), .pl (.cons .bool (.cons (.arr 4 (.int .u64)) .nil)), .pl (.int .u64), .pl (.cons (.int .u64) (.cons (.int .u64) (.cons (.int .u64) (.cons (.arr 4 (.int .u64)) (.cons (.int .u64) (.cons (.arr 4 (.int .u64)) (.cons (.int .u64) (.cons (.arr 4 (.int .u64)) (.cons (.int .u64) (.cons (.int .u64) (.cons (.int .u64) (.cons (.int .u64) .nil)))))))))))), .pl (.arr 8 (.int .u64)), .pl (.int .i64), .pl (.int .i64)], []⟩ : Tm).D) : Option (⟨[.pl .bool], []⟩ : Tm).D :=
 let a : (Bool) × ((I .u64) × (I .u64) × (I .u64) × (I .u64) × Unit) × Unit := x.1.1
 let b : (Bool) × ((I .u64) × (I .u64) × (I .u64) × (I .u64) × Unit) × Unit := x.1.2.1
 let c : I .u64 := x.1.2.2.1
 let d : (I .u64) × (I .u64) × (I .u64) × ((I .u64) × (I .u64) × (I .u64) × (I .u64) × Unit) × (I .u64) × ((I .u64) × (I .u64) × (I .u64) × (I .u64) × Unit) × (I .u64) × ((I .u64) × (I .u64) × (I .u64) × (I .u64) × Unit) × (I .u64) × (I .u64) × (I .u64) × (I .u64) × Unit := x.1.2.2.2.1
 let e : (I .u64) × (I .u64) × (I .u64) × (I .u64) × (I .u64) × (I .u64) × (I .u64) × (I .u64) × Unit := x.1.2.2.2.2.1
 let f : I .i64 := x.1.2.2.2.2.2.1
 let g : I .i64 := x.1.2.2.2.2.2.2.1
 optF (none) (pontagelaw14_ValidParams ((e, ()), ())) fun y0 =>
 iter (none) (fun x1 =>
   brn (@I.ltb .i64 x1.1.2.2.2.2.1 (I.of .i64 2))
    (brn (@inB .i64 x1.1.2.2.2.2.1 2)
     (iter (.done (none)) (fun x2 =>
       brn (@I.ltb .i64 x2.1.2.2.2.2.2.2.1 (I.of .i64 2))
        (brn (@inB .i64 x2.1.2.2.2.2.2.2.1 2)
         (optF (.done (.done (none))) (l1price_Delta ((x2.2.1, (x2.2.2.1, ((@Arr.sel (I .u64) (I.of .u64 0) 2 x2.1.2.2.2.2.2.1 (@I.nat .i64 x2.1.2.2.2.2.2.2.1)), (x2.2.2.2.1, ())))), ())) fun y3 =>
         optF (.done (.done (none))) (pontageref19_Delta ((x2.2.1, (x2.2.2.1, ((@Arr.sel (I .u64) (I.of .u64 0) 2 x2.1.2.2.2.2.2.1 (@I.nat .i64 x2.1.2.2.2.2.2.2.1)), (x2.2.2.2.1, ())))), ())) fun y4 =>
         optF (.done (.done (none))) (int256_FromInt64 ((x2.1.2.1, ()), ())) fun y5 =>
         optF (.done (.done (none))) (int256_FromInt64 ((x2.1.2.2.1, ()), ())) fun y6 =>
         optF (.done (.done (none))) (l1price_Delta ((y5.1.1, (y6.1.1, ((@Arr.sel (I .u64) (I.of .u64 0) 2 x2.1.2.2.2.2.2.1 (@I.nat .i64 x2.1.2.2.2.2.2.2.1)), (x2.2.2.2.1, ())))), ())) fun y7 =>
         optF (.done (.done (none))) (int256_FromInt64 ((x2.1.2.1, ()), ())) fun y8 =>
         optF (.done (.done (none))) (int256_FromInt64 ((x2.1.2.2.1, ()), ())) fun y9 =>
         optF (.done (.done (none))) (pontageref19_Delta ((y8.1.1, (y9.1.1, ((@Arr.sel (I .u64) (I.of .u64 0) 2 x2.1.2.2.2.2.2.1 (@I.nat .i64 x2.1.2.2.2.2.2.2.1)), (x2.2.2.2.1, ())))), ())) fun y10 =>
         brn (bnot (Ty.eqb (.cons .bool (.cons (.arr 4 (.int .u64)) .nil)) y3.1.1 y4.1.1))
          (.done (.done (some ((false, ()), ()))))
          (brn (@I.neb .i64 y3.1.2.1 y4.1.2.1)
           (.done (.done (some ((false, ()), ()))))
           (brn (bnot (Ty.eqb (.cons .bool (.cons (.arr 4 (.int .u64)) .nil)) y7.1.1 y10.1.1))
            (.done (.done (some ((false, ()), ()))))
            (brn (@I.neb .i64 y7.1.2.1 y10.1.2.1)
             (.done (.done (some ((false, ()), ()))))
             (.again ((x2.1.1, (x2.1.2.1, (x2.1.2.2.1, (x2.1.2.2.2.1, (x2.1.2.2.2.2.1, (x2.1.2.2.2.2.2.1, ((@I.add .i64 x2.1.2.2.2.2.2.2.1 (I.of .i64 1)), ()))))))), (x2.2.1, (x2.2.2.1, (x2.2.2.2.1, ())))))))))
         (.done (.done (none))))
        (.done (.again ((x2.1.1, (x2.1.2.1, (x2.1.2.2.1, (x2.1.2.2.2.1, ((@I.add .i64 x2.1.2.2.2.2.1 (I.of .i64 1)), ()))))), (x2.2.1, (x2.2.2.1, ()))))))
     K0 ((x1.1.1, (x1.1.2.1, (x1.1.2.2.1, (x1.1.2.2.2.1, (x1.1.2.2.2.2.1, ((x1.1.1, ((@I.rem .u64 x1.1.1 (I.of .u64 100000)), ())), ((I.of .i64 0), ()))))))), (x1.2.1, (x1.2.2.1, ((@Arr.sel ((I .u64) × ((I .u64) × ((I .u64) × (((I .u64) × ((I .u64) × ((I .u64) × ((I .u64) × Unit)))) × ((I .u64) × (((I .u64) × ((I .u64) × ((I .u64) × ((I .u64) × Unit)))) × ((I .u64) × (((I .u64) × ((I .u64) × ((I .u64) × ((I .u64) × Unit)))) × ((I .u64) × ((I .u64) × ((I .u64) × ((I .u64) × Unit)))))))))))) ((I.of .u64 0), ((I.of .u64 0), ((I.of .u64 0), (((I.of .u64 0), ((I.of .u64 0), ((I.of .u64 0), ((I.of .u64 0), ())))), ((I.of .u64 0), (((I.of .u64 0), ((I.of .u64 0), ((I.of .u64 0), ((I.of .u64 0), ())))), ((I.of .u64 0), (((I.of .u64 0), ((I.of .u64 0), ((I.of .u64 0), ((I.of .u64 0), ())))), ((I.of .u64 0), ((I.of .u64 0), ((I.of .u64 0), ((I.of .u64 0), ())))))))))))) 2 x1.1.2.2.2.1 (@I.nat .i64 x1.1.2.2.2.2.1)), ())))))
     (.done (none)))
    (.done (optF (none) (pontagelaw19_awake ((), ())) fun y2 =>
    some ((y2.1.1, ()), ()))))
 K0 ((c, (f, (g, ((d, (y0.1.1, ())), ((I.of .i64 0), ()))))), (a, (b, ())))

/-- pontage/pontageref19.Next -/
noncomputable def pontageref19_Next (x : (⟨[.pl (.arr 4 (.int .u64)), .pl (.cons .bool (.cons (.arr 4 (.int .u64)) .nil)), .pl (.cons .bool (.cons (.arr 4 (.int .u64)) .nil)), .pl (.int .u64), .pl (.cons (.int .u64) (.cons (.int .u64) (.cons (.int .u64) (.cons (.arr 4 (.int .u64)) (.cons (.int .u64) (.cons (.arr 4 (.int .u64)) (.cons (.int .u64) (.cons (.arr 4 (.int .u64)) (.cons (.int .u64) (.cons (.int .u64) (.cons (.int .u64) (.cons (.int .u64) .nil))))))))))))], []⟩ : Tm).D) : Option (⟨[.pl (.arr 4 (.int .u64)), .pl (.int .i64)], []⟩ : Tm).D :=
 let a : (I .u64) × (I .u64) × (I .u64) × (I .u64) × Unit := x.1.1
 let b : (Bool) × ((I .u64) × (I .u64) × (I .u64) × (I .u64) × Unit) × Unit := x.1.2.1
 let c : (Bool) × ((I .u64) × (I .u64) × (I .u64) × (I .u64) × Unit) × Unit := x.1.2.2.1
 let d : I .u64 := x.1.2.2.2.1
 let e : (I .u64) × (I .u64) × (I .u64) × ((I .u64) × (I .u64) × (I .u64) × (I .u64) × Unit) × (I .u64) × ((I .u64) × (I .u64) × (I .u64) × (I .u64) × Unit) × (I .u64) × ((I .u64) × (I .u64) × (I .u64) × (I .u64) × Unit) × (I .u64) × (I .u64) × (I .u64) × (I .u64) × Unit := x.1.2.2.2.2.1
 optF (none) (pontageref12_Valid ((e, ()), ())) fun y0 =>
 brn (bnot y0.1.1)
  (some ((((I.of .u64 0), ((I.of .u64 0), ((I.of .u64 0), ((I.of .u64 0), ())))), ((I.of .i64 15), ())), ()))
  (jn (fun (x1 : (((I .u64) × Unit) × (((I .u64) × ((I .u64) × ((I .u64) × ((I .u64) × Unit)))) × ((Bool × (((I .u64) × ((I .u64) × ((I .u64) × ((I .u64) × Unit)))) × Unit)) × ((Bool × (((I .u64) × ((I .u64) × ((I .u64) × ((I .u64) × Unit)))) × Unit)) × (((I .u64) × ((I .u64) × ((I .u64) × (((I .u64) × ((I .u64) × ((I .u64) × ((I .u64) × Unit)))) × ((I .u64) × (((I .u64) × ((I .u64) × ((I .u64) × ((I .u64) × Unit)))) × ((I .u64) × (((I .u64) × ((I .u64) × ((I .u64) × ((I .u64) × Unit)))) × ((I .u64) × ((I .u64) × ((I .u64) × ((I .u64) × Unit)))))))))))) × (((I .u64) × ((I .u64) × ((I .u64) × ((I .u64) × Unit)))) × Unit))))))) =>
    brn (@I.eqb .u64 x1.1.1 (I.of .u64 0))
     (some ((x1.2.1, ((I.of .i64 0), ())), ()))
     (optF (none) (pontageref19_Delta ((x1.2.2.1, (x1.2.2.2.1, (x1.1.1, (x1.2.2.2.2.1, ())))), ())) fun y2 =>
     brn (@I.neb .i64 y2.1.2.1 (I.of .i64 0))
      (some ((((I.of .u64 0), ((I.of .u64 0), ((I.of .u64 0), ((I.of .u64 0), ())))), (y2.1.2.1, ())), ()))
      (optF (none) (pontageref3_AddClamped ((x1.2.1, (y2.1.1, ())), ())) fun y3 =>
      some ((y3.1.1, (y3.1.2.1, ())), ())))) fun j1 =>
  optF (none) (pontageref3_Valid ((b, ()), ())) fun y2 =>
  brn (bnot y2.1.1)
   (some ((((I.of .u64 0), ((I.of .u64 0), ((I.of .u64 0), ((I.of .u64 0), ())))), ((I.of .i64 2), ())), ()))
   (optF (none) (pontageref3_Valid ((c, ()), ())) fun y3 =>
   brn (bnot y3.1.1)
    (some ((((I.of .u64 0), ((I.of .u64 0), ((I.of .u64 0), ((I.of .u64 0), ())))), ((I.of .i64 2), ())), ()))
    (j1 ((d, ()), (a, (b, (c, (e, (((I.of .u64 0), ((I.of .u64 0), ((I.of .u64 0), ((I.of .u64 0), ())))), ())))))))))

/-- pontage/pontagelaw19.L1PriceNext -/
noncomputable def pontagelaw19_L1PriceNext (x : (⟨[.pl (.arr 4 (.int .u64)), .pl (.cons .bool (.cons (.arr 4 (.int .u64)) .nil)), .pl (.cons .bool (.cons (.arr 4 (.int .u64)) .nil)), .pl (.int .u64), .pl (.cons (.int .u64) (.cons (.int .u64) (.cons (.int .u64) (.cons (.arr 4 (.int .u64)) (.cons (.int .u64) (.cons (.arr 4 (.int .u64)) (.cons (.int .u64) (.cons (.arr 4 (.int .u64)) (.cons (.int .u64) (.cons (.int .u64) (.cons (.int .u64) (.cons (.int .u64) .nil)))))))))))), .pl (.arr 8 (.int .u64)), .pl (.int .u64), .pl (.int .u64), .pl (.int .u64), .pl .bool, .pl .bool], []⟩ : Tm).D) : Option (⟨[.pl .bool], []⟩ : Tm).D :=
 let a : (I .u64) × (I .u64) × (I .u64) × (I .u64) × Unit := x.1.1
 let b : (Bool) × ((I .u64) × (I .u64) × (I .u64) × (I .u64) × Unit) × Unit := x.1.2.1
 let c : (Bool) × ((I .u64) × (I .u64) × (I .u64) × (I .u64) × Unit) × Unit := x.1.2.2.1
 let d : I .u64 := x.1.2.2.2.1
 let e : (I .u64) × (I .u64) × (I .u64) × ((I .u64) × (I .u64) × (I .u64) × (I .u64) × Unit) × (I .u64) × ((I .u64) × (I .u64) × (I .u64) × (I .u64) × Unit) × (I .u64) × ((I .u64) × (I .u64) × (I .u64) × (I .u64) × Unit) × (I .u64) × (I .u64) × (I .u64) × (I .u64) × Unit := x.1.2.2.2.2.1
 let f : (I .u64) × (I .u64) × (I .u64) × (I .u64) × (I .u64) × (I .u64) × (I .u64) × (I .u64) × Unit := x.1.2.2.2.2.2.1
 let g : I .u64 := x.1.2.2.2.2.2.2.1
 let h : I .u64 := x.1.2.2.2.2.2.2.2.1
 let i : I .u64 := x.1.2.2.2.2.2.2.2.2.1
 let j : Bool := x.1.2.2.2.2.2.2.2.2.2.1
 let l : Bool := x.1.2.2.2.2.2.2.2.2.2.2.1
 optF (none) (int256_New ((j, ((h, ((@I.rem .u64 i (I.of .u64 1000)), ((I.of .u64 0), ((I.of .u64 0), ())))), ())), ())) fun y0 =>
 optF (none) (int256_New ((l, ((i, ((@I.rem .u64 h (I.of .u64 1000)), ((I.of .u64 0), ((I.of .u64 0), ())))), ())), ())) fun y1 =>
 optF (none) (pontagelaw14_ValidParams ((f, ()), ())) fun y2 =>
 iter (none) (fun x3 =>
   brn (@I.ltb .i64 x3.1.2.2.2.1 (I.of .i64 2))
    (brn (@inB .i64 x3.1.2.2.2.1 2)
     (iter (.done (none)) (fun x4 =>
       brn (@I.ltb .i64 x4.1.2.2.2.2.2.1 (I.of .i64 2))
        (brn (@inB .i64 x4.1.2.2.2.2.2.1 2)
         (optF (.done (.done (none))) (l1price_Next ((x4.2.1, (x4.2.2.1, (x4.2.2.2.1, ((@Arr.sel (I .u64) (I.of .u64 0) 2 x4.1.2.2.2.2.1 (@I.nat .i64 x4.1.2.2.2.2.2.1)), (x4.2.2.2.2.2.2.1, ()))))), ())) fun y5 =>
         optF (.done (.done (none))) (pontageref19_Next ((x4.2.1, (x4.2.2.1, (x4.2.2.2.1, ((@Arr.sel (I .u64) (I.of .u64 0) 2 x4.1.2.2.2.2.1 (@I.nat .i64 x4.1.2.2.2.2.2.1)), (x4.2.2.2.2.2.2.1, ()))))), ())) fun y6 =>
         optF (.done (.done (none))) (l1price_Next (((x4.1.2.1, ((I.of .u64 0), ((I.of .u64 0), ((I.of .u64 0), ())))), (x4.2.2.2.2.1, (x4.2.2.2.2.2.1, ((@Arr.sel (I .u64) (I.of .u64 0) 2 x4.1.2.2.2.2.1 (@I.nat .i64 x4.1.2.2.2.2.2.1)), (x4.2.2.2.2.2.2.1, ()))))), ())) fun y7 =>
         optF (.done (.done (none))) (pontageref19_Next (((x4.1.2.1, ((I.of .u64 0), ((I.of .u64 0), ((I.of .u64 0), ())))), (x4.2.2.2.2.1, (x4.2.2.2.2.2.1, ((@Arr.sel (I .u64) (I.of .u64 0) 2 x4.1.2.2.2.2.1 (@I.nat .i64 x4.1.2.2.2.2.2.1)), (x4.2.2.2.2.2.2.1, ()))))), ())) fun y8 =>
         brn (bnot (Ty.eqb (.arr 4 (.int .u64)) y5.1.1 y6.1.1))
          (.done (.done (some ((false, ()), ()))))
          (brn (@I.neb .i64 y5.1.2.1 y6.1.2.1)
           (.done (.done (some ((false, ()), ()))))
           (brn (bnot (Ty.eqb (.arr 4 (.int .u64)) y7.1.1 y8.1.1))
            (.done (.done (some ((false, ()), ()))))
            (brn (@I.neb .i64 y7.1.2.1 y8.1.2.1)
             (.done (.done (some ((false, ()), ()))))
             (.again ((x4.1.1, (x4.1.2.1, (x4.1.2.2.1, (x4.1.2.2.2.1, (x4.1.2.2.2.2.1, ((@I.add .i64 x4.1.2.2.2.2.2.1 (I.of .i64 1)), ())))))), (x4.2.1, (x4.2.2.1, (x4.2.2.2.1, (x4.2.2.2.2.1, (x4.2.2.2.2.2.1, (x4.2.2.2.2.2.2.1, ()))))))))))))
         (.done (.done (none))))
        (.done (.again ((x4.1.1, (x4.1.2.1, (x4.1.2.2.1, ((@I.add .i64 x4.1.2.2.2.1 (I.of .i64 1)), ())))), (x4.2.1, (x4.2.2.1, (x4.2.2.2.1, (x4.2.2.2.2.1, (x4.2.2.2.2.2.1, ())))))))))
     K0 ((x3.1.1, (x3.1.2.1, (x3.1.2.2.1, (x3.1.2.2.2.1, ((x3.1.1, ((@I.rem .u64 x3.1.1 (I.of .u64 1000)), ())), ((I.of .i64 0), ())))))), (x3.2.1, (x3.2.2.1, (x3.2.2.2.1, (x3.2.2.2.2.1, (x3.2.2.2.2.2.1, ((@Arr.sel ((I .u64) × ((I .u64) × ((I .u64) × (((I .u64) × ((I .u64) × ((I .u64) × ((I .u64) × Unit)))) × ((I .u64) × (((I .u64) × ((I .u64) × ((I .u64) × ((I .u64) × Unit)))) × ((I .u64) × (((I .u64) × ((I .u64) × ((I .u64) × ((I .u64) × Unit)))) × ((I .u64) × ((I .u64) × ((I .u64) × ((I .u64) × Unit)))))))))))) ((I.of .u64 0), ((I.of .u64 0), ((I.of .u64 0), (((I.of .u64 0), ((I.of .u64 0), ((I.of .u64 0), ((I.of .u64 0), ())))), ((I.of .u64 0), (((I.of .u64 0), ((I.of .u64 0), ((I.of .u64 0), ((I.of .u64 0), ())))), ((I.of .u64 0), (((I.of .u64 0), ((I.of .u64 0), ((I.of .u64 0), ((I.of .u64 0), ())))), ((I.of .u64 0), ((I.of .u64 0), ((I.of .u64 0), ((I.of .u64 0), ())))))))))))) 2 x3.1.2.2.1 (@I.nat .i64 x3.1.2.2.2.1)), ()))))))))
     (.done (none)))
    (.done (optF (none) (pontagelaw19_awake ((), ())) fun y4 =>
    some ((y4.1.1, ()), ()))))
 K0 ((d, (g, ((e, (y2.1.1, ())), ((I.of .i64 0), ())))), (a, (b, (c, (y0.1.1, (y1.1.1, ()))))))

/-- pontage/pontagelaw19.L1PriceUnchanged -/
noncomputable def pontagelaw19_L1PriceUnchanged (x : (⟨[.pl (.arr 4 (.int .u64)), .pl (.cons .bool (.cons (.arr 4 (.int .u64)) .nil)), .pl (.cons .bool (.cons (.arr 4 (.int .u64)) .nil)), .pl (.int .u64), .pl (.arr 8 (.int .u64))], []⟩ : Tm).D) : Option (⟨[.pl .bool], []⟩ : Tm).D :=
 let a : (I .u64) × (I .u64) × (I .u64) × (I .u64) × Unit := x.1.1
 let b : (Bool) × ((I .u64) × (I .u64) × (I .u64) × (I .u64) × Unit) × Unit := x.1.2.1
 let c : (Bool) × ((I .u64) × (I .u64) × (I .u64) × (I .u64) × Unit) × Unit := x.1.2.2.1
 let d : I .u64 := x.1.2.2.2.1
 let e : (I .u64) × (I .u64) × (I .u64) × (I .u64) × (I .u64) × (I .u64) × (I .u64) × (I .u64) × Unit := x.1.2.2.2.2.1
 optF (none) (pontagelaw14_ValidParams ((e, ()), ())) fun y0 =>
 jn (fun (x1 : (((I .u64) × Unit) × (((I .u64) × ((I .u64) × ((I .u64) × ((I .u64) × Unit)))) × ((Bool × (((I .u64) × ((I .u64) × ((I .u64) × ((I .u64) × Unit)))) × Unit)) × ((Bool × (((I .u64) × ((I .u64) × ((I .u64) × ((I .u64) × Unit)))) × Unit)) × (((I .u64) × ((I .u64) × ((I .u64) × (((I .u64) × ((I .u64) × ((I .u64) × ((I .u64) × Unit)))) × ((I .u64) × (((I .u64) × ((I .u64) × ((I .u64) × ((I .u64) × Unit)))) × ((I .u64) × (((I .u64) × ((I .u64) × ((I .u64) × ((I .u64) × Unit)))) × ((I .u64) × ((I .u64) × ((I .u64) × ((I .u64) × Unit)))))))))))) × Unit)))))) =>
   optF (none) (l1price_Next ((x1.2.1, (x1.2.2.1, (x1.2.2.2.1, ((I.of .u64 0), (x1.2.2.2.2.1, ()))))), ())) fun y2 =>
   optF (none) (l1price_Next ((x1.2.1, ((false, (((I.of .u64 0), ((I.of .u64 0), ((I.of .u64 0), ((I.of .u64 0), ())))), ())), ((false, (((I.of .u64 0), ((I.of .u64 0), ((I.of .u64 0), ((I.of .u64 0), ())))), ())), ((@I.add .u64 (I.of .u64 1) (@I.rem .u64 x1.1.1 (I.of .u64 1000000))), (x1.2.2.2.2.1, ()))))), ())) fun y3 =>
   brn (Ty.eqb (.arr 4 (.int .u64)) y2.1.1 x1.2.1)
    (brn (@I.eqb .i64 y2.1.2.1 (I.of .i64 0))
     (brn (Ty.eqb (.arr 4 (.int .u64)) y3.1.1 x1.2.1)
      (brn (@I.eqb .i64 y3.1.2.1 (I.of .i64 0))
       (optF (none) (pontagelaw19_awake ((), ())) fun y4 =>
       some ((y4.1.1, ()), ()))
       (some ((false, ()), ())))
      (some ((false, ()), ())))
     (some ((false, ()), ())))
    (some ((false, ()), ()))) fun j1 =>
 jn (fun (x2 : (((I .u64) × (Bool × Unit)) × (((I .u64) × ((I .u64) × ((I .u64) × ((I .u64) × Unit)))) × ((Bool × (((I .u64) × ((I .u64) × ((I .u64) × ((I .u64) × Unit)))) × Unit)) × ((Bool × (((I .u64) × ((I .u64) × ((I .u64) × ((I .u64) × Unit)))) × Unit)) × (((I .u64) × ((I .u64) × ((I .u64) × (((I .u64) × ((I .u64) × ((I .u64) × ((I .u64) × Unit)))) × ((I .u64) × (((I .u64) × ((I .u64) × ((I .u64) × ((I .u64) × Unit)))) × ((I .u64) × (((I .u64) × ((I .u64) × ((I .u64) × ((I .u64) × Unit)))) × ((I .u64) × ((I .u64) × ((I .u64) × ((I .u64) × Unit)))))))))))) × Unit)))))) =>
   brn x2.1.2.1
    (optF (none) (pontagelaw19_awake ((), ())) fun y3 =>
    some ((y3.1.1, ()), ()))
    (j1 ((x2.1.1, ()), (x2.2.1, (x2.2.2.1, (x2.2.2.2.1, (x2.2.2.2.2.1, ()))))))) fun j2 =>
 optF (none) (int256_Valid ((b, ()), ())) fun y3 =>
 brn (bnot y3.1.1)
  (j2 ((d, (true, ())), (a, (b, (c, (y0.1.1, ()))))))
  (optF (none) (int256_Valid ((c, ()), ())) fun y4 =>
  j2 ((d, ((bnot y4.1.1), ())), (a, (b, (c, (y0.1.1, ()))))))

/-- pontage/pontagelaw19.L1PriceDirection -/
noncomputable def pontagelaw19_L1PriceDirection (x : (⟨[.pl (.int .u64), .pl (.int .u64), .pl (.int .u64), .pl (.arr 8 (.int .u64))], []⟩ : Tm).D) : Option (⟨[.pl .bool], []⟩ : Tm).D :=
 let a : I .u64 := x.1.1
 let b : I .u64 := x.1.2.1
 let c : I .u64 := x.1.2.2.1
 let d : (I .u64) × (I .u64) × (I .u64) × (I .u64) × (I .u64) × (I .u64) × (I .u64) × (I .u64) × Unit := x.1.2.2.2.1
 optF (none) (pontagelaw14_ValidParams ((d, ()), ())) fun y0 =>
 optF (none) (int256_New ((true, ((b, ((I.of .u64 0), ((I.of .u64 0), ((I.of .u64 0), ())))), ())), ())) fun y1 =>
 optF (none) (int256_New ((false, ((b, ((I.of .u64 0), ((I.of .u64 0), ((I.of .u64 0), ())))), ())), ())) fun y2 =>
 optF (none) (l1price_Next (((a, ((I.of .u64 0), ((I.of .u64 0), ((I.of .u64 0), ())))), (y1.1.1, (y1.1.1, ((@I.add .u64 (I.of .u64 1) (@I.rem .u64 c (I.of .u64 1000000))), (y0.1.1, ()))))), ())) fun y3 =>
 optF (none) (l1price_Next (((a, ((I.of .u64 0), ((I.of .u64 0), ((I.of .u64 0), ())))), (y2.1.1, (y2.1.1, ((@I.add .u64 (I.of .u64 1) (@I.rem .u64 c (I.of .u64 1000000))), (y0.1.1, ()))))), ())) fun y4 =>
 brn (@I.eqb .i64 y3.1.2.1 (I.of .i64 0))
  (brn (@I.eqb .i64 y4.1.2.1 (I.of .i64 0))
   (optF (none) (uint256_Cmp ((y3.1.1, ((a, ((I.of .u64 0), ((I.of .u64 0), ((I.of .u64 0), ())))), ())), ())) fun y5 =>
   brn (@I.leb .i64 (I.of .i64 0) y5.1.1)
    (optF (none) (uint256_Cmp ((y4.1.1, ((a, ((I.of .u64 0), ((I.of .u64 0), ((I.of .u64 0), ())))), ())), ())) fun y6 =>
    brn (@I.leb .i64 y6.1.1 (I.of .i64 0))
     (optF (none) (pontagelaw19_awake ((), ())) fun y7 =>
     some ((y7.1.1, ()), ()))
     (some ((false, ()), ())))
    (some ((false, ()), ())))
   (some ((false, ()), ())))
  (some ((false, ()), ()))

/-- pontage/l1price.Surplus -/
noncomputable def l1price_Surplus (x : (⟨[.pl (.arr 4 (.int .u64)), .pl (.arr 4 (.int .u64))], []⟩ : Tm).D) : Option (⟨[.pl (.cons .bool (.cons (.arr 4 (.int .u64)) .nil))], []⟩ : Tm).D :=
 let a : (I .u64) × (I .u64) × (I .u64) × (I .u64) × Unit := x.1.1
 let b : (I .u64) × (I .u64) × (I .u64) × (I .u64) × Unit := x.1.2.1
 optF (none) (int256_Diff ((a, (b, ())), ())) fun y0 =>
 some ((y0.1.1, ()), ())

/-- pontage/pontagelaw19.L1PriceSurplus -/
noncomputable def pontagelaw19_L1PriceSurplus (x : (⟨[.pl (.arr 4 (.int .u64)), .pl (.arr 4 (.int .u64))], []⟩ : Tm).D) : Option (⟨[.pl .bool], []⟩ : Tm).D :=
 let a : (I .u64) × (I .u64) × (I .u64) × (I .u64) × Unit := x.1.1
 let b : (I .u64) × (I .u64) × (I .u64) × (I .u64) × Unit := x.1.2.1
 optF (none) (l1price_Surplus ((a, (b, ())), ())) fun y0 =>
 optF (none) (int256_AddClamped ((b, (y0.1.1, ())), ())) fun y1 =>
 optF (none) (pontageref3_Diff ((a, (b, ())), ())) fun y2 =>
 brn (Ty.eqb (.cons .bool (.cons (.arr 4 (.int .u64)) .nil)) y0.1.1 y2.1.1)
  (optF (none) (int256_Valid ((y0.1.1, ()), ())) fun y3 =>
  brn y3.1.1
   (optF (none) (uint256_Cmp ((a, (b, ())), ())) fun y4 =>
   brn (Ty.eqb .bool y0.1.1.1 (@I.ltb .i64 y4.1.1 (I.of .i64 0)))
    (brn (Ty.eqb (.arr 4 (.int .u64)) y1.1.1 a)
     (brn (@I.eqb .i64 y1.1.2.1 (I.of .i64 0))
      (optF (none) (pontagelaw19_awake ((), ())) fun y5 =>
      some ((y5.1.1, ()), ()))
      (some ((false, ()), ())))
     (some ((false, ()), ())))
    (some ((false, ()), ())))
   (some ((false, ()), ())))
  (some ((false, ()), ()))

/-- pontage/pontagelaw19.L1priceDamped -/
noncomputable def pontagelaw19_L1priceDamped (x : (⟨[.pl (.int .i64), .pl (.int .i64), .pl (.int .u64), .pl (.arr 8 (.int .u64))], []⟩ : Tm).D) : Option (⟨[.pl .bool], []⟩ : Tm).D :=
 let a : I .i64 := x.1.1
 let b : I .i64 := x.1.2.1
 let c : I .u64 := x.1.2.2.1
 let d : (I .u64) × (I .u64) × (I .u64) × (I .u64) × (I .u64) × (I .u64) × (I .u64) × (I .u64) × Unit := x.1.2.2.2.1
 optF (none) (pontagelaw14_ValidParams ((d, ()), ())) fun y0 =>
 optF (none) (int256_FromInt64 ((a, ()), ())) fun y1 =>
 optF (none) (int256_FromInt64 ((b, ()), ())) fun y2 =>
 optF (none) (int256_Neg ((y1.1.1, ()), ())) fun y3 =>
 optF (none) (int256_Sub ((y1.1.1, (y2.1.1, ())), ())) fun y4 =>
 optF (none) (int256_DivFloor ((y3.1.1, ((y0.1.1.2.2.2.2.2.2.2.2.1, ((I.of .u64 0), ((I.of .u64 0), ((I.of .u64 0), ())))), ())), ())) fun y5 =>
 optF (none) (int256_DivFloor ((y4.1.1, (((@I.add .u64 (I.of .u64 1) (@I.rem .u64 c (I.of .u64 1099511627776))), ((I.of .u64 0), ((I.of .u64 0), ((I.of .u64 0), ())))), ())), ())) fun y6 =>
 optF (none) (int256_Sub ((y5.1.1, (y6.1.1, ())), ())) fun y7 =>
 optF (none) (l1price_Delta ((y1.1.1, (y2.1.1, ((@I.add .u64 (I.of .u64 1) (@I.rem .u64 c (I.of .u64 1099511627776))), (y0.1.1, ())))), ())) fun y8 =>
 jn (fun (x9 : (Unit × ((Bool × (((I .u64) × ((I .u64) × ((I .u64) × ((I .u64) × Unit)))) × Unit)) × ((Bool × (((I .u64) × ((I .u64) × ((I .u64) × ((I .u64) × Unit)))) × Unit)) × Unit)))) =>
   brn x9.2.1.1
    (brn x9.2.2.1.1
     (optF (none) (int256_Cmp ((x9.2.1, (x9.2.2.1, ())), ())) fun y10 =>
     brn (@I.leb .i64 y10.1.1 (I.of .i64 0))
      (optF (none) (pontagelaw19_awake ((), ())) fun y11 =>
      some ((y11.1.1, ()), ()))
      (some ((false, ()), ())))
     (some ((false, ()), ())))
    (brn (bnot x9.2.2.1.1)
     (optF (none) (int256_Cmp ((x9.2.2.1, (x9.2.1, ())), ())) fun y10 =>
     brn (@I.leb .i64 y10.1.1 (I.of .i64 0))
      (optF (none) (pontagelaw19_awake ((), ())) fun y11 =>
      some ((y11.1.1, ()), ()))
      (some ((false, ()), ())))
     (some ((false, ()), ())))) fun j9 =>
 brn (@I.neb .i64 y3.1.2.1 (I.of .i64 0))
  (some ((false, ()), ()))
  (brn (@I.neb .i64 y4.1.2.1 (I.of .i64 0))
   (some ((false, ()), ()))
   (brn (@I.neb .i64 y5.1.2.1 (I.of .i64 0))
    (some ((false, ()), ()))
    (brn (@I.neb .i64 y6.1.2.1 (I.of .i64 0))
     (some ((false, ()), ()))
     (brn (@I.neb .i64 y7.1.2.1 (I.of .i64 0))
      (some ((false, ()), ()))
      (brn (@I.neb .i64 y8.1.2.1 (I.of .i64 0))
       (some ((false, ()), ()))
       (j9 ((), (y7.1.1, (y8.1.1, ())))))))))

end Sym

/- The given functions as plain functions, as the printer told them. -/
namespace Sym
open Go

/-- pontage/lz.matchLen -/
noncomputable def lz_matchLen (x : (⟨[.pl (.sl (.int .u8)), .pl (.int .i64), .pl (.int .i64), .pl (.int .i64)], []⟩ : Tm).D) : Option (⟨[.pl (.int .i64)], []⟩ : Tm).D :=
 let a : List (I .u8) := x.1.1
 let b : I .i64 := x.1.2.1
 let c : I .i64 := x.1.2.2.1
 let d : I .i64 := x.1.2.2.2.1
 iter (none) (fun x0 =>
   brn (@I.ltb .i64 x0.1.2.2.2.2.1 x0.1.2.2.2.1)
    (brn (@inB .i64 (@I.add .i64 x0.1.2.1 x0.1.2.2.2.2.1) (@lenL (I .u8) x0.1.1))
     (brn (@inB .i64 (@I.sub .i64 (@I.add .i64 x0.1.2.1 x0.1.2.2.2.2.1) x0.1.2.2.1) (@lenL (I .u8) x0.1.1))
      (brn (@I.eqb .u8 (@rdL (I .u8) (I.of .u8 0) x0.1.1 (@I.nat .i64 (@I.add .i64 x0.1.2.1 x0.1.2.2.2.2.1))) (@rdL (I .u8) (I.of .u8 0) x0.1.1 (@I.nat .i64 (@I.sub .i64 (@I.add .i64 x0.1.2.1 x0.1.2.2.2.2.1) x0.1.2.2.1))))
       (.again ((x0.1.1, (x0.1.2.1, (x0.1.2.2.1, (x0.1.2.2.2.1, ((@I.add .i64 x0.1.2.2.2.2.1 (I.of .i64 1)), ()))))), ()))
       (.done (some ((x0.1.2.2.2.2.1, ()), ()))))
      (.done (none)))
     (.done (none)))
    (.done (some ((x0.1.2.2.2.2.1, ()), ()))))
 K0 ((a, (b, (c, (d, ((I.of .i64 0), ()))))), ())

/-- pontage/lz.longestMatch -/
noncomputable def lz_longestMatch (x : (⟨[.pl (.sl (.int .u8)), .pl (.int .i64)], []⟩ : Tm).D) : Option (⟨[.pl (.int .i64), .pl (.int .i64)], []⟩ : Tm).D :=
 let a : List (I .u8) := x.1.1
 let b : I .i64 := x.1.2.1
 iter (none) (fun x0 =>
   jn (fun (x1 : (((List (I .u8)) × ((I .i64) × ((I .i64) × ((I .i64) × ((I .i64) × ((I .i64) × ((I .i64) × ((I .i64) × (Bool × Unit))))))))) × Unit)) =>
     optF (.done (none)) (lz_matchLen ((x1.1.1, (x1.1.2.1, (x1.1.2.2.2.2.2.1, (x1.1.2.2.2.2.1, ())))), ())) fun y2 =>
     brn (@I.ltb .i64 x1.1.2.2.1 y2.1.1)
      (.again ((x1.1.1, (x1.1.2.1, (y2.1.1, (x1.1.2.2.2.2.2.1, (x1.1.2.2.2.2.1, ((@I.add .i64 x1.1.2.2.2.2.2.1 (I.of .i64 1)), ())))))), ()))
      (.again ((x1.1.1, (x1.1.2.1, (x1.1.2.2.1, (x1.1.2.2.2.1, (x1.1.2.2.2.2.1, ((@I.add .i64 x1.1.2.2.2.2.2.1 (I.of .i64 1)), ())))))), ()))) fun j1 =>
   brn (@I.leb .i64 x0.1.2.2.2.2.2.1 (@I.mn .i64 (I.of .i64 1024) x0.1.2.1))
    (brn (@I.ltb .i64 x0.1.2.2.1 x0.1.2.2.2.2.1)
     (j1 ((x0.1.1, (x0.1.2.1, (x0.1.2.2.1, (x0.1.2.2.2.1, (x0.1.2.2.2.2.1, (x0.1.2.2.2.2.2.1, (x0.1.2.2.1, (x0.1.2.2.2.2.1, ((@I.ltb .i64 x0.1.2.2.1 x0.1.2.2.2.2.1), ()))))))))), ()))
     (.done (some ((x0.1.2.2.1, (x0.1.2.2.2.1, ())), ()))))
    (.done (some ((x0.1.2.2.1, (x0.1.2.2.2.1, ())), ()))))
 K0 ((a, (b, ((I.of .i64 0), ((I.of .i64 0), ((@I.mn .i64 (I.of .i64 131) (@I.sub .i64 (I.ofNat .i64 (@lenL (I .u8) a)) b)), ((I.of .i64 1), ())))))), ())

/-- pontage/lz.Compress -/
noncomputable def lz_Compress (x : (⟨[.pl (.sl (.int .u8))], []⟩ : Tm).D) : Option (⟨[.pl (.sl (.int .u8))], []⟩ : Tm).D :=
 let a : List (I .u8) := x.1.1
 iter (none) (fun x0 =>
   brn (@I.ltb .i64 x0.1.2.2.1 (I.ofNat .i64 (@lenL (I .u8) x0.1.1)))
    (optF (.done (none)) (lz_longestMatch ((x0.1.1, (x0.1.2.2.1, ())), ())) fun y1 =>
    brn (@I.ltb .i64 y1.1.1 (I.of .i64 4))
     (.again ((x0.1.1, (x0.1.2.1, ((@I.add .i64 x0.1.2.2.1 (I.of .i64 1)), ()))), (x0.2.1, ())))
     (brn (@inB' .i64 x0.1.2.1 (@I.nat .i64 x0.1.2.2.1))
      (brn (@inB' .i64 x0.1.2.2.1 (@lenL (I .u8) x0.1.1))
       (iter (.done (none)) (fun x2 =>
         brn (@I.ltb .i64 (I.of .i64 0) (I.ofNat .i64 (@lenL (I .u8) x2.1.1)))
          (brn (fitsLen (@lenL (I .u8) (@appL (I .u8) x2.2.1 ((I.conv (k := .i64) .u8 (@I.mn .i64 (I.ofNat .i64 (@lenL (I .u8) x2.1.1)) (I.of .i64 127))) :: []))))
           (brn (@inB' .i64 (@I.mn .i64 (I.ofNat .i64 (@lenL (I .u8) x2.1.1)) (I.of .i64 127)) (@lenL (I .u8) x2.1.1))
            (brn (fitsLen (@lenL (I .u8) (@appL (I .u8) (@appL (I .u8) x2.2.1 ((I.conv (k := .i64) .u8 (@I.mn .i64 (I.ofNat .i64 (@lenL (I .u8) x2.1.1)) (I.of .i64 127))) :: [])) (@subL (I .u8) x2.1.1 0 (@I.nat .i64 (@I.mn .i64 (I.ofNat .i64 (@lenL (I .u8) x2.1.1)) (I.of .i64 127)))))))
             (brn (@inB' .i64 (@I.mn .i64 (I.ofNat .i64 (@lenL (I .u8) x2.1.1)) (I.of .i64 127)) (@lenL (I .u8) x2.1.1))
              (.again (((@subL (I .u8) x2.1.1 (@I.nat .i64 (@I.mn .i64 (I.ofNat .i64 (@lenL (I .u8) x2.1.1)) (I.of .i64 127))) ((@lenL (I .u8) x2.1.1) - (@I.nat .i64 (@I.mn .i64 (I.ofNat .i64 (@lenL (I .u8) x2.1.1)) (I.of .i64 127))))), (x2.1.2.1, (x2.1.2.2.1, (x2.1.2.2.2.1, (x2.1.2.2.2.2.1, ()))))), ((@appL (I .u8) (@appL (I .u8) x2.2.1 ((I.conv (k := .i64) .u8 (@I.mn .i64 (I.ofNat .i64 (@lenL (I .u8) x2.1.1)) (I.of .i64 127))) :: [])) (@subL (I .u8) x2.1.1 0 (@I.nat .i64 (@I.mn .i64 (I.ofNat .i64 (@lenL (I .u8) x2.1.1)) (I.of .i64 127))))), ())))
              (.done (.done (none))))
             (.done (.done (none))))
            (.done (.done (none))))
           (.done (.done (none))))
          (.done (brn (fitsLen (@lenL (I .u8) (@appL (I .u8) x2.2.1 ((I.conv (k := .i64) .u8 (@I.add .i64 x2.1.2.2.2.1 (I.of .i64 124))) :: ((I.conv (k := .i64) .u8 (@I.shr .i64 .u64 (@I.sub .i64 x2.1.2.2.2.2.1 (I.of .i64 1)) (I.of .u64 8))) :: ((I.conv (k := .i64) .u8 (@I.sub .i64 x2.1.2.2.2.2.1 (I.of .i64 1))) :: []))))))
           (.again ((x2.1.2.1, ((@I.add .i64 x2.1.2.2.1 x2.1.2.2.2.1), ((@I.add .i64 x2.1.2.2.1 x2.1.2.2.2.1), ()))), ((@appL (I .u8) x2.2.1 ((I.conv (k := .i64) .u8 (@I.add .i64 x2.1.2.2.2.1 (I.of .i64 124))) :: ((I.conv (k := .i64) .u8 (@I.shr .i64 .u64 (@I.sub .i64 x2.1.2.2.2.2.1 (I.of .i64 1)) (I.of .u64 8))) :: ((I.conv (k := .i64) .u8 (@I.sub .i64 x2.1.2.2.2.2.1 (I.of .i64 1))) :: [])))), ())))
           (.done (none)))))
       K0 (((@subL (I .u8) x0.1.1 (@I.nat .i64 x0.1.2.1) ((@I.nat .i64 x0.1.2.2.1) - (@I.nat .i64 x0.1.2.1))), (x0.1.1, (x0.1.2.2.1, (y1.1.1, (y1.1.2.1, ()))))), (x0.2.1, ())))
       (.done (none)))
      (.done (none))))
    (.done (brn (@inB' .i64 x0.1.2.1 (@lenL (I .u8) x0.1.1))
     (iter (none) (fun x1 =>
       brn (@I.ltb .i64 (I.of .i64 0) (I.ofNat .i64 (@lenL (I .u8) x1.1.1)))
        (brn (fitsLen (@lenL (I .u8) (@appL (I .u8) x1.2.1 ((I.conv (k := .i64) .u8 (@I.mn .i64 (I.ofNat .i64 (@lenL (I .u8) x1.1.1)) (I.of .i64 127))) :: []))))
         (brn (@inB' .i64 (@I.mn .i64 (I.ofNat .i64 (@lenL (I .u8) x1.1.1)) (I.of .i64 127)) (@lenL (I .u8) x1.1.1))
          (brn (fitsLen (@lenL (I .u8) (@appL (I .u8) (@appL (I .u8) x1.2.1 ((I.conv (k := .i64) .u8 (@I.mn .i64 (I.ofNat .i64 (@lenL (I .u8) x1.1.1)) (I.of .i64 127))) :: [])) (@subL (I .u8) x1.1.1 0 (@I.nat .i64 (@I.mn .i64 (I.ofNat .i64 (@lenL (I .u8) x1.1.1)) (I.of .i64 127)))))))
           (brn (@inB' .i64 (@I.mn .i64 (I.ofNat .i64 (@lenL (I .u8) x1.1.1)) (I.of .i64 127)) (@lenL (I .u8) x1.1.1))
            (.again (((@subL (I .u8) x1.1.1 (@I.nat .i64 (@I.mn .i64 (I.ofNat .i64 (@lenL (I .u8) x1.1.1)) (I.of .i64 127))) ((@lenL (I .u8) x1.1.1) - (@I.nat .i64 (@I.mn .i64 (I.ofNat .i64 (@lenL (I .u8) x1.1.1)) (I.of .i64 127))))), ()), ((@appL (I .u8) (@appL (I .u8) x1.2.1 ((I.conv (k := .i64) .u8 (@I.mn .i64 (I.ofNat .i64 (@lenL (I .u8) x1.1.1)) (I.of .i64 127))) :: [])) (@subL (I .u8) x1.1.1 0 (@I.nat .i64 (@I.mn .i64 (I.ofNat .i64 (@lenL (I .u8) x1.1.1)) (I.of .i64 127))))), ())))
            (.done (none)))
           (.done (none)))
          (.done (none)))
         (.done (none)))
        (.done (some ((x1.2.1, ()), ()))))
     K0 (((@subL (I .u8) x0.1.1 (@I.nat .i64 x0.1.2.1) ((@lenL (I .u8) x0.1.1) - (@I.nat .i64 x0.1.2.1))), ()), (x0.2.1, ())))
     (none))))
 K0 ((a, ((I.of .i64 0), ((I.of .i64 0), ()))), ([], ()))

/-- pontage/sizeest.Units -/
noncomputable def sizeest_Units (x : (⟨[.pl (.sl (.int .u8)), .pl (.int .u64), .pl (.int .u64)], []⟩ : Tm).D) : Option (⟨[.pl (.int .u64), .pl (.int .i64)], []⟩ : Tm).D :=
 let a : List (I .u8) := x.1.1
 let b : I .u64 := x.1.2.1
 let c : I .u64 := x.1.2.2.1
 brn (@I.ltb .u64 c b)
  (some (((I.of .u64 0), ((I.of .i64 2), ())), ()))
  (brn (@I.ltb .i64 (I.of .i64 4096) (I.ofNat .i64 (@lenL (I .u8) a)))
   (some (((I.of .u64 0), ((I.of .i64 6), ())), ()))
   (optF (none) (lz_Compress ((a, ()), ())) fun y0 =>
   some (((@I.mn .u64 (@I.mx .u64 (@I.mul .u64 (I.of .u64 16) (I.conv (k := .i64) .u64 (I.ofNat .i64 (@lenL (I .u8) y0.1.1)))) b) c), ((I.of .i64 0), ())), ())))

/-- pontage/sizeest.Cost -/
noncomputable def sizeest_Cost (x : (⟨[.pl (.int .u64), .pl (.arr 4 (.int .u64))], []⟩ : Tm).D) : Option (⟨[.pl (.arr 4 (.int .u64)), .pl (.int .i64)], []⟩ : Tm).D :=
 let a : I .u64 := x.1.1
 let b : (I .u64) × (I .u64) × (I .u64) × (I .u64) × Unit := x.1.2.1
 optF (none) (uint256_FromUint64 ((a, ()), ())) fun y0 =>
 optF (none) (uint256_Mul ((y0.1.1, (b, ())), ())) fun y1 =>
 some ((y1.1.1, (y1.1.2.1, ())), ())

/-- pontage/uint256.Uint64 -/
noncomputable def uint256_Uint64 (x : (⟨[.pl (.arr 4 (.int .u64))], []⟩ : Tm).D) : Option (⟨[.pl (.int .u64), .pl .bool], []⟩ : Tm).D :=
 let a : (I .u64) × (I .u64) × (I .u64) × (I .u64) × Unit := x.1.1
 brn (@I.neb .u64 (@I.or .u64 (@I.or .u64 a.2.1 a.2.2.1) a.2.2.2.1) (I.of .u64 0))
  (some (((I.of .u64 0), (false, ())), ()))
  (some ((a.1, (true, ())), ()))

/-- pontage/txfee.meter -/
noncomputable def txfee_meter (x : (⟨[.pl (.cons (.int .u64) (.cons (.int .u64) (.cons (.int .u64) (.cons (.arr 4 (.int .u64)) (.cons (.int .u64) (.cons (.arr 4 (.int .u64)) (.cons (.arr 4 (.int .u64)) (.cons (.int .u64) (.cons (.sl (.int .u8)) .nil))))))))), .pl (.arr 4 (.int .u64)), .pl (.arr 4 (.int .u64)), .pl (.cons (.int .u64) (.cons (.int .u64) (.cons (.int .u64) (.cons (.arr 4 (.int .u64)) (.cons (.int .u64) (.cons (.arr 4 (.int .u64)) (.cons (.int .u64) (.cons (.arr 4 (.int .u64)) (.cons (.int .u64) (.cons (.int .u64) (.cons (.int .u64) (.cons (.int .u64) .nil))))))))))))], []⟩ : Tm).D) : Option (⟨[.pl (.cons (.int .u64) (.cons (.int .u64) (.cons (.int .u64) (.cons (.int .u64) (.cons .bool (.cons (.arr 4 (.int .u64)) (.cons (.arr 4 (.int .u64)) (.cons (.arr 4 (.int .u64)) (.cons (.arr 4 (.int .u64)) (.cons (.arr 4 (.int .u64)) .nil)))))))))), .pl (.int .i64)], []⟩ : Tm).D :=
 let a : (I .u64) × (I .u64) × (I .u64) × ((I .u64) × (I .u64) × (I .u64) × (I .u64) × Unit) × (I .u64) × ((I .u64) × (I .u64) × (I .u64) × (I .u64) × Unit) × ((I .u64) × (I .u64) × (I .u64) × (I .u64) × Unit) × (I .u64) × (List (I .u8)) × Unit := x.1.1
 let b : (I .u64) × (I .u64) × (I .u64) × (I .u64) × Unit := x.1.2.1
 let c : (I .u64) × (I .u64) × (I .u64) × (I .u64) × Unit := x.1.2.2.1
 let d : (I .u64) × (I .u64) × (I .u64) × ((I .u64) × (I .u64) × (I .u64) × (I .u64) × Unit) × (I .u64) × ((I .u64) × (I .u64) × (I .u64) × (I .u64) × Unit) × (I .u64) × ((I .u64) × (I .u64) × (I .u64) × (I .u64) × Unit) × (I .u64) × (I .u64) × (I .u64) × (I .u64) × Unit := x.1.2.2.2.1
 optF (none) (sizeest_Units ((a.2.2.2.2.2.2.2.2.1, (d.2.2.2.2.2.2.2.2.2.2.1, (d.2.2.2.2.2.2.2.2.2.2.2.1, ()))), ())) fun y0 =>
 brn (@I.neb .i64 y0.1.2.1 (I.of .i64 0))
  (some ((((I.of .u64 0), ((I.of .u64 0), ((I.of .u64 0), ((I.of .u64 0), (false, (((I.of .u64 0), ((I.of .u64 0), ((I.of .u64 0), ((I.of .u64 0), ())))), (((I.of .u64 0), ((I.of .u64 0), ((I.of .u64 0), ((I.of .u64 0), ())))), (((I.of .u64 0), ((I.of .u64 0), ((I.of .u64 0), ((I.of .u64 0), ())))), (((I.of .u64 0), ((I.of .u64 0), ((I.of .u64 0), ((I.of .u64 0), ())))), (((I.of .u64 0), ((I.of .u64 0), ((I.of .u64 0), ((I.of .u64 0), ())))), ())))))))))), (y0.1.2.1, ())), ()))
  (optF (none) (sizeest_Cost ((y0.1.1, (c, ())), ())) fun y1 =>
  brn (@I.neb .i64 y1.1.2.1 (I.of .i64 0))
   (some ((((I.of .u64 0), ((I.of .u64 0), ((I.of .u64 0), ((I.of .u64 0), (false, (((I.of .u64 0), ((I.of .u64 0), ((I.of .u64 0), ((I.of .u64 0), ())))), (((I.of .u64 0), ((I.of .u64 0), ((I.of .u64 0), ((I.of .u64 0), ())))), (((I.of .u64 0), ((I.of .u64 0), ((I.of .u64 0), ((I.of .u64 0), ())))), (((I.of .u64 0), ((I.of .u64 0), ((I.of .u64 0), ((I.of .u64 0), ())))), (((I.of .u64 0), ((I.of .u64 0), ((I.of .u64 0), ((I.of .u64 0), ())))), ())))))))))), (y1.1.2.1, ())), ()))
   (optF (none) (muldiv_DivMod ((y1.1.1, (b, ())), ())) fun y2 =>
   brn (@I.neb .i64 y2.1.2.2.1 (I.of .i64 0))
    (some ((((I.of .u64 0), ((I.of .u64 0), ((I.of .u64 0), ((I.of .u64 0), (false, (((I.of .u64 0), ((I.of .u64 0), ((I.of .u64 0), ((I.of .u64 0), ())))), (((I.of .u64 0), ((I.of .u64 0), ((I.of .u64 0), ((I.of .u64 0), ())))), (((I.of .u64 0), ((I.of .u64 0), ((I.of .u64 0), ((I.of .u64 0), ())))), (((I.of .u64 0), ((I.of .u64 0), ((I.of .u64 0), ((I.of .u64 0), ())))), (((I.of .u64 0), ((I.of .u64 0), ((I.of .u64 0), ((I.of .u64 0), ())))), ())))))))))), (y2.1.2.2.1, ())), ()))
    (optF (none) (uint256_Uint64 ((y2.1.1, ()), ())) fun y3 =>
    jn (fun (x4 : (((I .u64) × ((I .u64) × Unit)) × (((I .u64) × ((I .u64) × ((I .u64) × (((I .u64) × ((I .u64) × ((I .u64) × ((I .u64) × Unit)))) × ((I .u64) × (((I .u64) × ((I .u64) × ((I .u64) × ((I .u64) × Unit)))) × (((I .u64) × ((I .u64) × ((I .u64) × ((I .u64) × Unit)))) × ((I .u64) × ((List (I .u8)) × Unit))))))))) × (((I .u64) × ((I .u64) × ((I .u64) × ((I .u64) × (Bool × (((I .u64) × ((I .u64) × ((I .u64) × ((I .u64) × Unit)))) × (((I .u64) × ((I .u64) × ((I .u64) × ((I .u64) × Unit)))) × (((I .u64) × ((I .u64) × ((I .u64) × ((I .u64) × Unit)))) × (((I .u64) × ((I .u64) × ((I .u64) × ((I .u64) × Unit)))) × (((I .u64) × ((I .u64) × ((I .u64) × ((I .u64) × Unit)))) × Unit)))))))))) × Unit)))) =>
      some (((x4.1.1, (x4.1.2.1, ((@I.mn .u64 x4.2.1.2.2.2.2.2.2.2.1 (@I.sub .u64 x4.2.1.2.2.2.2.1 x4.1.2.1)), ((@I.add .u64 x4.1.2.1 (@I.mn .u64 x4.2.1.2.2.2.2.2.2.2.1 (@I.sub .u64 x4.2.1.2.2.2.2.1 x4.1.2.1))), ((@I.ltb .u64 (@I.mn .u64 x4.2.1.2.2.2.2.2.2.2.1 (@I.sub .u64 x4.2.1.2.2.2.2.1 x4.1.2.1)) x4.2.1.2.2.2.2.2.2.2.1), (((I.of .u64 0), ((I.of .u64 0), ((I.of .u64 0), ((I.of .u64 0), ())))), (((I.of .u64 0), ((I.of .u64 0), ((I.of .u64 0), ((I.of .u64 0), ())))), (((I.of .u64 0), ((I.of .u64 0), ((I.of .u64 0), ((I.of .u64 0), ())))), (((I.of .u64 0), ((I.of .u64 0), ((I.of .u64 0), ((I.of .u64 0), ())))), (((I.of .u64 0), ((I.of .u64 0), ((I.of .u64 0), ((I.of .u64 0), ())))), ())))))))))), ((I.of .i64 0), ())), ())) fun j4 =>
    brn (bnot y3.1.2.1)
     (some ((((I.of .u64 0), ((I.of .u64 0), ((I.of .u64 0), ((I.of .u64 0), (false, (((I.of .u64 0), ((I.of .u64 0), ((I.of .u64 0), ((I.of .u64 0), ())))), (((I.of .u64 0), ((I.of .u64 0), ((I.of .u64 0), ((I.of .u64 0), ())))), (((I.of .u64 0), ((I.of .u64 0), ((I.of .u64 0), ((I.of .u64 0), ())))), (((I.of .u64 0), ((I.of .u64 0), ((I.of .u64 0), ((I.of .u64 0), ())))), (((I.of .u64 0), ((I.of .u64 0), ((I.of .u64 0), ((I.of .u64 0), ())))), ())))))))))), ((I.of .i64 13), ())), ()))
     (brn (@I.ltb .u64 a.2.2.2.2.1 y3.1.1)
      (some ((((I.of .u64 0), ((I.of .u64 0), ((I.of .u64 0), ((I.of .u64 0), (false, (((I.of .u64 0), ((I.of .u64 0), ((I.of .u64 0), ((I.of .u64 0), ())))), (((I.of .u64 0), ((I.of .u64 0), ((I.of .u64 0), ((I.of .u64 0), ())))), (((I.of .u64 0), ((I.of .u64 0), ((I.of .u64 0), ((I.of .u64 0), ())))), (((I.of .u64 0), ((I.of .u64 0), ((I.of .u64 0), ((I.of .u64 0), ())))), (((I.of .u64 0), ((I.of .u64 0), ((I.of .u64 0), ((I.of .u64 0), ())))), ())))))))))), ((I.of .i64 13), ())), ()))
      (j4 ((y0.1.1, (y3.1.1, ())), (a, (((I.of .u64 0), ((I.of .u64 0), ((I.of .u64 0), ((I.of .u64 0), (false, (((I.of .u64 0), ((I.of .u64 0), ((I.of .u64 0), ((I.of .u64 0), ())))), (((I.of .u64 0), ((I.of .u64 0), ((I.of .u64 0), ((I.of .u64 0), ())))), (((I.of .u64 0), ((I.of .u64 0), ((I.of .u64 0), ((I.of .u64 0), ())))), (((I.of .u64 0), ((I.of .u64 0), ((I.of .u64 0), ((I.of .u64 0), ())))), (((I.of .u64 0), ((I.of .u64 0), ((I.of .u64 0), ((I.of .u64 0), ())))), ())))))))))), ()))))))))

/-- pontage/muldiv.Mul -/
noncomputable def muldiv_Mul (x : (⟨[.pl (.arr 4 (.int .u64)), .pl (.arr 4 (.int .u64))], []⟩ : Tm).D) : Option (⟨[.pl (.arr 4 (.int .u64)), .pl (.arr 4 (.int .u64))], []⟩ : Tm).D :=
 let a : (I .u64) × (I .u64) × (I .u64) × (I .u64) × Unit := x.1.1
 let b : (I .u64) × (I .u64) × (I .u64) × (I .u64) × Unit := x.1.2.1
 iter (none) (fun x0 =>
   brn (@I.ltb .i64 x0.1.1 (I.of .i64 4))
    (iter (.done (none)) (fun x1 =>
      brn (@I.ltb .i64 x1.1.2.2.2.1 (I.of .i64 4))
       (brn (@inB .i64 x1.1.1 4)
        (brn (@inB .i64 x1.1.2.2.2.1 4)
         (optF (.done (.done (none))) (math_bits_Mul64 (((@Arr.sel (I .u64) (I.of .u64 0) 4 x1.2.1 (@I.nat .i64 x1.1.1)), ((@Arr.sel (I .u64) (I.of .u64 0) 4 x1.2.2.1 (@I.nat .i64 x1.1.2.2.2.1)), ())), ())) fun y2 =>
         optF (.done (.done (none))) (add64F ((y2.1.2.1, (x1.1.2.1, ((I.of .u64 0), ()))), ())) fun y3 =>
         brn (@inB .i64 (@I.add .i64 x1.1.1 x1.1.2.2.2.1) 8)
          (optF (.done (.done (none))) (add64F (((@Arr.sel (I .u64) (I.of .u64 0) 8 x1.2.2.2.2.2.1 (@I.nat .i64 (@I.add .i64 x1.1.1 x1.1.2.2.2.1))), (y3.1.1, ((I.of .u64 0), ()))), ())) fun y4 =>
          brn (@inB .i64 (@I.add .i64 x1.1.1 x1.1.2.2.2.1) 8)
           (.again ((x1.1.1, ((@I.add .u64 (@I.add .u64 y2.1.1 y3.1.2.1) y4.1.2.1), (x1.1.2.2.1, ((@I.add .i64 x1.1.2.2.2.1 (I.of .i64 1)), ())))), (x1.2.1, (x1.2.2.1, (x1.2.2.2.1, (x1.2.2.2.2.1, ((@Arr.upd (I .u64) 8 x1.2.2.2.2.2.1 (@I.nat .i64 (@I.add .i64 x1.1.1 x1.1.2.2.2.1)) y4.1.1), ())))))))
           (.done (.done (none))))
          (.done (.done (none))))
         (.done (.done (none))))
        (.done (.done (none))))
       (.done (brn (@inB .i64 (@I.add .i64 x1.1.1 (I.of .i64 4)) 8)
        (.again (((@I.add .i64 x1.1.2.2.1 (I.of .i64 1)), ()), (x1.2.1, (x1.2.2.1, (x1.2.2.2.1, (x1.2.2.2.2.1, ((@Arr.upd (I .u64) 8 x1.2.2.2.2.2.1 (@I.nat .i64 (@I.add .i64 x1.1.1 (I.of .i64 4))) x1.1.2.1), ())))))))
        (.done (none)))))
    K0 ((x0.1.1, ((I.of .u64 0), (x0.1.1, ((I.of .i64 0), ())))), (x0.2.1, (x0.2.2.1, (x0.2.2.2.1, (x0.2.2.2.2.1, (x0.2.2.2.2.2.1, ())))))))
    (.done (some (((@Arr.ofList (I .u64) (I.of .u64 0) 4 (@subL (I .u64) (@Arr.list (I .u64) 8 x0.2.2.2.2.2.1) 0 4)), ((@Arr.ofList (I .u64) (I.of .u64 0) 4 (@subL (I .u64) (@Arr.list (I .u64) 8 x0.2.2.2.2.2.1) 4 4)), ())), ()))))
 K0 (((I.of .i64 0), ()), (a, (b, (((I.of .u64 0), ((I.of .u64 0), ((I.of .u64 0), ((I.of .u64 0), ())))), (((I.of .u64 0), ((I.of .u64 0), ((I.of .u64 0), ((I.of .u64 0), ())))), (((I.of .u64 0), ((I.of .u64 0), ((I.of .u64 0), ((I.of .u64 0), ((I.of .u64 0), ((I.of .u64 0), ((I.of .u64 0), ((I.of .u64 0), ())))))))), ()))))))

/-- pontage/muldiv.MulDivFloor -/
noncomputable def muldiv_MulDivFloor (x : (⟨[.pl (.arr 4 (.int .u64)), .pl (.arr 4 (.int .u64)), .pl (.arr 4 (.int .u64))], []⟩ : Tm).D) : Option (⟨[.pl (.arr 4 (.int .u64)), .pl (.int .i64)], []⟩ : Tm).D :=
 let a : (I .u64) × (I .u64) × (I .u64) × (I .u64) × Unit := x.1.1
 let b : (I .u64) × (I .u64) × (I .u64) × (I .u64) × Unit := x.1.2.1
 let c : (I .u64) × (I .u64) × (I .u64) × (I .u64) × Unit := x.1.2.2.1
 optF (none) (muldiv_Mul ((a, (b, ())), ())) fun y0 =>
 optF (none) (muldiv_Div512 ((y0.1.1, (y0.1.2.1, (c, ()))), ())) fun y1 =>
 some ((y1.1.1, (y1.1.2.2.1, ())), ())

/-- pontage/bips.Scale -/
noncomputable def bips_Scale (x : (⟨[.pl (.arr 4 (.int .u64)), .pl (.int .u64)], []⟩ : Tm).D) : Option (⟨[.pl (.arr 4 (.int .u64)), .pl (.int .i64)], []⟩ : Tm).D :=
 let a : (I .u64) × (I .u64) × (I .u64) × (I .u64) × Unit := x.1.1
 let b : I .u64 := x.1.2.1
 optF (none) (uint256_FromUint64 ((b, ()), ())) fun y0 =>
 optF (none) (uint256_FromUint64 (((I.of .u64 10000), ()), ())) fun y1 =>
 optF (none) (muldiv_MulDivFloor ((a, (y0.1.1, (y1.1.1, ()))), ())) fun y2 =>
 some ((y2.1.1, (y2.1.2.1, ())), ())

/-- pontage/bips.Split -/
noncomputable def bips_Split (x : (⟨[.pl (.arr 4 (.int .u64)), .pl (.int .u64)], []⟩ : Tm).D) : Option (⟨[.pl (.arr 4 (.int .u64)), .pl (.arr 4 (.int .u64)), .pl (.int .i64)], []⟩ : Tm).D :=
 let a : (I .u64) × (I .u64) × (I .u64) × (I .u64) × Unit := x.1.1
 let b : I .u64 := x.1.2.1
 brn (@I.ltb .u64 (I.of .u64 10000) b)
  (some ((((I.of .u64 0), ((I.of .u64 0), ((I.of .u64 0), ((I.of .u64 0), ())))), (((I.of .u64 0), ((I.of .u64 0), ((I.of .u64 0), ((I.of .u64 0), ())))), ((I.of .i64 2), ()))), ()))
  (optF (none) (bips_Scale ((a, (b, ())), ())) fun y0 =>
  brn (@I.neb .i64 y0.1.2.1 (I.of .i64 0))
   (some ((((I.of .u64 0), ((I.of .u64 0), ((I.of .u64 0), ((I.of .u64 0), ())))), (((I.of .u64 0), ((I.of .u64 0), ((I.of .u64 0), ((I.of .u64 0), ())))), (y0.1.2.1, ()))), ()))
   (optF (none) (uint256_SaturatingSub ((a, (y0.1.1, ())), ())) fun y1 =>
   some ((y0.1.1, (y1.1.1, ((I.of .i64 0), ()))), ())))

/-- pontage/txfee.distribute -/
noncomputable def txfee_distribute (x : (⟨[.pl (.cons (.int .u64) (.cons (.int .u64) (.cons (.int .u64) (.cons (.int .u64) (.cons .bool (.cons (.arr 4 (.int .u64)) (.cons (.arr 4 (.int .u64)) (.cons (.arr 4 (.int .u64)) (.cons (.arr 4 (.int .u64)) (.cons (.arr 4 (.int .u64)) .nil)))))))))), .pl (.arr 4 (.int .u64)), .pl (.cons (.int .u64) (.cons (.int .u64) (.cons (.int .u64) (.cons (.arr 4 (.int .u64)) (.cons (.int .u64) (.cons (.arr 4 (.int .u64)) (.cons (.int .u64) (.cons (.arr 4 (.int .u64)) (.cons (.int .u64) (.cons (.int .u64) (.cons (.int .u64) (.cons (.int .u64) .nil))))))))))))], []⟩ : Tm).D) : Option (⟨[.pl (.cons (.int .u64) (.cons (.int .u64) (.cons (.int .u64) (.cons (.int .u64) (.cons .bool (.cons (.arr 4 (.int .u64)) (.cons (.arr 4 (.int .u64)) (.cons (.arr 4 (.int .u64)) (.cons (.arr 4 (.int .u64)) (.cons (.arr 4 (.int .u64)) .nil)))))))))), .pl (.int .i64)], []⟩ : Tm).D :=
 let a : (I .u64) × (I .u64) × (I .u64) × (I .u64) × (Bool) × ((I .u64) × (I .u64) × (I .u64) × (I .u64) × Unit) × ((I .u64) × (I .u64) × (I .u64) × (I .u64) × Unit) × ((I .u64) × (I .u64) × (I .u64) × (I .u64) × Unit) × ((I .u64) × (I .u64) × (I .u64) × (I .u64) × Unit) × ((I .u64) × (I .u64) × (I .u64) × (I .u64) × Unit) × Unit := x.1.1
 let b : (I .u64) × (I .u64) × (I .u64) × (I .u64) × Unit := x.1.2.1
 let c : (I .u64) × (I .u64) × (I .u64) × ((I .u64) × (I .u64) × (I .u64) × (I .u64) × Unit) × (I .u64) × ((I .u64) × (I .u64) × (I .u64) × (I .u64) × Unit) × (I .u64) × ((I .u64) × (I .u64) × (I .u64) × (I .u64) × Unit) × (I .u64) × (I .u64) × (I .u64) × (I .u64) × Unit := x.1.2.2.1
 optF (none) (uint256_FromUint64 ((a.2.1, ()), ())) fun y0 =>
 optF (none) (uint256_Mul ((b, (y0.1.1, ())), ())) fun y1 =>
 optF (none) (uint256_FromUint64 ((a.2.2.1, ()), ())) fun y2 =>
 optF (none) (uint256_Mul ((b, (y2.1.1, ())), ())) fun y3 =>
 optF (none) (uint256_Min ((c.2.2.2.2.2.1, ((b :: []), ())), ())) fun y4 =>
 optF (none) (uint256_FromUint64 ((a.2.2.1, ()), ())) fun y5 =>
 optF (none) (uint256_Mul ((y4.1.1, (y5.1.1, ())), ())) fun y6 =>
 optF (none) (uint256_FromUint64 ((a.2.2.2.1, ()), ())) fun y7 =>
 optF (none) (uint256_Mul ((a.2.2.2.2.2.1, (y7.1.1, ())), ())) fun y8 =>
 jn (fun (x9 : (Unit × (((I .u64) × ((I .u64) × ((I .u64) × ((I .u64) × (Bool × (((I .u64) × ((I .u64) × ((I .u64) × ((I .u64) × Unit)))) × (((I .u64) × ((I .u64) × ((I .u64) × ((I .u64) × Unit)))) × (((I .u64) × ((I .u64) × ((I .u64) × ((I .u64) × Unit)))) × (((I .u64) × ((I .u64) × ((I .u64) × ((I .u64) × Unit)))) × (((I .u64) × ((I .u64) × ((I .u64) × ((I .u64) × Unit)))) × Unit)))))))))) × (((I .u64) × ((I .u64) × ((I .u64) × (((I .u64) × ((I .u64) × ((I .u64) × ((I .u64) × Unit)))) × ((I .u64) × (((I .u64) × ((I .u64) × ((I .u64) × ((I .u64) × Unit)))) × ((I .u64) × (((I .u64) × ((I .u64) × ((I .u64) × ((I .u64) × Unit)))) × ((I .u64) × ((I .u64) × ((I .u64) × ((I .u64) × Unit)))))))))))) × (((I .u64) × ((I .u64) × ((I .u64) × ((I .u64) × (Bool × (((I .u64) × ((I .u64) × ((I .u64) × ((I .u64) × Unit)))) × (((I .u64) × ((I .u64) × ((I .u64) × ((I .u64) × Unit)))) × (((I .u64) × ((I .u64) × ((I .u64) × ((I .u64) × Unit)))) × (((I .u64) × ((I .u64) × ((I .u64) × ((I .u64) × Unit)))) × (((I .u64) × ((I .u64) × ((I .u64) × ((I .u64) × Unit)))) × Unit)))))))))) × (((I .u64) × ((I .u64) × ((I .u64) × ((I .u64) × Unit)))) × (((I .u64) × ((I .u64) × ((I .u64) × ((I .u64) × Unit)))) × (((I .u64) × ((I .u64) × ((I .u64) × ((I .u64) × Unit)))) × (((I .u64) × ((I .u64) × ((I .u64) × ((I .u64) × Unit)))) × Unit))))))))) =>
   optF (none) (uint256_SaturatingSub ((x9.2.2.2.2.2.1, (x9.2.2.2.2.2.2.1, ())), ())) fun y10 =>
   optF (none) (bips_Split ((y10.1.1, (x9.2.2.1.2.2.2.2.2.2.1, ())), ())) fun y11 =>
   brn (@I.neb .i64 y11.1.2.2.1 (I.of .i64 0))
    (some ((((I.of .u64 0), ((I.of .u64 0), ((I.of .u64 0), ((I.of .u64 0), (false, (((I.of .u64 0), ((I.of .u64 0), ((I.of .u64 0), ((I.of .u64 0), ())))), (((I.of .u64 0), ((I.of .u64 0), ((I.of .u64 0), ((I.of .u64 0), ())))), (((I.of .u64 0), ((I.of .u64 0), ((I.of .u64 0), ((I.of .u64 0), ())))), (((I.of .u64 0), ((I.of .u64 0), ((I.of .u64 0), ((I.of .u64 0), ())))), (((I.of .u64 0), ((I.of .u64 0), ((I.of .u64 0), ((I.of .u64 0), ())))), ())))))))))), (y11.1.2.2.1, ())), ()))
    (optF (none) (uint256_Add ((y11.1.2.1, (x9.2.2.2.2.2.2.2.1, ())), ())) fun y12 =>
    brn (@I.neb .i64 y12.1.2.1 (I.of .i64 0))
     (some ((((I.of .u64 0), ((I.of .u64 0), ((I.of .u64 0), ((I.of .u64 0), (false, (((I.of .u64 0), ((I.of .u64 0), ((I.of .u64 0), ((I.of .u64 0), ())))), (((I.of .u64 0), ((I.of .u64 0), ((I.of .u64 0), ((I.of .u64 0), ())))), (((I.of .u64 0), ((I.of .u64 0), ((I.of .u64 0), ((I.of .u64 0), ())))), (((I.of .u64 0), ((I.of .u64 0), ((I.of .u64 0), ((I.of .u64 0), ())))), (((I.of .u64 0), ((I.of .u64 0), ((I.of .u64 0), ((I.of .u64 0), ())))), ())))))))))), (y12.1.2.1, ())), ()))
     (some (((x9.2.1.1, (x9.2.1.2.1, (x9.2.1.2.2.1, (x9.2.1.2.2.2.1, (x9.2.1.2.2.2.2.1, (x9.2.1.2.2.2.2.2.1, (x9.2.2.2.2.1, (x9.2.2.2.2.2.2.1, (y12.1.1, (y11.1.1, x9.2.1.2.2.2.2.2.2.2.2.2.2)))))))))), ((I.of .i64 0), ())), ())))) fun j9 =>
 brn (@I.neb .i64 y1.1.2.1 (I.of .i64 0))
  (some ((((I.of .u64 0), ((I.of .u64 0), ((I.of .u64 0), ((I.of .u64 0), (false, (((I.of .u64 0), ((I.of .u64 0), ((I.of .u64 0), ((I.of .u64 0), ())))), (((I.of .u64 0), ((I.of .u64 0), ((I.of .u64 0), ((I.of .u64 0), ())))), (((I.of .u64 0), ((I.of .u64 0), ((I.of .u64 0), ((I.of .u64 0), ())))), (((I.of .u64 0), ((I.of .u64 0), ((I.of .u64 0), ((I.of .u64 0), ())))), (((I.of .u64 0), ((I.of .u64 0), ((I.of .u64 0), ((I.of .u64 0), ())))), ())))))))))), ((I.of .i64 4), ())), ()))
  (brn (@I.neb .i64 y3.1.2.1 (I.of .i64 0))
   (some ((((I.of .u64 0), ((I.of .u64 0), ((I.of .u64 0), ((I.of .u64 0), (false, (((I.of .u64 0), ((I.of .u64 0), ((I.of .u64 0), ((I.of .u64 0), ())))), (((I.of .u64 0), ((I.of .u64 0), ((I.of .u64 0), ((I.of .u64 0), ())))), (((I.of .u64 0), ((I.of .u64 0), ((I.of .u64 0), ((I.of .u64 0), ())))), (((I.of .u64 0), ((I.of .u64 0), ((I.of .u64 0), ((I.of .u64 0), ())))), (((I.of .u64 0), ((I.of .u64 0), ((I.of .u64 0), ((I.of .u64 0), ())))), ())))))))))), ((I.of .i64 4), ())), ()))
   (brn (@I.neb .i64 y6.1.2.1 (I.of .i64 0))
    (some ((((I.of .u64 0), ((I.of .u64 0), ((I.of .u64 0), ((I.of .u64 0), (false, (((I.of .u64 0), ((I.of .u64 0), ((I.of .u64 0), ((I.of .u64 0), ())))), (((I.of .u64 0), ((I.of .u64 0), ((I.of .u64 0), ((I.of .u64 0), ())))), (((I.of .u64 0), ((I.of .u64 0), ((I.of .u64 0), ((I.of .u64 0), ())))), (((I.of .u64 0), ((I.of .u64 0), ((I.of .u64 0), ((I.of .u64 0), ())))), (((I.of .u64 0), ((I.of .u64 0), ((I.of .u64 0), ((I.of .u64 0), ())))), ())))))))))), ((I.of .i64 4), ())), ()))
    (brn (@I.neb .i64 y8.1.2.1 (I.of .i64 0))
     (some ((((I.of .u64 0), ((I.of .u64 0), ((I.of .u64 0), ((I.of .u64 0), (false, (((I.of .u64 0), ((I.of .u64 0), ((I.of .u64 0), ((I.of .u64 0), ())))), (((I.of .u64 0), ((I.of .u64 0), ((I.of .u64 0), ((I.of .u64 0), ())))), (((I.of .u64 0), ((I.of .u64 0), ((I.of .u64 0), ((I.of .u64 0), ())))), (((I.of .u64 0), ((I.of .u64 0), ((I.of .u64 0), ((I.of .u64 0), ())))), (((I.of .u64 0), ((I.of .u64 0), ((I.of .u64 0), ((I.of .u64 0), ())))), ())))))))))), ((I.of .i64 4), ())), ()))
     (j9 ((), (a, (c, (((I.of .u64 0), ((I.of .u64 0), ((I.of .u64 0), ((I.of .u64 0), (false, (((I.of .u64 0), ((I.of .u64 0), ((I.of .u64 0), ((I.of .u64 0), ())))), (((I.of .u64 0), ((I.of .u64 0), ((I.of .u64 0), ((I.of .u64 0), ())))), (((I.of .u64 0), ((I.of .u64 0), ((I.of .u64 0), ((I.of .u64 0), ())))), (((I.of .u64 0), ((I.of .u64 0), ((I.of .u64 0), ((I.of .u64 0), ())))), (((I.of .u64 0), ((I.of .u64 0), ((I.of .u64 0), ((I.of .u64 0), ())))), ())))))))))), (y1.1.1, (y3.1.1, (y6.1.1, (y8.1.1, ()))))))))))))

/-- pontage/txfee.Compute -/
noncomputable def txfee_Compute (x : (⟨[.pl (.cons (.int .u64) (.cons (.int .u64) (.cons (.int .u64) (.cons (.arr 4 (.int .u64)) (.cons (.int .u64) (.cons (.arr 4 (.int .u64)) (.cons (.arr 4 (.int .u64)) (.cons (.int .u64) (.cons (.sl (.int .u8)) .nil))))))))), .pl (.arr 4 (.int .u64)), .pl (.arr 4 (.int .u64)), .pl (.cons (.int .u64) (.cons (.int .u64) (.cons (.int .u64) (.cons (.arr 4 (.int .u64)) (.cons (.int .u64) (.cons (.arr 4 (.int .u64)) (.cons (.int .u64) (.cons (.arr 4 (.int .u64)) (.cons (.int .u64) (.cons (.int .u64) (.cons (.int .u64) (.cons (.int .u64) .nil))))))))))))], []⟩ : Tm).D) : Option (⟨[.pl (.cons (.int .u64) (.cons (.int .u64) (.cons (.int .u64) (.cons (.int .u64) (.cons .bool (.cons (.arr 4 (.int .u64)) (.cons (.arr 4 (.int .u64)) (.cons (.arr 4 (.int .u64)) (.cons (.arr 4 (.int .u64)) (.cons (.arr 4 (.int .u64)) .nil)))))))))), .pl (.int .i64)], []⟩ : Tm).D :=
 let a : (I .u64) × (I .u64) × (I .u64) × ((I .u64) × (I .u64) × (I .u64) × (I .u64) × Unit) × (I .u64) × ((I .u64) × (I .u64) × (I .u64) × (I .u64) × Unit) × ((I .u64) × (I .u64) × (I .u64) × (I .u64) × Unit) × (I .u64) × (List (I .u8)) × Unit := x.1.1
 let b : (I .u64) × (I .u64) × (I .u64) × (I .u64) × Unit := x.1.2.1
 let c : (I .u64) × (I .u64) × (I .u64) × (I .u64) × Unit := x.1.2.2.1
 let d : (I .u64) × (I .u64) × (I .u64) × ((I .u64) × (I .u64) × (I .u64) × (I .u64) × Unit) × (I .u64) × ((I .u64) × (I .u64) × (I .u64) × (I .u64) × Unit) × (I .u64) × ((I .u64) × (I .u64) × (I .u64) × (I .u64) × Unit) × (I .u64) × (I .u64) × (I .u64) × (I .u64) × Unit := x.1.2.2.2.1
 optF (none) (params_Valid ((d, ()), ())) fun y0 =>
 brn (bnot y0.1.1)
  (some ((((I.of .u64 0), ((I.of .u64 0), ((I.of .u64 0), ((I.of .u64 0), (false, (((I.of .u64 0), ((I.of .u64 0), ((I.of .u64 0), ((I.of .u64 0), ())))), (((I.of .u64 0), ((I.of .u64 0), ((I.of .u64 0), ((I.of .u64 0), ())))), (((I.of .u64 0), ((I.of .u64 0), ((I.of .u64 0), ((I.of .u64 0), ())))), (((I.of .u64 0), ((I.of .u64 0), ((I.of .u64 0), ((I.of .u64 0), ())))), (((I.of .u64 0), ((I.of .u64 0), ((I.of .u64 0), ((I.of .u64 0), ())))), ())))))))))), ((I.of .i64 15), ())), ()))
  (brn (Ty.eqb (.arr 4 (.int .u64)) b ((I.of .u64 0), ((I.of .u64 0), ((I.of .u64 0), ((I.of .u64 0), ())))))
   (some ((((I.of .u64 0), ((I.of .u64 0), ((I.of .u64 0), ((I.of .u64 0), (false, (((I.of .u64 0), ((I.of .u64 0), ((I.of .u64 0), ((I.of .u64 0), ())))), (((I.of .u64 0), ((I.of .u64 0), ((I.of .u64 0), ((I.of .u64 0), ())))), (((I.of .u64 0), ((I.of .u64 0), ((I.of .u64 0), ((I.of .u64 0), ())))), (((I.of .u64 0), ((I.of .u64 0), ((I.of .u64 0), ((I.of .u64 0), ())))), (((I.of .u64 0), ((I.of .u64 0), ((I.of .u64 0), ((I.of .u64 0), ())))), ())))))))))), ((I.of .i64 5), ())), ()))
   (optF (none) (txfee_GasPrice ((a, (b, ())), ())) fun y1 =>
   brn (@I.neb .i64 y1.1.2.1 (I.of .i64 0))
    (some ((((I.of .u64 0), ((I.of .u64 0), ((I.of .u64 0), ((I.of .u64 0), (false, (((I.of .u64 0), ((I.of .u64 0), ((I.of .u64 0), ((I.of .u64 0), ())))), (((I.of .u64 0), ((I.of .u64 0), ((I.of .u64 0), ((I.of .u64 0), ())))), (((I.of .u64 0), ((I.of .u64 0), ((I.of .u64 0), ((I.of .u64 0), ())))), (((I.of .u64 0), ((I.of .u64 0), ((I.of .u64 0), ((I.of .u64 0), ())))), (((I.of .u64 0), ((I.of .u64 0), ((I.of .u64 0), ((I.of .u64 0), ())))), ())))))))))), (y1.1.2.1, ())), ()))
    (optF (none) (txfee_meter ((a, (b, (c, (d, ())))), ())) fun y2 =>
    brn (@I.neb .i64 y2.1.2.1 (I.of .i64 0))
     (some ((((I.of .u64 0), ((I.of .u64 0), ((I.of .u64 0), ((I.of .u64 0), (false, (((I.of .u64 0), ((I.of .u64 0), ((I.of .u64 0), ((I.of .u64 0), ())))), (((I.of .u64 0), ((I.of .u64 0), ((I.of .u64 0), ((I.of .u64 0), ())))), (((I.of .u64 0), ((I.of .u64 0), ((I.of .u64 0), ((I.of .u64 0), ())))), (((I.of .u64 0), ((I.of .u64 0), ((I.of .u64 0), ((I.of .u64 0), ())))), (((I.of .u64 0), ((I.of .u64 0), ((I.of .u64 0), ((I.of .u64 0), ())))), ())))))))))), (y2.1.2.1, ())), ()))
     (optF (none) (uint256_SaturatingSub ((y1.1.1, (b, ())), ())) fun y3 =>
     optF (none) (txfee_distribute (((y2.1.1.1, (y2.1.1.2.1, (y2.1.1.2.2.1, (y2.1.1.2.2.2.1, (y2.1.1.2.2.2.2.1, (y3.1.1, y2.1.1.2.2.2.2.2.2)))))), (b, (d, ()))), ())) fun y4 =>
     some ((y4.1.1, (y4.1.2.1, ())), ())))))

/-- pontage/pontageref9.matchLength -/
noncomputable def pontageref9_matchLength (x : (⟨[.pl (.sl (.int .u8)), .pl (.int .i64), .pl (.int .i64)], []⟩ : Tm).D) : Option (⟨[.pl (.int .i64)], []⟩ : Tm).D :=
 let a : List (I .u8) := x.1.1
 let b : I .i64 := x.1.2.1
 let c : I .i64 := x.1.2.2.1
 iter (none) (fun x0 =>
   brn (@I.ltb .i64 x0.1.2.2.2.1 (I.of .i64 131))
    (brn (@I.ltb .i64 (@I.add .i64 x0.1.2.1 x0.1.2.2.2.1) (I.ofNat .i64 (@lenL (I .u8) x0.1.1)))
     (brn (@inB .i64 (@I.add .i64 x0.1.2.1 x0.1.2.2.2.1) (@lenL (I .u8) x0.1.1))
      (brn (@inB .i64 (@I.sub .i64 (@I.add .i64 x0.1.2.1 x0.1.2.2.2.1) x0.1.2.2.1) (@lenL (I .u8) x0.1.1))
       (brn (@I.eqb .u8 (@rdL (I .u8) (I.of .u8 0) x0.1.1 (@I.nat .i64 (@I.add .i64 x0.1.2.1 x0.1.2.2.2.1))) (@rdL (I .u8) (I.of .u8 0) x0.1.1 (@I.nat .i64 (@I.sub .i64 (@I.add .i64 x0.1.2.1 x0.1.2.2.2.1) x0.1.2.2.1))))
        (.again ((x0.1.1, (x0.1.2.1, (x0.1.2.2.1, ((@I.add .i64 x0.1.2.2.2.1 (I.of .i64 1)), ())))), ()))
        (.done (some ((x0.1.2.2.2.1, ()), ()))))
       (.done (none)))
      (.done (none)))
     (.done (some ((x0.1.2.2.2.1, ()), ()))))
    (.done (some ((x0.1.2.2.2.1, ()), ()))))
 K0 ((a, (b, (c, ((I.of .i64 0), ())))), ())

/-- pontage/pontageref9.best -/
noncomputable def pontageref9_best (x : (⟨[.pl (.sl (.int .u8)), .pl (.int .i64)], []⟩ : Tm).D) : Option (⟨[.pl (.int .i64), .pl (.int .i64)], []⟩ : Tm).D :=
 let a : List (I .u8) := x.1.1
 let b : I .i64 := x.1.2.1
 iter (none) (fun x0 =>
   jn (fun (x1 : (((List (I .u8)) × ((I .i64) × ((I .i64) × ((I .i64) × ((I .i64) × ((I .i64) × ((I .i64) × (Bool × Unit)))))))) × Unit)) =>
     optF (.done (none)) (pontageref9_matchLength ((x1.1.1, (x1.1.2.1, (x1.1.2.2.2.2.1, ()))), ())) fun y2 =>
     brn (@I.ltb .i64 x1.1.2.2.1 y2.1.1)
      (.again ((x1.1.1, (x1.1.2.1, (y2.1.1, (x1.1.2.2.2.2.1, ((@I.add .i64 x1.1.2.2.2.2.1 (I.of .i64 1)), ()))))), ()))
      (.again ((x1.1.1, (x1.1.2.1, (x1.1.2.2.1, (x1.1.2.2.2.1, ((@I.add .i64 x1.1.2.2.2.2.1 (I.of .i64 1)), ()))))), ()))) fun j1 =>
   brn (@I.leb .i64 x0.1.2.2.2.2.1 (I.of .i64 1024))
    (brn (@I.leb .i64 x0.1.2.2.2.2.1 x0.1.2.1)
     (j1 ((x0.1.1, (x0.1.2.1, (x0.1.2.2.1, (x0.1.2.2.2.1, (x0.1.2.2.2.2.1, (x0.1.2.2.2.2.1, (x0.1.2.1, ((@I.leb .i64 x0.1.2.2.2.2.1 x0.1.2.1), ())))))))), ()))
     (.done (some ((x0.1.2.2.1, (x0.1.2.2.2.1, ())), ()))))
    (.done (some ((x0.1.2.2.1, (x0.1.2.2.2.1, ())), ()))))
 K0 ((a, (b, ((I.of .i64 0), ((I.of .i64 0), ((I.of .i64 1), ()))))), ())

/-- pontage/pontageref9.Compress -/
noncomputable def pontageref9_Compress (x : (⟨[.pl (.sl (.int .u8))], []⟩ : Tm).D) : Option (⟨[.pl (.sl (.int .u8))], []⟩ : Tm).D :=
 let a : List (I .u8) := x.1.1
 iter (none) (fun x0 =>
   brn (@I.ltb .i64 x0.1.2.2.1 (I.ofNat .i64 (@lenL (I .u8) x0.1.1)))
    (optF (.done (none)) (pontageref9_best ((x0.1.1, (x0.1.2.2.1, ())), ())) fun y1 =>
    brn (@I.ltb .i64 y1.1.1 (I.of .i64 4))
     (.again ((x0.1.1, (x0.1.2.1, ((@I.add .i64 x0.1.2.2.1 (I.of .i64 1)), ()))), (x0.2.1, ())))
     (brn (@inB' .i64 x0.1.2.1 (@I.nat .i64 x0.1.2.2.1))
      (brn (@inB' .i64 x0.1.2.2.1 (@lenL (I .u8) x0.1.1))
       (iter (.done (none)) (fun x2 =>
         brn (@I.ltb .i64 (I.of .i64 0) (I.ofNat .i64 (@lenL (I .u8) x2.1.1)))
          (brn (@I.ltb .i64 (I.of .i64 127) (I.ofNat .i64 (@lenL (I .u8) x2.1.1)))
           (brn (fitsLen (@lenL (I .u8) (@appL (I .u8) x2.2.1 ((I.of .u8 127) :: []))))
            (brn (@inB' .i64 (I.of .i64 127) (@lenL (I .u8) x2.1.1))
             (brn (fitsLen (@lenL (I .u8) (@appL (I .u8) (@appL (I .u8) x2.2.1 ((I.of .u8 127) :: [])) (@subL (I .u8) x2.1.1 0 127))))
              (brn (@inB' .i64 (I.of .i64 127) (@lenL (I .u8) x2.1.1))
               (.again (((@subL (I .u8) x2.1.1 127 ((@lenL (I .u8) x2.1.1) - 127)), (x2.1.2.1, (x2.1.2.2.1, (x2.1.2.2.2.1, (x2.1.2.2.2.2.1, ()))))), ((@appL (I .u8) (@appL (I .u8) x2.2.1 ((I.of .u8 127) :: [])) (@subL (I .u8) x2.1.1 0 127)), ())))
               (.done (.done (none))))
              (.done (.done (none))))
             (.done (.done (none))))
            (.done (.done (none))))
           (brn (fitsLen (@lenL (I .u8) (@appL (I .u8) x2.2.1 ((I.conv (k := .i64) .u8 (I.ofNat .i64 (@lenL (I .u8) x2.1.1))) :: []))))
            (brn (@inB' .i64 (I.ofNat .i64 (@lenL (I .u8) x2.1.1)) (@lenL (I .u8) x2.1.1))
             (brn (fitsLen (@lenL (I .u8) (@appL (I .u8) (@appL (I .u8) x2.2.1 ((I.conv (k := .i64) .u8 (I.ofNat .i64 (@lenL (I .u8) x2.1.1))) :: [])) (@subL (I .u8) x2.1.1 0 (@I.nat .i64 (I.ofNat .i64 (@lenL (I .u8) x2.1.1)))))))
              (brn (@inB' .i64 (I.ofNat .i64 (@lenL (I .u8) x2.1.1)) (@lenL (I .u8) x2.1.1))
               (.again (((@subL (I .u8) x2.1.1 (@I.nat .i64 (I.ofNat .i64 (@lenL (I .u8) x2.1.1))) ((@lenL (I .u8) x2.1.1) - (@I.nat .i64 (I.ofNat .i64 (@lenL (I .u8) x2.1.1))))), (x2.1.2.1, (x2.1.2.2.1, (x2.1.2.2.2.1, (x2.1.2.2.2.2.1, ()))))), ((@appL (I .u8) (@appL (I .u8) x2.2.1 ((I.conv (k := .i64) .u8 (I.ofNat .i64 (@lenL (I .u8) x2.1.1))) :: [])) (@subL (I .u8) x2.1.1 0 (@I.nat .i64 (I.ofNat .i64 (@lenL (I .u8) x2.1.1))))), ())))
               (.done (.done (none))))
              (.done (.done (none))))
             (.done (.done (none))))
            (.done (.done (none)))))
          (.done (brn (fitsLen (@lenL (I .u8) (@appL (I .u8) x2.2.1 ((I.conv (k := .i64) .u8 (@I.add .i64 x2.1.2.2.2.1 (I.of .i64 124))) :: ((I.conv (k := .i64) .u8 (@I.quo .i64 (@I.sub .i64 x2.1.2.2.2.2.1 (I.of .i64 1)) (I.of .i64 256))) :: ((I.conv (k := .i64) .u8 (@I.rem .i64 (@I.sub .i64 x2.1.2.2.2.2.1 (I.of .i64 1)) (I.of .i64 256))) :: []))))))
           (.again ((x2.1.2.1, ((@I.add .i64 x2.1.2.2.1 x2.1.2.2.2.1), ((@I.add .i64 x2.1.2.2.1 x2.1.2.2.2.1), ()))), ((@appL (I .u8) x2.2.1 ((I.conv (k := .i64) .u8 (@I.add .i64 x2.1.2.2.2.1 (I.of .i64 124))) :: ((I.conv (k := .i64) .u8 (@I.quo .i64 (@I.sub .i64 x2.1.2.2.2.2.1 (I.of .i64 1)) (I.of .i64 256))) :: ((I.conv (k := .i64) .u8 (@I.rem .i64 (@I.sub .i64 x2.1.2.2.2.2.1 (I.of .i64 1)) (I.of .i64 256))) :: [])))), ())))
           (.done (none)))))
       K0 (((@subL (I .u8) x0.1.1 (@I.nat .i64 x0.1.2.1) ((@I.nat .i64 x0.1.2.2.1) - (@I.nat .i64 x0.1.2.1))), (x0.1.1, (x0.1.2.2.1, (y1.1.1, (y1.1.2.1, ()))))), (x0.2.1, ())))
       (.done (none)))
      (.done (none))))
    (.done (brn (@inB' .i64 x0.1.2.1 (@lenL (I .u8) x0.1.1))
     (iter (none) (fun x1 =>
       brn (@I.ltb .i64 (I.of .i64 0) (I.ofNat .i64 (@lenL (I .u8) x1.1.1)))
        (brn (@I.ltb .i64 (I.of .i64 127) (I.ofNat .i64 (@lenL (I .u8) x1.1.1)))
         (brn (fitsLen (@lenL (I .u8) (@appL (I .u8) x1.2.1 ((I.of .u8 127) :: []))))
          (brn (@inB' .i64 (I.of .i64 127) (@lenL (I .u8) x1.1.1))
           (brn (fitsLen (@lenL (I .u8) (@appL (I .u8) (@appL (I .u8) x1.2.1 ((I.of .u8 127) :: [])) (@subL (I .u8) x1.1.1 0 127))))
            (brn (@inB' .i64 (I.of .i64 127) (@lenL (I .u8) x1.1.1))
             (.again (((@subL (I .u8) x1.1.1 127 ((@lenL (I .u8) x1.1.1) - 127)), ()), ((@appL (I .u8) (@appL (I .u8) x1.2.1 ((I.of .u8 127) :: [])) (@subL (I .u8) x1.1.1 0 127)), ())))
             (.done (none)))
            (.done (none)))
           (.done (none)))
          (.done (none)))
         (brn (fitsLen (@lenL (I .u8) (@appL (I .u8) x1.2.1 ((I.conv (k := .i64) .u8 (I.ofNat .i64 (@lenL (I .u8) x1.1.1))) :: []))))
          (brn (@inB' .i64 (I.ofNat .i64 (@lenL (I .u8) x1.1.1)) (@lenL (I .u8) x1.1.1))
           (brn (fitsLen (@lenL (I .u8) (@appL (I .u8) (@appL (I .u8) x1.2.1 ((I.conv (k := .i64) .u8 (I.ofNat .i64 (@lenL (I .u8) x1.1.1))) :: [])) (@subL (I .u8) x1.1.1 0 (@I.nat .i64 (I.ofNat .i64 (@lenL (I .u8) x1.1.1)))))))
            (brn (@inB' .i64 (I.ofNat .i64 (@lenL (I .u8) x1.1.1)) (@lenL (I .u8) x1.1.1))
             (.again (((@subL (I .u8) x1.1.1 (@I.nat .i64 (I.ofNat .i64 (@lenL (I .u8) x1.1.1))) ((@lenL (I .u8) x1.1.1) - (@I.nat .i64 (I.ofNat .i64 (@lenL (I .u8) x1.1.1))))), ()), ((@appL (I .u8) (@appL (I .u8) x1.2.1 ((I.conv (k := .i64) .u8 (I.ofNat .i64 (@lenL (I .u8) x1.1.1))) :: [])) (@subL (I .u8) x1.1.1 0 (@I.nat .i64 (I.ofNat .i64 (@lenL (I .u8) x1.1.1))))), ())))
             (.done (none)))
            (.done (none)))
           (.done (none)))
          (.done (none))))
        (.done (some ((x1.2.1, ()), ()))))
     K0 (((@subL (I .u8) x0.1.1 (@I.nat .i64 x0.1.2.1) ((@lenL (I .u8) x0.1.1) - (@I.nat .i64 x0.1.2.1))), ()), (x0.2.1, ())))
     (none))))
 K0 ((a, ((I.of .i64 0), ((I.of .i64 0), ()))), ([], ()))

/-- pontage/pontageref10.Units -/
noncomputable def pontageref10_Units (x : (⟨[.pl (.sl (.int .u8)), .pl (.int .u64), .pl (.int .u64)], []⟩ : Tm).D) : Option (⟨[.pl (.int .u64), .pl (.int .i64)], []⟩ : Tm).D :=
 let a : List (I .u8) := x.1.1
 let b : I .u64 := x.1.2.1
 let c : I .u64 := x.1.2.2.1
 brn (@I.ltb .u64 c b)
  (some (((I.of .u64 0), ((I.of .i64 2), ())), ()))
  (brn (@I.ltb .i64 (I.of .i64 4096) (I.ofNat .i64 (@lenL (I .u8) a)))
   (some (((I.of .u64 0), ((I.of .i64 6), ())), ()))
   (optF (none) (pontageref9_Compress ((a, ()), ())) fun y0 =>
   jn (fun (x1 : (((I .u64) × ((I .u64) × Unit)) × Unit)) =>
     brn (@I.ltb .u64 x1.1.1 x1.1.2.1)
      (some ((x1.1.1, ((I.of .i64 0), ())), ()))
      (some ((x1.1.2.1, ((I.of .i64 0), ())), ()))) fun j1 =>
   brn (@I.ltb .u64 (@I.mul .u64 (I.conv (k := .i64) .u64 (I.ofNat .i64 (@lenL (I .u8) y0.1.1))) (I.of .u64 16)) b)
    (j1 ((c, (b, ())), ()))
    (j1 ((c, ((@I.mul .u64 (I.conv (k := .i64) .u64 (I.ofNat .i64 (@lenL (I .u8) y0.1.1))) (I.of .u64 16)), ())), ()))))

/-- pontage/pontageref23.gas -/
noncomputable def pontageref23_gas (x : (⟨[.pl (.cons (.int .u64) (.cons (.int .u64) (.cons (.int .u64) (.cons (.arr 4 (.int .u64)) (.cons (.int .u64) (.cons (.arr 4 (.int .u64)) (.cons (.arr 4 (.int .u64)) (.cons (.int .u64) (.cons (.sl (.int .u8)) .nil))))))))), .pl (.arr 4 (.int .u64)), .pl (.arr 4 (.int .u64)), .pl (.cons (.int .u64) (.cons (.int .u64) (.cons (.int .u64) (.cons (.arr 4 (.int .u64)) (.cons (.int .u64) (.cons (.arr 4 (.int .u64)) (.cons (.int .u64) (.cons (.arr 4 (.int .u64)) (.cons (.int .u64) (.cons (.int .u64) (.cons (.int .u64) (.cons (.int .u64) .nil))))))))))))], []⟩ : Tm).D) : Option (⟨[.pl (.int .u64), .pl (.int .u64), .pl (.int .i64)], []⟩ : Tm).D :=
 let a : (I .u64) × (I .u64) × (I .u64) × ((I .u64) × (I .u64) × (I .u64) × (I .u64) × Unit) × (I .u64) × ((I .u64) × (I .u64) × (I .u64) × (I .u64) × Unit) × ((I .u64) × (I .u64) × (I .u64) × (I .u64) × Unit) × (I .u64) × (List (I .u8)) × Unit := x.1.1
 let b : (I .u64) × (I .u64) × (I .u64) × (I .u64) × Unit := x.1.2.1
 let c : (I .u64) × (I .u64) × (I .u64) × (I .u64) × Unit := x.1.2.2.1
 let d : (I .u64) × (I .u64) × (I .u64) × ((I .u64) × (I .u64) × (I .u64) × (I .u64) × Unit) × (I .u64) × ((I .u64) × (I .u64) × (I .u64) × (I .u64) × Unit) × (I .u64) × ((I .u64) × (I .u64) × (I .u64) × (I .u64) × Unit) × (I .u64) × (I .u64) × (I .u64) × (I .u64) × Unit := x.1.2.2.2.1
 optF (none) (pontageref12_Valid ((d, ()), ())) fun y0 =>
 brn (bnot y0.1.1)
  (some (((I.of .u64 0), ((I.of .u64 0), ((I.of .i64 15), ()))), ()))
  (optF (none) (pontageref1_IsZero ((b, ()), ())) fun y1 =>
  brn y1.1.1
   (some (((I.of .u64 0), ((I.of .u64 0), ((I.of .i64 5), ()))), ()))
   (optF (none) (pontageref1_FromUint256 ((a.2.2.2.2.2.1, ()), ())) fun y2 =>
   optF (none) (pontageref1_FromUint256 ((b, ()), ())) fun y3 =>
   optF (none) (pontageref1_Cmp ((y2.1.1, (y3.1.1, ())), ())) fun y4 =>
   brn (@I.ltb .i64 y4.1.1 (I.of .i64 0))
    (some (((I.of .u64 0), ((I.of .u64 0), ((I.of .i64 12), ()))), ()))
    (optF (none) (pontageref10_Units ((a.2.2.2.2.2.2.2.2.1, (d.2.2.2.2.2.2.2.2.2.2.1, (d.2.2.2.2.2.2.2.2.2.2.2.1, ()))), ())) fun y5 =>
    brn (@I.neb .i64 y5.1.2.1 (I.of .i64 0))
     (some (((I.of .u64 0), ((I.of .u64 0), (y5.1.2.1, ()))), ()))
     (optF (none) (pontageref1_FromUint64 ((y5.1.1, ()), ())) fun y6 =>
     optF (none) (pontageref1_FromUint256 ((c, ()), ())) fun y7 =>
     optF (none) (pontageref1_Mul ((y6.1.1, (y7.1.1, ())), ())) fun y8 =>
     optF (none) (pontageref1_Fits ((y8.1.1, ()), ())) fun y9 =>
     brn (bnot y9.1.1)
      (some (((I.of .u64 0), ((I.of .u64 0), ((I.of .i64 4), ()))), ()))
      (optF (none) (pontageref1_FromUint256 ((b, ()), ())) fun y10 =>
      optF (none) (pontageref1_Div ((y8.1.1, (y10.1.1, ())), ())) fun y11 =>
      optF (none) (pontageref1_FromUint64 ((a.2.2.2.2.1, ()), ())) fun y12 =>
      optF (none) (pontageref1_Cmp ((y11.1.1, (y12.1.1, ())), ())) fun y13 =>
      brn (@I.ltb .i64 (I.of .i64 0) y13.1.1)
       (some (((I.of .u64 0), ((I.of .u64 0), ((I.of .i64 13), ()))), ()))
       (optF (none) (pontageref1_ToUint256 ((y11.1.1, ()), ())) fun y14 =>
       some ((y5.1.1, (y14.1.1.1, ((I.of .i64 0), ()))), ())))))))

/-- pontage/pontageref23.Compute -/
noncomputable def pontageref23_Compute (x : (⟨[.pl (.cons (.int .u64) (.cons (.int .u64) (.cons (.int .u64) (.cons (.arr 4 (.int .u64)) (.cons (.int .u64) (.cons (.arr 4 (.int .u64)) (.cons (.arr 4 (.int .u64)) (.cons (.int .u64) (.cons (.sl (.int .u8)) .nil))))))))), .pl (.arr 4 (.int .u64)), .pl (.arr 4 (.int .u64)), .pl (.cons (.int .u64) (.cons (.int .u64) (.cons (.int .u64) (.cons (.arr 4 (.int .u64)) (.cons (.int .u64) (.cons (.arr 4 (.int .u64)) (.cons (.int .u64) (.cons (.arr 4 (.int .u64)) (.cons (.int .u64) (.cons (.int .u64) (.cons (.int .u64) (.cons (.int .u64) .nil))))))))))))], []⟩ : Tm).D) : Option (⟨[.pl (.cons (.int .u64) (.cons (.int .u64) (.cons (.int .u64) (.cons (.int .u64) (.cons .bool (.cons (.arr 4 (.int .u64)) (.cons (.arr 4 (.int .u64)) (.cons (.arr 4 (.int .u64)) (.cons (.arr 4 (.int .u64)) (.cons (.arr 4 (.int .u64)) .nil)))))))))), .pl (.int .i64)], []⟩ : Tm).D :=
 let a : (I .u64) × (I .u64) × (I .u64) × ((I .u64) × (I .u64) × (I .u64) × (I .u64) × Unit) × (I .u64) × ((I .u64) × (I .u64) × (I .u64) × (I .u64) × Unit) × ((I .u64) × (I .u64) × (I .u64) × (I .u64) × Unit) × (I .u64) × (List (I .u8)) × Unit := x.1.1
 let b : (I .u64) × (I .u64) × (I .u64) × (I .u64) × Unit := x.1.2.1
 let c : (I .u64) × (I .u64) × (I .u64) × (I .u64) × Unit := x.1.2.2.1
 let d : (I .u64) × (I .u64) × (I .u64) × ((I .u64) × (I .u64) × (I .u64) × (I .u64) × Unit) × (I .u64) × ((I .u64) × (I .u64) × (I .u64) × (I .u64) × Unit) × (I .u64) × ((I .u64) × (I .u64) × (I .u64) × (I .u64) × Unit) × (I .u64) × (I .u64) × (I .u64) × (I .u64) × Unit := x.1.2.2.2.1
 optF (none) (pontageref23_gas ((a, (b, (c, (d, ())))), ())) fun y0 =>
 brn (@I.neb .i64 y0.1.2.2.1 (I.of .i64 0))
  (some ((((I.of .u64 0), ((I.of .u64 0), ((I.of .u64 0), ((I.of .u64 0), (false, (((I.of .u64 0), ((I.of .u64 0), ((I.of .u64 0), ((I.of .u64 0), ())))), (((I.of .u64 0), ((I.of .u64 0), ((I.of .u64 0), ((I.of .u64 0), ())))), (((I.of .u64 0), ((I.of .u64 0), ((I.of .u64 0), ((I.of .u64 0), ())))), (((I.of .u64 0), ((I.of .u64 0), ((I.of .u64 0), ((I.of .u64 0), ())))), (((I.of .u64 0), ((I.of .u64 0), ((I.of .u64 0), ((I.of .u64 0), ())))), ())))))))))), (y0.1.2.2.1, ())), ()))
  (jn (fun (x1 : (((I .u64) × Unit) × (((I .u64) × ((I .u64) × ((I .u64) × (((I .u64) × ((I .u64) × ((I .u64) × ((I .u64) × Unit)))) × ((I .u64) × (((I .u64) × ((I .u64) × ((I .u64) × ((I .u64) × Unit)))) × (((I .u64) × ((I .u64) × ((I .u64) × ((I .u64) × Unit)))) × ((I .u64) × ((List (I .u8)) × Unit))))))))) × (((I .u64) × ((I .u64) × ((I .u64) × ((I .u64) × Unit)))) × (((I .u64) × ((I .u64) × ((I .u64) × (((I .u64) × ((I .u64) × ((I .u64) × ((I .u64) × Unit)))) × ((I .u64) × (((I .u64) × ((I .u64) × ((I .u64) × ((I .u64) × Unit)))) × ((I .u64) × (((I .u64) × ((I .u64) × ((I .u64) × ((I .u64) × Unit)))) × ((I .u64) × ((I .u64) × ((I .u64) × ((I .u64) × Unit)))))))))))) × (((I .u64) × ((I .u64) × ((I .u64) × ((I .u64) × (Bool × (((I .u64) × ((I .u64) × ((I .u64) × ((I .u64) × Unit)))) × (((I .u64) × ((I .u64) × ((I .u64) × ((I .u64) × Unit)))) × (((I .u64) × ((I .u64) × ((I .u64) × ((I .u64) × Unit)))) × (((I .u64) × ((I .u64) × ((I .u64) × ((I .u64) × Unit)))) × (((I .u64) × ((I .u64) × ((I .u64) × ((I .u64) × Unit)))) × Unit)))))))))) × (((I .u64) × ((I .u64) × ((I .u64) × ((I .u64) × (Bool × (((I .u64) × ((I .u64) × ((I .u64) × ((I .u64) × Unit)))) × (((I .u64) × ((I .u64) × ((I .u64) × ((I .u64) × Unit)))) × (((I .u64) × ((I .u64) × ((I .u64) × ((I .u64) × Unit)))) × (((I .u64) × ((I .u64) × ((I .u64) × ((I .u64) × Unit)))) × (((I .u64) × ((I .u64) × ((I .u64) × ((I .u64) × Unit)))) × Unit)))))))))) × Unit))))))) =>
    optF (none) (pontageref1_FromUint256 ((x1.2.2.1, ()), ())) fun y2 =>
    optF (none) (pontageref23_tip ((x1.2.1, (x1.2.2.1, ())), ())) fun y3 =>
    optF (none) (pontageref1_FromUint64 ((x1.1.1, ()), ())) fun y4 =>
    optF (none) (pontageref1_Mul ((y2.1.1, (y4.1.1, ())), ())) fun y5 =>
    optF (none) (pontageref1_FromUint64 ((x1.2.2.2.2.2.1.2.2.1, ()), ())) fun y6 =>
    optF (none) (pontageref1_Mul ((y2.1.1, (y6.1.1, ())), ())) fun y7 =>
    optF (none) (pontageref1_FromUint256 ((x1.2.2.2.1.2.2.2.2.2.1, ()), ())) fun y8 =>
    optF (none) (pontageref1_Min ((y8.1.1, (y2.1.1, ())), ())) fun y9 =>
    optF (none) (pontageref1_FromUint64 ((x1.2.2.2.2.2.1.2.2.1, ()), ())) fun y10 =>
    optF (none) (pontageref1_Mul ((y9.1.1, (y10.1.1, ())), ())) fun y11 =>
    optF (none) (pontageref1_Sub ((y7.1.1, (y11.1.1, ())), ())) fun y12 =>
    optF (none) (pontageref1_FromUint64 ((x1.2.2.2.1.2.2.2.2.2.2.1, ()), ())) fun y13 =>
    optF (none) (pontageref1_Mul ((y12.1.1, (y13.1.1, ())), ())) fun y14 =>
    optF (none) (pontageref1_FromUint64 (((I.of .u64 10000), ()), ())) fun y15 =>
    optF (none) (pontageref1_Div ((y14.1.1, (y15.1.1, ())), ())) fun y16 =>
    optF (none) (pontageref1_Sub ((y12.1.1, (y16.1.1, ())), ())) fun y17 =>
    optF (none) (pontageref1_FromUint64 (((@I.add .u64 x1.1.1 x1.2.2.2.2.2.1.2.2.1), ()), ())) fun y18 =>
    optF (none) (pontageref1_Mul ((y3.1.1, (y18.1.1, ())), ())) fun y19 =>
    optF (none) (pontageref1_Add ((y17.1.1, (y19.1.1, ())), ())) fun y20 =>
    jn (fun (x21 : (((List (I .i64)) × ((List (I .i64)) × ((List (I .i64)) × ((List (I .i64)) × ((List (I .i64)) × Unit))))) × (((I .u64) × ((I .u64) × ((I .u64) × ((I .u64) × (Bool × (((I .u64) × ((I .u64) × ((I .u64) × ((I .u64) × Unit)))) × (((I .u64) × ((I .u64) × ((I .u64) × ((I .u64) × Unit)))) × (((I .u64) × ((I .u64) × ((I .u64) × ((I .u64) × Unit)))) × (((I .u64) × ((I .u64) × ((I .u64) × ((I .u64) × Unit)))) × (((I .u64) × ((I .u64) × ((I .u64) × ((I .u64) × Unit)))) × Unit)))))))))) × (((I .u64) × ((I .u64) × ((I .u64) × ((I .u64) × (Bool × (((I .u64) × ((I .u64) × ((I .u64) × ((I .u64) × Unit)))) × (((I .u64) × ((I .u64) × ((I .u64) × ((I .u64) × Unit)))) × (((I .u64) × ((I .u64) × ((I .u64) × ((I .u64) × Unit)))) × (((I .u64) × ((I .u64) × ((I .u64) × ((I .u64) × Unit)))) × (((I .u64) × ((I .u64) × ((I .u64) × ((I .u64) × Unit)))) × Unit)))))))))) × Unit)))) =>
      optF (none) (pontageref1_ToUint256 ((x21.1.1, ()), ())) fun y22 =>
      optF (none) (pontageref1_ToUint256 ((x21.1.2.1, ()), ())) fun y23 =>
      optF (none) (pontageref1_ToUint256 ((x21.1.2.2.1, ()), ())) fun y24 =>
      optF (none) (pontageref1_ToUint256 ((x21.1.2.2.2.1, ()), ())) fun y25 =>
      optF (none) (pontageref1_ToUint256 ((x21.1.2.2.2.2.1, ()), ())) fun y26 =>
      some (((x21.2.2.1.1, (x21.2.2.1.2.1, (x21.2.2.1.2.2.1, (x21.2.2.1.2.2.2.1, (x21.2.2.1.2.2.2.2.1, (y22.1.1, (y23.1.1, (y24.1.1, (y26.1.1, (y25.1.1, x21.2.2.1.2.2.2.2.2.2.2.2.2.2)))))))))), ((I.of .i64 0), ())), ())) fun j21 =>
    optF (none) (pontageref1_Fits ((y5.1.1, ()), ())) fun y22 =>
    brn (bnot y22.1.1)
     (some ((((I.of .u64 0), ((I.of .u64 0), ((I.of .u64 0), ((I.of .u64 0), (false, (((I.of .u64 0), ((I.of .u64 0), ((I.of .u64 0), ((I.of .u64 0), ())))), (((I.of .u64 0), ((I.of .u64 0), ((I.of .u64 0), ((I.of .u64 0), ())))), (((I.of .u64 0), ((I.of .u64 0), ((I.of .u64 0), ((I.of .u64 0), ())))), (((I.of .u64 0), ((I.of .u64 0), ((I.of .u64 0), ((I.of .u64 0), ())))), (((I.of .u64 0), ((I.of .u64 0), ((I.of .u64 0), ((I.of .u64 0), ())))), ())))))))))), ((I.of .i64 4), ())), ()))
     (optF (none) (pontageref1_Fits ((y7.1.1, ()), ())) fun y23 =>
     brn (bnot y23.1.1)
      (some ((((I.of .u64 0), ((I.of .u64 0), ((I.of .u64 0), ((I.of .u64 0), (false, (((I.of .u64 0), ((I.of .u64 0), ((I.of .u64 0), ((I.of .u64 0), ())))), (((I.of .u64 0), ((I.of .u64 0), ((I.of .u64 0), ((I.of .u64 0), ())))), (((I.of .u64 0), ((I.of .u64 0), ((I.of .u64 0), ((I.of .u64 0), ())))), (((I.of .u64 0), ((I.of .u64 0), ((I.of .u64 0), ((I.of .u64 0), ())))), (((I.of .u64 0), ((I.of .u64 0), ((I.of .u64 0), ((I.of .u64 0), ())))), ())))))))))), ((I.of .i64 4), ())), ()))
      (optF (none) (pontageref1_Fits ((y20.1.1, ()), ())) fun y24 =>
      brn (bnot y24.1.1)
       (some ((((I.of .u64 0), ((I.of .u64 0), ((I.of .u64 0), ((I.of .u64 0), (false, (((I.of .u64 0), ((I.of .u64 0), ((I.of .u64 0), ((I.of .u64 0), ())))), (((I.of .u64 0), ((I.of .u64 0), ((I.of .u64 0), ((I.of .u64 0), ())))), (((I.of .u64 0), ((I.of .u64 0), ((I.of .u64 0), ((I.of .u64 0), ())))), (((I.of .u64 0), ((I.of .u64 0), ((I.of .u64 0), ((I.of .u64 0), ())))), (((I.of .u64 0), ((I.of .u64 0), ((I.of .u64 0), ((I.of .u64 0), ())))), ())))))))))), ((I.of .i64 4), ())), ()))
       (j21 ((y3.1.1, (y5.1.1, (y11.1.1, (y16.1.1, (y20.1.1, ()))))), (x1.2.2.2.2.1, ((x1.2.2.2.2.2.1.1, (x1.2.2.2.2.2.1.2.1, (x1.2.2.2.2.2.1.2.2.1, ((@I.add .u64 x1.1.1 x1.2.2.2.2.2.1.2.2.1), x1.2.2.2.2.2.1.2.2.2.2)))), ()))))))) fun j1 =>
  brn (@I.ltb .u64 (@I.sub .u64 a.2.2.2.2.1 y0.1.2.1) a.2.2.2.2.2.2.2.1)
   (j1 ((y0.1.2.1, ()), (a, (b, (d, (((I.of .u64 0), ((I.of .u64 0), ((I.of .u64 0), ((I.of .u64 0), (false, (((I.of .u64 0), ((I.of .u64 0), ((I.of .u64 0), ((I.of .u64 0), ())))), (((I.of .u64 0), ((I.of .u64 0), ((I.of .u64 0), ((I.of .u64 0), ())))), (((I.of .u64 0), ((I.of .u64 0), ((I.of .u64 0), ((I.of .u64 0), ())))), (((I.of .u64 0), ((I.of .u64 0), ((I.of .u64 0), ((I.of .u64 0), ())))), (((I.of .u64 0), ((I.of .u64 0), ((I.of .u64 0), ((I.of .u64 0), ())))), ())))))))))), ((y0.1.1, (y0.1.2.1, ((@I.sub .u64 a.2.2.2.2.1 y0.1.2.1), ((I.of .u64 0), (true, (((I.of .u64 0), ((I.of .u64 0), ((I.of .u64 0), ((I.of .u64 0), ())))), (((I.of .u64 0), ((I.of .u64 0), ((I.of .u64 0), ((I.of .u64 0), ())))), (((I.of .u64 0), ((I.of .u64 0), ((I.of .u64 0), ((I.of .u64 0), ())))), (((I.of .u64 0), ((I.of .u64 0), ((I.of .u64 0), ((I.of .u64 0), ())))), (((I.of .u64 0), ((I.of .u64 0), ((I.of .u64 0), ((I.of .u64 0), ())))), ())))))))))), ())))))))
   (j1 ((y0.1.2.1, ()), (a, (b, (d, (((I.of .u64 0), ((I.of .u64 0), ((I.of .u64 0), ((I.of .u64 0), (false, (((I.of .u64 0), ((I.of .u64 0), ((I.of .u64 0), ((I.of .u64 0), ())))), (((I.of .u64 0), ((I.of .u64 0), ((I.of .u64 0), ((I.of .u64 0), ())))), (((I.of .u64 0), ((I.of .u64 0), ((I.of .u64 0), ((I.of .u64 0), ())))), (((I.of .u64 0), ((I.of .u64 0), ((I.of .u64 0), ((I.of .u64 0), ())))), (((I.of .u64 0), ((I.of .u64 0), ((I.of .u64 0), ((I.of .u64 0), ())))), ())))))))))), ((y0.1.1, (y0.1.2.1, (a.2.2.2.2.2.2.2.1, ((I.of .u64 0), (false, (((I.of .u64 0), ((I.of .u64 0), ((I.of .u64 0), ((I.of .u64 0), ())))), (((I.of .u64 0), ((I.of .u64 0), ((I.of .u64 0), ((I.of .u64 0), ())))), (((I.of .u64 0), ((I.of .u64 0), ((I.of .u64 0), ((I.of .u64 0), ())))), (((I.of .u64 0), ((I.of .u64 0), ((I.of .u64 0), ((I.of .u64 0), ())))), (((I.of .u64 0), ((I.of .u64 0), ((I.of .u64 0), ((I.of .u64 0), ())))), ())))))))))), ()))))))))

/-- pontage/pontagelaw23.TxFeeCompute -/
noncomputable def pontagelaw23_TxFeeCompute (x : (⟨[.pl (.cons (.int .u64) (.cons (.int .u64) (.cons (.int .u64) (.cons (.arr 4 (.int .u64)) (.cons (.int .u64) (.cons (.arr 4 (.int .u64)) (.cons (.arr 4 (.int .u64)) (.cons (.int .u64) (.cons (.sl (.int .u8)) .nil))))))))), .pl (.arr 4 (.int .u64)), .pl (.arr 4 (.int .u64)), .pl (.cons (.int .u64) (.cons (.int .u64) (.cons (.int .u64) (.cons (.arr 4 (.int .u64)) (.cons (.int .u64) (.cons (.arr 4 (.int .u64)) (.cons (.int .u64) (.cons (.arr 4 (.int .u64)) (.cons (.int .u64) (.cons (.int .u64) (.cons (.int .u64) (.cons (.int .u64) .nil)))))))))))), .pl (.cons (.int .u64) (.cons (.int .u64) (.cons (.int .u64) (.cons (.int .u64) (.cons (.int .u64) (.cons (.int .u64) (.cons (.int .i64) (.cons (.sl (.int .i64)) .nil)))))))), .pl (.arr 8 (.int .u64))], []⟩ : Tm).D) : Option (⟨[.pl .bool], []⟩ : Tm).D :=
 let a : (I .u64) × (I .u64) × (I .u64) × ((I .u64) × (I .u64) × (I .u64) × (I .u64) × Unit) × (I .u64) × ((I .u64) × (I .u64) × (I .u64) × (I .u64) × Unit) × ((I .u64) × (I .u64) × (I .u64) × (I .u64) × Unit) × (I .u64) × (List (I .u8)) × Unit := x.1.1
 let b : (I .u64) × (I .u64) × (I .u64) × (I .u64) × Unit := x.1.2.1
 let c : (I .u64) × (I .u64) × (I .u64) × (I .u64) × Unit := x.1.2.2.1
 let d : (I .u64) × (I .u64) × (I .u64) × ((I .u64) × (I .u64) × (I .u64) × (I .u64) × Unit) × (I .u64) × ((I .u64) × (I .u64) × (I .u64) × (I .u64) × Unit) × (I .u64) × ((I .u64) × (I .u64) × (I .u64) × (I .u64) × Unit) × (I .u64) × (I .u64) × (I .u64) × (I .u64) × Unit := x.1.2.2.2.1
 let e : (I .u64) × (I .u64) × (I .u64) × (I .u64) × (I .u64) × (I .u64) × (I .i64) × (List (I .i64)) × Unit := x.1.2.2.2.2.1
 let f : (I .u64) × (I .u64) × (I .u64) × (I .u64) × (I .u64) × (I .u64) × (I .u64) × (I .u64) × Unit := x.1.2.2.2.2.2.1
 jn (fun (x0 : (Unit × (((I .u64) × ((I .u64) × ((I .u64) × (((I .u64) × ((I .u64) × ((I .u64) × ((I .u64) × Unit)))) × ((I .u64) × (((I .u64) × ((I .u64) × ((I .u64) × ((I .u64) × Unit)))) × (((I .u64) × ((I .u64) × ((I .u64) × ((I .u64) × Unit)))) × ((I .u64) × ((List (I .u8)) × Unit))))))))) × (((I .u64) × ((I .u64) × ((I .u64) × ((I .u64) × Unit)))) × (((I .u64) × ((I .u64) × ((I .u64) × ((I .u64) × Unit)))) × (((I .u64) × ((I .u64) × ((I .u64) × (((I .u64) × ((I .u64) × ((I .u64) × ((I .u64) × Unit)))) × ((I .u64) × (((I .u64) × ((I .u64) × ((I .u64) × ((I .u64) × Unit)))) × ((I .u64) × (((I .u64) × ((I .u64) × ((I .u64) × ((I .u64) × Unit)))) × ((I .u64) × ((I .u64) × ((I .u64) × ((I .u64) × Unit)))))))))))) × (((I .u64) × ((I .u64) × ((I .u64) × ((I .u64) × ((I .u64) × ((I .u64) × ((I .i64) × ((List (I .i64)) × Unit)))))))) × (((I .u64) × ((I .u64) × ((I .u64) × ((I .u64) × ((I .u64) × ((I .u64) × ((I .u64) × ((I .u64) × Unit)))))))) × Unit)))))))) =>
   optF (none) (pontagelaw23_build ((x0.2.2.2.2.2.1, ()), ())) fun y1 =>
   optF (none) (pontagelaw14_ValidParams ((x0.2.2.2.2.2.2.1, ()), ())) fun y2 =>
   iter (none) (fun x3 =>
     brn (@I.ltb .i64 x3.1.2.1 (I.of .i64 2))
      (brn (@inB .i64 x3.1.2.1 2)
       (optF (.done (none)) (txfee_Compute ((x3.2.1, (x3.2.2.1, (x3.2.2.2.1, ((@Arr.sel ((I .u64) × ((I .u64) × ((I .u64) × (((I .u64) × ((I .u64) × ((I .u64) × ((I .u64) × Unit)))) × ((I .u64) × (((I .u64) × ((I .u64) × ((I .u64) × ((I .u64) × Unit)))) × ((I .u64) × (((I .u64) × ((I .u64) × ((I .u64) × ((I .u64) × Unit)))) × ((I .u64) × ((I .u64) × ((I .u64) × ((I .u64) × Unit)))))))))))) ((I.of .u64 0), ((I.of .u64 0), ((I.of .u64 0), (((I.of .u64 0), ((I.of .u64 0), ((I.of .u64 0), ((I.of .u64 0), ())))), ((I.of .u64 0), (((I.of .u64 0), ((I.of .u64 0), ((I.of .u64 0), ((I.of .u64 0), ())))), ((I.of .u64 0), (((I.of .u64 0), ((I.of .u64 0), ((I.of .u64 0), ((I.of .u64 0), ())))), ((I.of .u64 0), ((I.of .u64 0), ((I.of .u64 0), ((I.of .u64 0), ())))))))))))) 2 x3.1.1 (@I.nat .i64 x3.1.2.1)), ())))), ())) fun y4 =>
       optF (.done (none)) (pontageref23_Compute ((x3.2.1, (x3.2.2.1, (x3.2.2.2.1, ((@Arr.sel ((I .u64) × ((I .u64) × ((I .u64) × (((I .u64) × ((I .u64) × ((I .u64) × ((I .u64) × Unit)))) × ((I .u64) × (((I .u64) × ((I .u64) × ((I .u64) × ((I .u64) × Unit)))) × ((I .u64) × (((I .u64) × ((I .u64) × ((I .u64) × ((I .u64) × Unit)))) × ((I .u64) × ((I .u64) × ((I .u64) × ((I .u64) × Unit)))))))))))) ((I.of .u64 0), ((I.of .u64 0), ((I.of .u64 0), (((I.of .u64 0), ((I.of .u64 0), ((I.of .u64 0), ((I.of .u64 0), ())))), ((I.of .u64 0), (((I.of .u64 0), ((I.of .u64 0), ((I.of .u64 0), ((I.of .u64 0), ())))), ((I.of .u64 0), (((I.of .u64 0), ((I.of .u64 0), ((I.of .u64 0), ((I.of .u64 0), ())))), ((I.of .u64 0), ((I.of .u64 0), ((I.of .u64 0), ((I.of .u64 0), ())))))))))))) 2 x3.1.1 (@I.nat .i64 x3.1.2.1)), ())))), ())) fun y5 =>
       optF (.done (none)) (txfee_Compute ((x3.2.2.2.2.1, (x3.2.2.2.2.2.1, (x3.2.2.2.2.2.2.1, ((@Arr.sel ((I .u64) × ((I .u64) × ((I .u64) × (((I .u64) × ((I .u64) × ((I .u64) × ((I .u64) × Unit)))) × ((I .u64) × (((I .u64) × ((I .u64) × ((I .u64) × ((I .u64) × Unit)))) × ((I .u64) × (((I .u64) × ((I .u64) × ((I .u64) × ((I .u64) × Unit)))) × ((I .u64) × ((I .u64) × ((I .u64) × ((I .u64) × Unit)))))))))))) ((I.of .u64 0), ((I.of .u64 0), ((I.of .u64 0), (((I.of .u64 0), ((I.of .u64 0), ((I.of .u64 0), ((I.of .u64 0), ())))), ((I.of .u64 0), (((I.of .u64 0), ((I.of .u64 0), ((I.of .u64 0), ((I.of .u64 0), ())))), ((I.of .u64 0), (((I.of .u64 0), ((I.of .u64 0), ((I.of .u64 0), ((I.of .u64 0), ())))), ((I.of .u64 0), ((I.of .u64 0), ((I.of .u64 0), ((I.of .u64 0), ())))))))))))) 2 x3.1.1 (@I.nat .i64 x3.1.2.1)), ())))), ())) fun y6 =>
       optF (.done (none)) (pontageref23_Compute ((x3.2.2.2.2.1, (x3.2.2.2.2.2.1, (x3.2.2.2.2.2.2.1, ((@Arr.sel ((I .u64) × ((I .u64) × ((I .u64) × (((I .u64) × ((I .u64) × ((I .u64) × ((I .u64) × Unit)))) × ((I .u64) × (((I .u64) × ((I .u64) × ((I .u64) × ((I .u64) × Unit)))) × ((I .u64) × (((I .u64) × ((I .u64) × ((I .u64) × ((I .u64) × Unit)))) × ((I .u64) × ((I .u64) × ((I .u64) × ((I .u64) × Unit)))))))))))) ((I.of .u64 0), ((I.of .u64 0), ((I.of .u64 0), (((I.of .u64 0), ((I.of .u64 0), ((I.of .u64 0), ((I.of .u64 0), ())))), ((I.of .u64 0), (((I.of .u64 0), ((I.of .u64 0), ((I.of .u64 0), ((I.of .u64 0), ())))), ((I.of .u64 0), (((I.of .u64 0), ((I.of .u64 0), ((I.of .u64 0), ((I.of .u64 0), ())))), ((I.of .u64 0), ((I.of .u64 0), ((I.of .u64 0), ((I.of .u64 0), ())))))))))))) 2 x3.1.1 (@I.nat .i64 x3.1.2.1)), ())))), ())) fun y7 =>
       brn (bnot (Ty.eqb (.cons (.int .u64) (.cons (.int .u64) (.cons (.int .u64) (.cons (.int .u64) (.cons .bool (.cons (.arr 4 (.int .u64)) (.cons (.arr 4 (.int .u64)) (.cons (.arr 4 (.int .u64)) (.cons (.arr 4 (.int .u64)) (.cons (.arr 4 (.int .u64)) .nil)))))))))) y4.1.1 y5.1.1))
        (.done (some ((false, ()), ())))
        (brn (@I.neb .i64 y4.1.2.1 y5.1.2.1)
         (.done (some ((false, ()), ())))
         (brn (bnot (Ty.eqb (.cons (.int .u64) (.cons (.int .u64) (.cons (.int .u64) (.cons (.int .u64) (.cons .bool (.cons (.arr 4 (.int .u64)) (.cons (.arr 4 (.int .u64)) (.cons (.arr 4 (.int .u64)) (.cons (.arr 4 (.int .u64)) (.cons (.arr 4 (.int .u64)) .nil)))))))))) y6.1.1 y7.1.1))
          (.done (some ((false, ()), ())))
          (brn (@I.neb .i64 y6.1.2.1 y7.1.2.1)
           (.done (some ((false, ()), ())))
           (.again ((x3.1.1, ((@I.add .i64 x3.1.2.1 (I.of .i64 1)), ())), (x3.2.1, (x3.2.2.1, (x3.2.2.2.1, (x3.2.2.2.2.1, (x3.2.2.2.2.2.1, (x3.2.2.2.2.2.2.1, ()))))))))))))
       (.done (none)))
      (.done (optF (none) (pontagelaw23_awake ((), ())) fun y4 =>
      some ((y4.1.1, ()), ()))))
   K0 (((x0.2.2.2.2.1, (y2.1.1, ())), ((I.of .i64 0), ())), (x0.2.1, (x0.2.2.1, (x0.2.2.2.1, (y1.1.1, (y1.1.2.1, (y1.1.2.2.1, ())))))))) fun j0 =>
 jn (fun (x1 : ((Bool × Unit) × (((I .u64) × ((I .u64) × ((I .u64) × (((I .u64) × ((I .u64) × ((I .u64) × ((I .u64) × Unit)))) × ((I .u64) × (((I .u64) × ((I .u64) × ((I .u64) × ((I .u64) × Unit)))) × (((I .u64) × ((I .u64) × ((I .u64) × ((I .u64) × Unit)))) × ((I .u64) × ((List (I .u8)) × Unit))))))))) × (((I .u64) × ((I .u64) × ((I .u64) × ((I .u64) × Unit)))) × (((I .u64) × ((I .u64) × ((I .u64) × ((I .u64) × Unit)))) × (((I .u64) × ((I .u64) × ((I .u64) × (((I .u64) × ((I .u64) × ((I .u64) × ((I .u64) × Unit)))) × ((I .u64) × (((I .u64) × ((I .u64) × ((I .u64) × ((I .u64) × Unit)))) × ((I .u64) × (((I .u64) × ((I .u64) × ((I .u64) × ((I .u64) × Unit)))) × ((I .u64) × ((I .u64) × ((I .u64) × ((I .u64) × Unit)))))))))))) × (((I .u64) × ((I .u64) × ((I .u64) × ((I .u64) × ((I .u64) × ((I .u64) × ((I .i64) × ((List (I .i64)) × Unit)))))))) × (((I .u64) × ((I .u64) × ((I .u64) × ((I .u64) × ((I .u64) × ((I .u64) × ((I .u64) × ((I .u64) × Unit)))))))) × Unit)))))))) =>
   brn x1.1.1
    (optF (none) (pontagelaw23_awake ((), ())) fun y2 =>
    some ((y2.1.1, ()), ()))
    (j0 ((), (x1.2.1, (x1.2.2.1, (x1.2.2.2.1, (x1.2.2.2.2.1, (x1.2.2.2.2.2.1, (x1.2.2.2.2.2.2.1, ()))))))))) fun j1 =>
 brn (@I.ltb .i64 (I.of .i64 30) (I.ofNat .i64 (@lenL (I .i64) e.2.2.2.2.2.2.2.1)))
  (j1 ((true, ()), (a, (b, (c, (d, (e, (f, ()))))))))
  (j1 (((@I.ltb .i64 (I.of .i64 600) (I.ofNat .i64 (@lenL (I .u8) a.2.2.2.2.2.2.2.2.1))), ()), (a, (b, (c, (d, (e, (f, ()))))))))

/-- pontage/pontagelaw23.TxFeeShares -/
noncomputable def pontagelaw23_TxFeeShares (x : (⟨[.pl (.cons (.int .u64) (.cons (.int .u64) (.cons (.int .u64) (.cons (.int .u64) (.cons (.int .u64) (.cons (.int .u64) (.cons (.int .i64) (.cons (.sl (.int .i64)) .nil)))))))), .pl (.arr 8 (.int .u64))], []⟩ : Tm).D) : Option (⟨[.pl .bool], []⟩ : Tm).D :=
 let a : (I .u64) × (I .u64) × (I .u64) × (I .u64) × (I .u64) × (I .u64) × (I .i64) × (List (I .i64)) × Unit := x.1.1
 let b : (I .u64) × (I .u64) × (I .u64) × (I .u64) × (I .u64) × (I .u64) × (I .u64) × (I .u64) × Unit := x.1.2.1
 brn (@I.ltb .i64 (I.of .i64 30) (I.ofNat .i64 (@lenL (I .i64) a.2.2.2.2.2.2.2.1)))
  (optF (none) (pontagelaw23_awake ((), ())) fun y0 =>
  some ((y0.1.1, ()), ()))
  (optF (none) (pontagelaw23_build ((a, ()), ())) fun y0 =>
  optF (none) (pontagelaw14_ValidParams ((b, ()), ())) fun y1 =>
  optF (none) (txfee_Compute ((y0.1.1, (y0.1.2.1, (y0.1.2.2.1, (y1.1.1, ())))), ())) fun y2 =>
  brn (@I.neb .i64 y2.1.2.1 (I.of .i64 0))
   (optF (none) (pontagelaw23_awake ((), ())) fun y3 =>
   some ((y3.1.1, ()), ()))
   (optF (none) (sizeest_Units ((y0.1.1.2.2.2.2.2.2.2.2.1, (y1.1.1.2.2.2.2.2.2.2.2.2.2.1, (y1.1.1.2.2.2.2.2.2.2.2.2.2.2.1, ()))), ())) fun y3 =>
   optF (none) (sizeest_Cost ((y3.1.1, (y0.1.2.2.1, ())), ())) fun y4 =>
   optF (none) (uint256_SaturatingSub ((y4.1.1, (y2.1.1.2.2.2.2.2.2.1, ())), ())) fun y5 =>
   optF (none) (uint256_SaturatingMul ((y0.1.2.1, ((y2.1.1.2.2.1, ((I.of .u64 0), ((I.of .u64 0), ((I.of .u64 0), ())))), ())), ())) fun y6 =>
   optF (none) (uint256_SaturatingSub ((y6.1.1, (y2.1.1.2.2.2.2.2.2.2.1, ())), ())) fun y7 =>
   optF (none) (bips_Scale ((y7.1.1, (y1.1.1.2.2.2.2.2.2.1, ())), ())) fun y8 =>
   optF (none) (uint256_SaturatingMul ((y2.1.1.2.2.2.2.2.1, ((y2.1.1.2.2.2.1, ((I.of .u64 0), ((I.of .u64 0), ((I.of .u64 0), ())))), ())), ())) fun y9 =>
   brn (@I.eqb .i64 y3.1.2.1 (I.of .i64 0))
    (brn (@I.eqb .i64 y4.1.2.1 (I.of .i64 0))
     (brn (@I.eqb .i64 y8.1.2.1 (I.of .i64 0))
      (brn (@I.eqb .u64 y2.1.1.1 y3.1.1)
       (optF (none) (uint256_Cmp ((y2.1.1.2.2.2.2.2.2.1, (y4.1.1, ())), ())) fun y10 =>
       brn (@I.leb .i64 y10.1.1 (I.of .i64 0))
        (optF (none) (uint256_Cmp ((y5.1.1, (y0.1.2.1, ())), ())) fun y11 =>
        brn (@I.ltb .i64 y11.1.1 (I.of .i64 0))
         (optF (none) (uint256_Min ((y1.1.1.2.2.2.2.2.1, ((y0.1.2.1 :: []), ())), ())) fun y12 =>
         optF (none) (uint256_SaturatingMul ((y12.1.1, ((y2.1.1.2.2.1, ((I.of .u64 0), ((I.of .u64 0), ((I.of .u64 0), ())))), ())), ())) fun y13 =>
         brn (Ty.eqb (.arr 4 (.int .u64)) y2.1.1.2.2.2.2.2.2.2.1 y13.1.1)
          (brn (Ty.eqb (.arr 4 (.int .u64)) y2.1.1.2.2.2.2.2.2.2.2.2.1 y8.1.1)
           (optF (none) (uint256_SaturatingSub ((y7.1.1, (y8.1.1, ())), ())) fun y14 =>
           optF (none) (uint256_SaturatingAdd ((y14.1.1, (y9.1.1, ())), ())) fun y15 =>
           brn (Ty.eqb (.arr 4 (.int .u64)) y2.1.1.2.2.2.2.2.2.2.2.1 y15.1.1)
            (optF (none) (pontagelaw23_awake ((), ())) fun y16 =>
            some ((y16.1.1, ()), ()))
            (some ((false, ()), ())))
           (some ((false, ()), ())))
          (some ((false, ()), ())))
         (some ((false, ()), ())))
        (some ((false, ()), ())))
       (some ((false, ()), ())))
      (some ((false, ()), ())))
     (some ((false, ()), ())))
    (some ((false, ()), ()))))

/-- pontage/pontagelaw23.TxFeeTotal -/
noncomputable def pontagelaw23_TxFeeTotal (x : (⟨[.pl (.cons (.int .u64) (.cons (.int .u64) (.cons (.int .u64) (.cons (.int .u64) (.cons (.int .u64) (.cons (.int .u64) (.cons (.int .i64) (.cons (.sl (.int .i64)) .nil)))))))), .pl (.arr 8 (.int .u64))], []⟩ : Tm).D) : Option (⟨[.pl .bool], []⟩ : Tm).D :=
 let a : (I .u64) × (I .u64) × (I .u64) × (I .u64) × (I .u64) × (I .u64) × (I .i64) × (List (I .i64)) × Unit := x.1.1
 let b : (I .u64) × (I .u64) × (I .u64) × (I .u64) × (I .u64) × (I .u64) × (I .u64) × (I .u64) × Unit := x.1.2.1
 brn (@I.ltb .i64 (I.of .i64 30) (I.ofNat .i64 (@lenL (I .i64) a.2.2.2.2.2.2.2.1)))
  (optF (none) (pontagelaw23_awake ((), ())) fun y0 =>
  some ((y0.1.1, ()), ()))
  (optF (none) (pontagelaw23_build ((a, ()), ())) fun y0 =>
  optF (none) (pontagelaw14_ValidParams ((b, ()), ())) fun y1 =>
  optF (none) (txfee_Compute ((y0.1.1, (y0.1.2.1, (y0.1.2.2.1, (y1.1.1, ())))), ())) fun y2 =>
  brn (@I.neb .i64 y2.1.2.1 (I.of .i64 0))
   (brn (Ty.eqb (.cons (.int .u64) (.cons (.int .u64) (.cons (.int .u64) (.cons (.int .u64) (.cons .bool (.cons (.arr 4 (.int .u64)) (.cons (.arr 4 (.int .u64)) (.cons (.arr 4 (.int .u64)) (.cons (.arr 4 (.int .u64)) (.cons (.arr 4 (.int .u64)) .nil)))))))))) y2.1.1 ((I.of .u64 0), ((I.of .u64 0), ((I.of .u64 0), ((I.of .u64 0), (false, (((I.of .u64 0), ((I.of .u64 0), ((I.of .u64 0), ((I.of .u64 0), ())))), (((I.of .u64 0), ((I.of .u64 0), ((I.of .u64 0), ((I.of .u64 0), ())))), (((I.of .u64 0), ((I.of .u64 0), ((I.of .u64 0), ((I.of .u64 0), ())))), (((I.of .u64 0), ((I.of .u64 0), ((I.of .u64 0), ((I.of .u64 0), ())))), (((I.of .u64 0), ((I.of .u64 0), ((I.of .u64 0), ((I.of .u64 0), ())))), ())))))))))))
    (optF (none) (pontagelaw23_awake ((), ())) fun y3 =>
    some ((y3.1.1, ()), ()))
    (some ((false, ()), ())))
   (optF (none) (txfee_GasPrice ((y0.1.1, (y0.1.2.1, ())), ())) fun y3 =>
   optF (none) (txfee_Total ((y2.1.1, ()), ())) fun y4 =>
   optF (none) (uint256_Mul ((y3.1.1, ((y2.1.1.2.2.2.1, ((I.of .u64 0), ((I.of .u64 0), ((I.of .u64 0), ())))), ())), ())) fun y5 =>
   jn (fun (x6 : (Unit × (((I .u64) × ((I .u64) × ((I .u64) × (((I .u64) × ((I .u64) × ((I .u64) × ((I .u64) × Unit)))) × ((I .u64) × (((I .u64) × ((I .u64) × ((I .u64) × ((I .u64) × Unit)))) × (((I .u64) × ((I .u64) × ((I .u64) × ((I .u64) × Unit)))) × ((I .u64) × ((List (I .u8)) × Unit))))))))) × (((I .u64) × ((I .u64) × ((I .u64) × ((I .u64) × (Bool × (((I .u64) × ((I .u64) × ((I .u64) × ((I .u64) × Unit)))) × (((I .u64) × ((I .u64) × ((I .u64) × ((I .u64) × Unit)))) × (((I .u64) × ((I .u64) × ((I .u64) × ((I .u64) × Unit)))) × (((I .u64) × ((I .u64) × ((I .u64) × ((I .u64) × Unit)))) × (((I .u64) × ((I .u64) × ((I .u64) × ((I .u64) × Unit)))) × Unit)))))))))) × Unit)))) =>
     brn (@I.leb .u64 x6.2.2.1.2.2.2.1 x6.2.1.2.2.2.2.1)
      (brn (@I.eqb .u64 x6.2.2.1.2.2.2.1 (@I.add .u64 x6.2.2.1.2.1 x6.2.2.1.2.2.1))
       (brn (@I.leb .u64 x6.2.2.1.2.2.1 x6.2.1.2.2.2.2.2.2.2.1)
        (brn (Ty.eqb .bool x6.2.2.1.2.2.2.2.1 (@I.ltb .u64 x6.2.2.1.2.2.1 x6.2.1.2.2.2.2.2.2.2.1))
         (brn (bnot x6.2.2.1.2.2.2.2.1)
          (optF (none) (pontagelaw23_awake ((), ())) fun y7 =>
          some ((y7.1.1, ()), ()))
          (brn (@I.eqb .u64 x6.2.2.1.2.2.2.1 x6.2.1.2.2.2.2.1)
           (optF (none) (pontagelaw23_awake ((), ())) fun y7 =>
           some ((y7.1.1, ()), ()))
           (some ((false, ()), ()))))
         (some ((false, ()), ())))
        (some ((false, ()), ())))
       (some ((false, ()), ())))
      (some ((false, ()), ()))) fun j6 =>
   brn (@I.neb .i64 y3.1.2.1 (I.of .i64 0))
    (some ((false, ()), ()))
    (brn (@I.neb .i64 y4.1.2.1 y5.1.2.1)
     (some ((false, ()), ()))
     (brn (@I.eqb .i64 y4.1.2.1 (I.of .i64 0))
      (brn (bnot (Ty.eqb (.arr 4 (.int .u64)) y4.1.1 y5.1.1))
       (some ((false, ()), ()))
       (j6 ((), (y0.1.1, (y2.1.1, ())))))
      (j6 ((), (y0.1.1, (y2.1.1, ()))))))))

end Sym

/- The given functions as plain functions, as the printer told them. -/
namespace Sym
open Go

end Sym
