/- Signed numbers: what the reference's functions compute; two laws. -/
import Derived.Test.YtpeicefbediffaaGreatPart5
import Derived.Test.YtpeicefbediffaaGreatPart3
import Derived.Test.YtpeicefbediffaaGreatPart4
namespace Sym
open Go
abbrev SB : Type := Bool × List Dg × Unit
structure IsSB (s : SB) (z : Int) : Prop where
 neg : s.1 = decide (z < 0)
 abs : IsB s.2.1 z.natAbs
def Bd (n : Nat) : Prop := n < 65536 ^ 64
theorem len_small' {l : List Dg} {n : Nat} (h : IsB l n) (k : Nat) (hn : n < 65536 ^ k) (hk : k ≤ 1000000) : l.length ≤ 1000000 := Nat.le_trans (h.len.2 hn) hk
theorem Bd.len {l : List Dg} {n : Nat} (h : IsB l n) (hb : Bd n) : l.length ≤ 1000000 := len_small' h 64 hb (by decide)
theorem Bd.of_top {n : Nat} (h : n < U.top) : Bd n := Nat.lt_trans h (by decide)
theorem Bd.of_two {n : Nat} (h : n < U.top + U.top) : Bd n := Nat.lt_trans h (by decide)
theorem e3N {l : List Dg} {n : Nat} (h : IsB l n) : 0 < l.length ↔ n ≠ 0 := by
 have := h.len (k := 0)
 rw [Nat.pow_zero] at this
 omega
theorem b3D (n : Bool) {l : List Dg} {m : Nat} (h : IsB l m) (hl : l.length ≤ 1000000) : ∃ s : SB, a2A ((n, l, ()), ()) = some ((s, ()), ()) ∧ IsSB s (sgn n m) := by
 have key : Wp (fun o => ∃ s : SB, o = some ((s, ()), ()) ∧ IsSB s (sgn n m)) (a2A ((n, l, ()), ())) := by
  have hol : (I.ofNat .i64 (a0O l)).val = l.length := a2S (by show l.length < _; omega)
  have c0 : (I.of .i64 0).val = 0 := rfl
  have hp := e3N h
  unfold a2A
  cases n with
  | false => exact Wp.brnF rfl ⟨_, rfl, (decide_eq_false (by unfold sgn; simp)).symm, by rw [d0G]; exact h⟩
  | true =>
   refine Wp.brnT rfl ⟨_, rfl, ?_, by rw [d0G]; exact h⟩
   show I.ltb (I.of .i64 0) (I.ofNat .i64 (a0O l)) = decide (sgn true m < 0)
   unfold I.ltb
   rw [c0, hol]
   have : ((0 : Int) < (l.length : Int)) ↔ sgn true m < 0 := by unfold sgn; simp; omega
   simp only [this]
 exact key.out
theorem c1S (x : S) : ∃ s : SB, a2O ((x, ()), ()) = some ((s, ()), ()) ∧ IsSB s x.int := by
 have key : Wp (fun o => ∃ s : SB, o = some ((s, ()), ()) ∧ IsSB s x.int) (a2O ((x, ()), ())) := by
  unfold a2O
  obtain ⟨l, hl, hB⟩ := a7P x.2.1
  refine Wp.optF hl ?_
  obtain ⟨s, hs, hS⟩ := b3D x.1 hB (Bd.len hB (Bd.of_top (U.lt _)))
  exact Wp.optF hs ⟨s, rfl, hS⟩
 exact key.out
theorem c8N {s t : SB} {z w : Int} (hs : IsSB s z) (ht : IsSB t w) (hz : Bd z.natAbs) (hw : Bd w.natAbs) (hzw : Bd (z.natAbs + w.natAbs)) : ∃ r : SB, a5A ((s, t, ()), ()) = some ((r, ()), ()) ∧ IsSB r (z + w) := by
 have key : Wp (fun o => ∃ r : SB, o = some ((r, ()), ()) ∧ IsSB r (z + w)) (a5A ((s, t, ()), ())) := by
  obtain ⟨n, l, ⟨⟩⟩ := s
  obtain ⟨m, l2, ⟨⟩⟩ := t
  obtain ⟨h1, h2⟩ := hs
  obtain ⟨h3, h4⟩ := ht
  simp only at h1 h2 h3 h4
  have len1 := Bd.len h2 hz
  have len2 := Bd.len h4 hw
  unfold a5A
  by_cases hnm : n = m
  ·
   refine Wp.brnT (by show (n == m) = true; simp [hnm]) ?_
   obtain ⟨r, hr, hB⟩ := b3I h2 h4 len1 len2
   refine Wp.optF hr ?_
   obtain ⟨q, hq, hQ⟩ := b3D n hB (Bd.len hB hzw)
   refine Wp.optF hq ⟨q, rfl, ?_⟩
   have : sgn n (z.natAbs + w.natAbs) = z + w := by
    unfold sgn
    subst hnm
    rw [h1] at h3 ⊢
    by_cases hz0 : z < 0
    ·
     have : w < 0 := by simpa [hz0] using h3
     simp [hz0]; omega
    ·
     have : ¬ w < 0 := by simpa [hz0] using h3
     simp [hz0]; omega
   rw [← this]; exact hQ
  ·
   refine Wp.brnF (by show (n == m) = false; simp [hnm]) ?_
   refine Wp.optF (c7G h2 h4 len1 len2) ?_
   have hne : ¬ (decide (z < 0) = decide (w < 0)) := by rw [← h1, ← h3]; exact hnm
   by_cases hlt : z.natAbs < w.natAbs
   ·
    refine Wp.brnF (by show I.leb (I.of .i64 0) (c1F _ _) = false; unfold c1F; rw [if_pos hlt]; rfl) ?_
    obtain ⟨r, hr, hB⟩ := c2T h4 h2 (by omega) len2
    refine Wp.optF hr ?_
    obtain ⟨q, hq, hQ⟩ := b3D m hB (Bd.len hB (Nat.lt_of_le_of_lt (Nat.sub_le _ _) hw))
    refine Wp.optF hq ⟨q, rfl, ?_⟩
    have : sgn m (w.natAbs - z.natAbs) = z + w := by
     unfold sgn
     rw [h3]
     by_cases hw0 : w < 0
     ·
      have : ¬ z < 0 := by simpa [hw0] using hne
      simp [hw0]; omega
     ·
      have : z < 0 := by simpa [hw0] using hne
      simp [hw0]; omega
    rw [← this]; exact hQ
   ·
    refine Wp.brnT (by show I.leb (I.of .i64 0) (c1F _ _) = true; unfold c1F; rw [if_neg hlt]; split <;> rfl) ?_
    obtain ⟨r, hr, hB⟩ := c2T h2 h4 (by omega) len1
    refine Wp.optF hr ?_
    obtain ⟨q, hq, hQ⟩ := b3D n hB (Bd.len hB (Nat.lt_of_le_of_lt (Nat.sub_le _ _) hz))
    refine Wp.optF hq ⟨q, rfl, ?_⟩
    have : sgn n (z.natAbs - w.natAbs) = z + w := by
     unfold sgn
     rw [h1]
     by_cases hz0 : z < 0
     ·
      have : ¬ w < 0 := by simpa [hz0] using hne
      simp [hz0]; omega
     ·
      have : w < 0 := by simpa [hz0] using hne
      simp [hz0]; omega
    rw [← this]; exact hQ
 exact key.out
theorem c1K {s : SB} {z : Int} (hs : IsSB s z) (hz : Bd z.natAbs) : ∃ r : SB, a3X ((s, ()), ()) = some ((r, ()), ()) ∧ IsSB r (-z) := by
 have key : Wp (fun o => ∃ r : SB, o = some ((r, ()), ()) ∧ IsSB r (-z)) (a3X ((s, ()), ())) := by
  unfold a3X
  obtain ⟨q, hq, hQ⟩ := b3D (!s.1) hs.abs (Bd.len hs.abs hz)
  refine Wp.optF hq ⟨q, rfl, ?_⟩
  have : sgn (!s.1) z.natAbs = -z := by
   rw [hs.neg]
   unfold sgn
   by_cases h : z < 0
   ·
    simp [h]; omega
   ·
    simp [h]; omega
  rw [← this]; exact hQ
 exact key.out
theorem c6B {s : SB} {z : Int} (hs : IsSB s z) (hz : Bd z.natAbs) : a5M ((s, ()), ()) = some (((d0P z).1, (d0P z).2, ()), ()) := by
 refine Wp.out (T := fun o => o = some (((d0P z).1, (d0P z).2, ()), ())) ?_
 unfold a5M
 refine Wp.optF (Checked_ok' hs.abs (Bd.len hs.abs hz)) ?_
 unfold b4V
 by_cases h : z.natAbs < U.top
 ·
  rw [if_pos h, b5F h]
  refine Wp.brnF rfl ?_
  show some (((s.1, U.of z.natAbs, ()), I.of .i64 0, ()), ()) = some ((((decide (z < 0), U.of z.natAbs, ()) : S), I.of .i64 0, ()), ())
  rw [hs.neg]
 ·
  rw [if_neg h, c1T (by omega)]
  exact Wp.brnT rfl rfl
theorem e1G (a : U) : a3J ((a, ()), ()) = some ((decide (a.val = 0), ()), ()) := by
 refine Wp.out (T := fun o => o = some ((decide (a.val = 0), ()), ())) ?_
 unfold a3J
 show some ((Ty.eqb (.arr 4 (.int .u64)) a (I.of .u64 0, I.of .u64 0, I.of .u64 0, I.of .u64 0, ()), ()), ()) = _
 rw [eqz]
theorem b3R (x : S) : a3E ((x, ()), ()) = some ((a1P x, ()), ()) := by
 obtain ⟨n, a, ⟨⟩⟩ := x
 refine Wp.out (T := fun o => o = some ((a1P (n, a, ()), ()), ())) ?_
 unfold a3E
 cases n with
 | false => exact Wp.brnF rfl rfl
 | true => exact Wp.brnT rfl (Wp.optF (e1G a) rfl)
theorem e5Q (a b : U) : a8U ((a, b, ()), ()) = some ((S.of ((a.val : Int) - b.val), ()), ()) := by
 have ha := a.lt
 have hb := b.lt
 refine Wp.out (T := fun o => o = some ((S.of ((a.val : Int) - b.val), ()), ())) ?_
 unfold a8U
 obtain ⟨l, hl, hB⟩ := a7P a
 refine Wp.optF hl ?_
 obtain ⟨s, hs, hS⟩ := b3D false hB (Bd.len hB (Bd.of_top ha))
 refine Wp.optF hs ?_
 obtain ⟨l2, hl2, hB2⟩ := a7P b
 refine Wp.optF hl2 ?_
 obtain ⟨s2, hs2, hS2⟩ := b3D true hB2 (Bd.len hB2 (Bd.of_top hb))
 refine Wp.optF hs2 ?_
 have e1 : sgn false a.val = (a.val : Int) := rfl
 have e2 : sgn true b.val = -(b.val : Int) := rfl
 rw [e1] at hS
 rw [e2] at hS2
 obtain ⟨r, hr, hR⟩ := c8N hS hS2 (Bd.of_top (by omega)) (Bd.of_top (by omega)) (Bd.of_two (by omega))
 refine Wp.optF hr ?_
 rw [show (a.val : Int) + -(b.val : Int) = (a.val : Int) - b.val by omega] at hR
 refine Wp.optF (c6B hR (Bd.of_top (by omega))) ?_
 rw [b5F (by omega)]
 rfl
theorem e0D (a : U) (y : S) : a5H ((a, y, ()), ()) = some (((b6U a y).1, (b6U a y).2, ()), ()) := by
 have ha := a.lt
 have hy := y.lt
 refine Wp.out (T := fun o => o = some (((b6U a y).1, (b6U a y).2, ()), ())) ?_
 unfold a5H b6U
 refine Wp.optF (b3R y) ?_
 cases h1 : a1P y with
 | false => exact Wp.brnT rfl rfl
 | true =>
  rw [if_pos rfl]
  refine Wp.brnF rfl ?_
  obtain ⟨l, hl, hB⟩ := a7P a
  refine Wp.optF hl ?_
  obtain ⟨s, hs, hS⟩ := b3D false hB (Bd.len hB (Bd.of_top ha))
  refine Wp.optF hs ?_
  obtain ⟨s2, hs2, hS2⟩ := c1S y
  refine Wp.optF hs2 ?_
  have e1 : sgn false a.val = (a.val : Int) := rfl
  rw [e1] at hS
  obtain ⟨r, hr, hR⟩ := c8N hS hS2 (Bd.of_top (by omega)) (Bd.of_top (by omega)) (Bd.of_two (by omega))
  refine Wp.optF hr ?_
  by_cases hz : (a.val : Int) + y.int < 0
  ·
   rw [if_pos hz]
   refine Wp.brnT (by show r.1 = true; rw [hR.neg]; exact decide_eq_true hz) rfl
  ·
   rw [if_neg hz]
   refine Wp.brnF (by show r.1 = false; rw [hR.neg]; exact decide_eq_false hz) ?_
   have hb : Bd ((a.val : Int) + y.int).natAbs := Bd.of_two (by omega)
   refine Wp.optF (Checked_ok' hR.abs (Bd.len hR.abs hb)) ?_
   rw [show ((a.val : Int) + y.int).natAbs = ((a.val : Int) + y.int).toNat by omega]
   rfl
end Sym

/- Signed numbers: the laws of order, negation and algebra. -/
namespace Sym
open Go
theorem g7Q {x : S} (h : a1P x = true) : b0X ((x, ()), ()) = some ((S.of (-x.int), I.of .i64 0, ()), ()) := by
 have := e9U x
 unfold f1C at this
 rw [h] at this
 exact this
theorem f0J {x y : S} (h1 : a1P x = true) (h2 : a1P y = true) : a8W ((x, y, ()), ()) = some (((d0P (x.int - y.int)).1, (d0P (x.int - y.int)).2, ()), ()) := by
 have := f2W x y
 rw [c7S h1 h2] at this
 exact this
theorem g1A {x y : S} (h1 : a1P x = true) (h2 : a1P y = true) : a9S ((x, y, ()), ()) = some (((d0P (x.int * y.int)).1, (d0P (x.int * y.int)).2, ()), ()) := by
 have := f3V x y
 rw [c7S h1 h2] at this
 exact this
end Sym

/- Signed numbers: the law of algebra. -/
namespace Sym
open Go
theorem f3K (c : I .u64) : c.nat < U.top := by
 have := a1Q c
 have : U.top = 115792089237316195423570985008687907853269984665640564039457584007913129639936 := rfl
 omega
theorem b7U (z : Int) (d : Nat) (hd : d ≠ 0) : (z / (d : Int)).natAbs ≤ z.natAbs := by
 have h1 := Int.mul_ediv_add_emod z d
 have h2 := Int.emod_nonneg z (b := (d : Int)) (by omega)
 have h3 := Int.emod_lt_of_pos z (b := (d : Int)) (by omega)
 rcases Int.lt_or_le z 0 with h | h
 ·
  have h4 : z / (d : Int) < 0 := by
   rcases Int.lt_or_le (z / (d : Int)) 0 with h7 | h7
   ·
    exact h7
   ·
    have := Int.mul_nonneg (show (0 : Int) ≤ (d : Int) by omega) h7
    omega
  have h5 : z ≤ z / (d : Int) := by
   have : (d : Int) * (z / (d : Int)) ≤ 1 * (z / (d : Int)) := Int.mul_le_mul_of_nonpos_right (by omega) (by omega)
   have h6 : z - (z % d) = (d : Int) * (z / (d : Int)) := by omega
   rcases Int.lt_or_le (z / (d : Int)) z with h7 | h7
   ·
    exfalso
    have : (d : Int) * (z / (d : Int) + 1) ≤ (d : Int) * z := Int.mul_le_mul_of_nonneg_left (by omega) (by omega)
    rw [Int.mul_add, Int.mul_one] at this
    have h8 : (d : Int) * z ≤ 1 * z := Int.mul_le_mul_of_nonpos_right (by omega) (by omega)
    omega
   ·
    exact h7
  omega
 ·
  have h4 : 0 ≤ z / (d : Int) := Int.ediv_nonneg h (by omega)
  have h5 : z / (d : Int) ≤ z := Int.ediv_le_self _ h
  omega
end Sym

/- Natural numbers by digits of 65536: products, and quotients by one digit. -/
namespace Sym
open Go
theorem e3P : ∀ (l : List Dg) (i : Nat) (d : Dg), i < l.length → bv (l.set i d) + 65536 ^ i * (rd0 l i).nat = bv l + 65536 ^ i * d.nat
 | [], _, _, h => by simp at h
 | x :: l, 0, d, _ => by simp [bv, rd0, rdL]; omega
 | x :: l, i + 1, d, h => by
  have ih := e3P l i d (by simpa using h)
  simp only [List.set_cons_succ, bv, Nat.pow_succ, rd0, rdL] at *
  have e1 : 65536 ^ i * 65536 * (rdL (I.of .i64 0) l i).nat = 65536 * (65536 ^ i * (rdL (I.of .i64 0) l i).nat) := by rw [Nat.mul_comm (65536 ^ i) 65536, Nat.mul_assoc]
  have e2 : 65536 ^ i * 65536 * d.nat = 65536 * (65536 ^ i * d.nat) := by rw [Nat.mul_comm (65536 ^ i) 65536, Nat.mul_assoc]
  rw [e1, e2]
  omega
theorem b3X (l : List Dg) (i j : Nat) (d : Dg) (h : i ≠ j) : rd0 (l.set i d) j = rd0 l j := by
 unfold rd0
 rcases Nat.lt_or_ge j l.length with hj | hj
 ·
  rw [a3Z _ _ _ (by simpa using hj), a3Z _ _ _ hj, List.getElem_set_ne h]
 ·
  rw [b1Y _ _ _ (by simpa using hj), b1Y _ _ _ hj]
theorem c9O : ∀ (n i : Nat), (rd0 (b4L n (I.of .i64 0)) i).nat = 0
 | 0, i => rfl
 | n + 1, 0 => rfl
 | n + 1, i + 1 => c9O n i
theorem c9N : ∀ (n : Nat), bv (b4L n (I.of .i64 0)) = 0
 | 0 => rfl
 | n + 1 => by simp [b4L, bv, c9N n]; rfl
structure MulInv (a b : List Dg) (i k : Nat) (over : Nat) (out : List Dg) : Prop where
 len : out.length = a.length + b.length
 dig : b2S out
 zero : ∀ j, i + b.length ≤ j → (rd0 out j).nat = 0
 eq : bv out + 65536 ^ (i + k) * over = bv (a.take i) * bv b + (rd0 a i).nat * 65536 ^ i * bv (b.take k)
theorem e6G {a b : List Dg} {i k over : Nat} {out : List Dg} (h : MulInv a b i k over out) (hi : i < a.length) (hk : k < b.length) (d : Dg) (ov : Nat) (hd : DigOk d)
  (hs : d.nat + 65536 * ov = over + (rd0 out (i + k)).nat + (rd0 a i).nat * (rd0 b k).nat) : MulInv a b i (k + 1) ov (out.set (i + k) d) := by
 refine ⟨by simpa using h.len, b2I h.dig _ hd, fun j hj => ?_, ?_⟩
 ·
  rw [b3X _ _ _ _ (by omega)]; exact h.zero j hj
 ·
  have hset := e3P out (i + k) d (by rw [h.len]; omega)
  have heq := h.eq
  rw [b8O b k]
  have e1 : (rd0 a i).nat * 65536 ^ i * (bv (b.take k) + 65536 ^ k * (rd0 b k).nat) = (rd0 a i).nat * 65536 ^ i * bv (b.take k) + 65536 ^ (i + k) * ((rd0 a i).nat * (rd0 b k).nat) := by
   rw [Nat.mul_add, Nat.pow_add]
   congr 1
   simp only [Nat.mul_comm, Nat.mul_left_comm, Nat.mul_assoc]
  have e2 : 65536 ^ (i + (k + 1)) * ov = 65536 ^ (i + k) * (65536 * ov) := by rw [← Nat.add_assoc, Nat.pow_succ, Nat.mul_assoc]
  have e3 := congrArg (fun t => 65536 ^ (i + k) * t) hs
  simp only [Nat.mul_add] at e3
  rw [e1, e2]
  omega
theorem e6S {a b : List Dg} {i over : Nat} {out : List Dg} (h : MulInv a b i b.length over out) (hi : i < a.length) (d : Dg) (hd : DigOk d) (hv : d.nat = over) : MulInv a b (i + 1) 0 0 (out.set (i + b.length) d) := by
 refine ⟨by simpa using h.len, b2I h.dig _ hd, fun j hj => ?_, ?_⟩
 ·
  rw [b3X _ _ _ _ (by omega)]; exact h.zero j (by omega)
 ·
  have hset := e3P out (i + b.length) d (by rw [h.len]; omega)
  have hz := h.zero (i + b.length) (Nat.le_refl _)
  have heq := h.eq
  rw [hz, Nat.mul_zero, Nat.add_zero, hv] at hset
  rw [List.take_length] at heq
  rw [b8O a i, Nat.add_mul]
  have e : 65536 ^ i * (rd0 a i).nat * bv b = (rd0 a i).nat * 65536 ^ i * bv b := by rw [Nat.mul_comm (65536 ^ i)]
  simp only [List.take_zero, bv, Nat.mul_zero, Nat.add_zero]
  rw [e]
  omega
theorem d5F {a b : List Dg} {m n : Nat} (ha : IsB a m) (hb : IsB b n) (hal : a.length ≤ 1000000) (hbl : b.length ≤ 1000000) : ∃ r, a5Q ((a, b, ()), ()) = some ((r, ()), ()) ∧ IsB r (m * n) := by
 have hol : (I.ofNat .i64 (a0O a)).val = a.length := a2S (by show a.length < _; omega)
 have hol2 : (I.ofNat .i64 (a0O b)).val = b.length := a2S (by show b.length < _; omega)
 have c0 : (I.of .i64 0).val = 0 := rfl
 have c1 : (I.of .i64 1).val = 1 := rfl
 have hadd : (I.add (I.ofNat .i64 (a0O a)) (I.ofNat .i64 (a0O b))).val = a.length + b.length := by rw [a3D (by omega), hol, hol2]
 have hn : I.nat (I.add (I.ofNat .i64 (a0O a)) (I.ofNat .i64 (a0O b))) = a.length + b.length := by unfold I.nat; omega
 have key : Wp (fun o => ∃ r, o = some ((r, ()), ()) ∧ IsB r (m * n)) (a5Q ((a, b, ()), ())) := by
  unfold a5Q
  refine Wp.brnT ?_ (Wp.brnT ?_ ?_)
  ·
   show (decide (0 ≤ (I.add (I.ofNat .i64 (a0O a)) (I.ofNat .i64 (a0O b))).val) && decide ((I.add (I.ofNat .i64 (a0O a)) (I.ofNat .i64 (a0O b))).val ≤ ((I.nat (I.add (I.ofNat .i64 (a0O a)) (I.ofNat .i64 (a0O b))) : Nat) : Int))) = true
   rw [hn, hadd]; simp; omega
  ·
   show (decide (0 ≤ (I.add (I.ofNat .i64 (a0O a)) (I.ofNat .i64 (a0O b))).val) && decide ((I.add (I.ofNat .i64 (a0O a)) (I.ofNat .i64 (a0O b))).val ≤ ((1073741824 : Nat) : Int))) = true
   rw [hadd]; simp; omega
  refine Wp.iter (fun x => x.1.1 = a ∧ x.1.2.1 = b ∧ 0 ≤ x.1.2.2.1.val ∧ x.1.2.2.1.val ≤ (a.length : Int) ∧ MulInv a b x.1.2.2.1.val.toNat 0 0 x.2.1) (fun x => ((a.length : Int) - x.1.2.2.1.val).toNat) ?_ ?_ ?_
  ·
   rintro ⟨⟨a', b', i, ⟨⟩⟩, out0, ⟨⟩⟩ ⟨e1, e2, hi0, hi1, hI⟩
   simp only at e1 e2 hi0 hi1 hI
   subst e1 e2
   refine Wp.brn (fun h => ?_) (fun h => ?_)
   ·
    have hlt := iff_ltb.1 h
    simp only [hol] at hlt
    clear h
    have si : (I.add i (I.of .i64 1)).val = i.val + 1 := by rw [a3D (by omega)]; omega
    have sin : (I.add i (I.of .i64 1)).val.toNat = i.val.toNat + 1 := by omega
    have hmi : ((a'.length : Int) - (I.add i (I.of .i64 1)).val).toNat < ((a'.length : Int) - i.val).toNat := by omega
    refine Wp.iter (fun x => x.1.1 = a' ∧ x.1.2.1 = b' ∧ x.1.2.2.1 = i ∧ 0 ≤ x.1.2.2.2.1.val ∧ x.1.2.2.2.1.val < 65536 ∧ 0 ≤ x.1.2.2.2.2.1.val ∧ x.1.2.2.2.2.1.val ≤ (b'.length : Int) ∧ MulInv a' b' i.val.toNat x.1.2.2.2.2.1.val.toNat (I.nat (k := .i64) x.1.2.2.2.1) x.2.1) (fun x => ((b'.length : Int) - x.1.2.2.2.2.1.val).toNat) ?_ ?_ ?_
    ·
     rintro ⟨⟨a2, b2, i2, over, k, ⟨⟩⟩, out, ⟨⟩⟩ ⟨e1, e2, e3, ho0, ho1, hk0, hk1, hinv⟩
     simp only at e1 e2 e3 ho0 ho1 hk0 hk1 hinv
     subst e1 e2 e3
     have hlen := hinv.len
     refine Wp.brn (fun h => ?_) (fun h => ?_)
     ·
      have hkl := iff_ltb.1 h
      simp only [hol2] at hkl
      clear h
      have sk : (I.add k (I.of .i64 1)).val = k.val + 1 := by rw [a3D (by omega)]; omega
      have skn : (I.add k (I.of .i64 1)).val.toNat = k.val.toNat + 1 := by omega
      have sik : (I.add i2 k).val = i2.val + k.val := a3D (by omega)
      have nik : I.nat (I.add i2 k) = i2.val.toNat + k.val.toNat := by unfold I.nat; omega
      have hmk : ((b2.length : Int) - (I.add k (I.of .i64 1)).val).toNat < ((b2.length : Int) - k.val).toNat := by omega
      have bik : inB (I.add i2 k) (a0O out) = true := iff_inB.2 ⟨by omega, by show (I.add i2 k).val < ((out.length : Nat) : Int); omega⟩
      refine Wp.brnT bik (Wp.brnT (iff_inB.2 ⟨hi0, by show i2.val < ((a2.length : Nat) : Int); omega⟩) (Wp.brnT (iff_inB.2 ⟨hk0, by show k.val < ((b2.length : Nat) : Int); omega⟩) (Wp.brnT bik ?_)))
      have da := a9W ha.dig i2.val.toNat
      have db := a9W hb.dig k.val.toNat
      have dq := a9W hinv.dig (i2.val.toNat + k.val.toNat)
      have na := da.nat
      have nb := db.nat
      have nq := dq.nat
      unfold DigOk at da db dq
      have hprod : (rd0 a2 i2.val.toNat).val * (rd0 b2 k.val.toNat).val = (((rd0 a2 i2.val.toNat).nat * (rd0 b2 k.val.toNat).nat : Nat) : Int) := by rw [Int.natCast_mul, na.1, nb.1]
      have hple : (rd0 a2 i2.val.toNat).nat * (rd0 b2 k.val.toNat).nat ≤ 65535 * 65535 := Nat.mul_le_mul (by omega) (by omega)
      have hm1 : (I.mul (rd0 a2 i2.val.toNat) (rd0 b2 k.val.toNat)).val = (((rd0 a2 i2.val.toNat).nat * (rd0 b2 k.val.toNat).nat : Nat) : Int) := by rw [b9M (by rw [hprod]; omega), hprod]
      have hs1 : (I.add over (rd0 out (i2.val.toNat + k.val.toNat))).val = over.val + (rd0 out (i2.val.toNat + k.val.toNat)).val := a3D (by omega)
      have hs2 : (I.add (I.add over (rd0 out (i2.val.toNat + k.val.toNat))) (I.mul (rd0 a2 i2.val.toNat) (rd0 b2 k.val.toNat))).val = over.val + (rd0 out (i2.val.toNat + k.val.toNat)).val + (((rd0 a2 i2.val.toNat).nat * (rd0 b2 k.val.toNat).nat : Nat) : Int) := by rw [a3D (by rw [hs1, hm1]; omega), hs1, hm1]
      generalize hS : I.add (I.add over (rd0 out (i2.val.toNat + k.val.toNat))) (I.mul (rd0 a2 i2.val.toNat) (rd0 b2 k.val.toNat)) = s at hs2
      have hsh := c2F s (by omega)
      have han := d4R s (by omega)
      have hdig : DigOk (I.and s (I.of .i64 65535)) := by unfold DigOk; omega
      have hon : (over.nat : Int) = over.val := by unfold I.nat; omega
      have st := e6G hinv (by omega) (by omega) (I.and s (I.of .i64 65535)) (I.shr s (I.of .u64 16)).nat hdig (by
       have h1 := hdig.nat
       have h2 : ((I.shr s (I.of .u64 16)).nat : Int) = (I.shr s (I.of .u64 16)).val := by unfold I.nat; omega
       omega)
      refine Wp.again ⟨rfl, rfl, rfl, ?_, ?_, ?_, ?_, ?_⟩ hmk
      ·
       show 0 ≤ (I.shr (I.add (I.add over (rd0 out (I.nat (I.add i2 k)))) (I.mul (rd0 a2 (I.nat i2)) (rd0 b2 (I.nat k)))) (I.of .u64 16)).val
       rw [nik]
       show 0 ≤ (I.shr (I.add (I.add over (rd0 out (i2.val.toNat + k.val.toNat))) (I.mul (rd0 a2 i2.val.toNat) (rd0 b2 k.val.toNat))) (I.of .u64 16)).val
       rw [hS]; omega
      ·
       show (I.shr (I.add (I.add over (rd0 out (I.nat (I.add i2 k)))) (I.mul (rd0 a2 (I.nat i2)) (rd0 b2 (I.nat k)))) (I.of .u64 16)).val < 65536
       rw [nik]
       show (I.shr (I.add (I.add over (rd0 out (i2.val.toNat + k.val.toNat))) (I.mul (rd0 a2 i2.val.toNat) (rd0 b2 k.val.toNat))) (I.of .u64 16)).val < 65536
       rw [hS]; omega
      ·
       show 0 ≤ (I.add k (I.of .i64 1)).val; omega
      ·
       show (I.add k (I.of .i64 1)).val ≤ _; omega
      ·
       show MulInv a2 b2 i2.val.toNat (I.add k (I.of .i64 1)).val.toNat (I.nat (I.shr (I.add (I.add over (rd0 out (I.nat (I.add i2 k)))) (I.mul (rd0 a2 (I.nat i2)) (rd0 b2 (I.nat k)))) (I.of .u64 16))) (setAt out (I.nat (I.add i2 k)) (I.and (I.add (I.add over (rd0 out (I.nat (I.add i2 k)))) (I.mul (rd0 a2 (I.nat i2)) (rd0 b2 (I.nat k)))) (I.of .i64 65535)))
       rw [nik, skn, a2J]
       show MulInv a2 b2 i2.val.toNat (k.val.toNat + 1) (I.nat (I.shr (I.add (I.add over (rd0 out (i2.val.toNat + k.val.toNat))) (I.mul (rd0 a2 i2.val.toNat) (rd0 b2 k.val.toNat))) (I.of .u64 16))) (out.set (i2.val.toNat + k.val.toNat) (I.and (I.add (I.add over (rd0 out (i2.val.toNat + k.val.toNat))) (I.mul (rd0 a2 i2.val.toNat) (rd0 b2 k.val.toNat))) (I.of .i64 65535)))
       rw [hS]; exact st
     ·
      have h := niff_ltb.1 h
      simp only [hol2] at h
      have hk : k.val.toNat = b2.length := by omega
      rw [hk] at hinv
      have sib : (I.add i2 (I.ofNat .i64 (a0O b2))).val = i2.val + b2.length := by rw [a3D (by omega), hol2]
      have nib : I.nat (I.add i2 (I.ofNat .i64 (a0O b2))) = i2.val.toNat + b2.length := by unfold I.nat; omega
      refine Wp.done (Wp.brnT (iff_inB.2 ⟨by show 0 ≤ (I.add i2 (I.ofNat .i64 (a0O b2))).val; omega, by show (I.add i2 (I.ofNat .i64 (a0O b2))).val < ((out.length : Nat) : Int); omega⟩) ?_)
      have st := e6S hinv (by omega) over ⟨ho0, ho1⟩ rfl
      refine Wp.again ⟨rfl, rfl, ?_, ?_, ?_⟩ hmi
      ·
       show 0 ≤ (I.add i2 (I.of .i64 1)).val; omega
      ·
       show (I.add i2 (I.of .i64 1)).val ≤ _; omega
      ·
       show MulInv a2 b2 (I.add i2 (I.of .i64 1)).val.toNat 0 0 (setAt out (I.nat (I.add i2 (I.ofNat .i64 (a0O b2)))) over)
       rw [sin, nib, a2J]
       exact st
    ·
     refine ⟨rfl, rfl, rfl, by show 0 ≤ (I.of .i64 0).val; decide, by show (I.of .i64 0).val < 65536; decide, by show 0 ≤ (I.of .i64 0).val; decide, by show (I.of .i64 0).val ≤ (b'.length : Int); omega, ?_⟩
     exact hI
    ·
     exact b1S _ (by show ((b'.length : Int) - (I.of .i64 0).val).toNat < _; omega)
   ·
    have h := niff_ltb.1 h
    simp only [hol] at h
    have hi : i.val.toNat = a'.length := by omega
    rw [hi] at hI
    have heq := hI.eq
    rw [List.take_length, Nat.mul_zero, Nat.add_zero, List.take_zero] at heq
    have hlen := hI.len
    obtain ⟨r, hr, hB⟩ := d0B out0 hI.dig (by omega)
    refine Wp.done (Wp.optF hr ⟨r, rfl, hB.dig, hB.lead, ?_⟩)
    rw [hB.val, heq, ha.val, hb.val]
    simp [bv]
  ·
   refine ⟨rfl, rfl, by show 0 ≤ (I.of .i64 0).val; decide, by show (I.of .i64 0).val ≤ (a.length : Int); omega, ?_⟩
   show MulInv a b (I.of .i64 0).val.toNat 0 0 (b4L (I.nat (I.add (I.ofNat .i64 (a0O a)) (I.ofNat .i64 (a0O b)))) (I.of .i64 0))
   rw [hn]
   refine ⟨a9J _ _, b5P _, fun j _ => c9O _ _, ?_⟩
   have e : (I.of .i64 0).val.toNat = 0 := rfl
   rw [c9N, e]
   simp [bv]
  ·
   exact b1S _ (by show ((a.length : Int) - (I.of .i64 0).val).toNat < _; omega)
 exact key.out
end Sym

/- Signed numbers: the laws of arithmetic. -/
namespace Sym
open Go
theorem f3E {s t : SB} {z w : Int} (hs : IsSB s z) (ht : IsSB t w) (hz : Bd z.natAbs) (hw : Bd w.natAbs) (hzw : Bd (z.natAbs * w.natAbs)) : ∃ r : SB, a7V ((s, t, ()), ()) = some ((r, ()), ()) ∧ IsSB r (z * w) := by
 have key : Wp (fun o => ∃ r : SB, o = some ((r, ()), ()) ∧ IsSB r (z * w)) (a7V ((s, t, ()), ())) := by
  unfold a7V
  obtain ⟨l, hl, hB⟩ := d5F hs.abs ht.abs (Bd.len hs.abs hz) (Bd.len ht.abs hw)
  refine Wp.optF hl ?_
  obtain ⟨r, hr, hR⟩ := b3D (!(s.1 == t.1)) hB (Bd.len hB hzw)
  refine Wp.optF hr ⟨r, rfl, ?_⟩
  have e1 : sgn s.1 z.natAbs = z := by rw [hs.neg]; unfold sgn; by_cases h : z < 0 <;> simp [h] <;> omega
  have e2 : sgn t.1 w.natAbs = w := by rw [ht.neg]; unfold sgn; by_cases h : w < 0 <;> simp [h] <;> omega
  rw [← e1Y, e1, e2] at hR
  exact hR
 exact key.out
end Sym

/- Natural numbers by digits of 65536: quotients. -/
namespace Sym
open Go
theorem b5V (l : List Dg) (i : Nat) (d : Dg) (h : i < l.length) : rd0 (l.set i d) i = d := by
 unfold rd0
 rw [a3Z _ _ _ (by simpa using h)]
 simp
theorem a9P (l : List Dg) (i : Nat) (d : Dg) : (l.set i d).drop (i + 1) = l.drop (i + 1) := by
 rw [List.drop_set_of_lt (by omega)]
theorem d3U (l : List Dg) (i : Nat) (d : Dg) (h : i < l.length) : bv ((l.set i d).drop i) = d.nat + 65536 * bv (l.drop (i + 1)) := by
 rw [b4G, b5V _ _ _ h, a9P]
structure ShInv (a : List Dg) (d : Nat) (left : Nat) (j : Nat) (q : List Dg) : Prop where
 len : q.length = a.length
 dig : b2S q
 lt : left < d
 eq : bv (a.drop j) = bv (q.drop j) * d + left
theorem f2S {a q : List Dg} {d left j x : Nat} (h : ShInv a d left (j + 1) q) (hj : j < a.length) (hx : x = 65536 * left + (rd0 a j).nat) (v : Dg) (hv : v.nat = x / d) (hd : DigOk v) (hd0 : 0 < d) : ShInv a d (x % d) j (q.set j v) := by
 refine ⟨by simpa using h.len, b2I h.dig _ hd, Nat.mod_lt _ hd0, ?_⟩
 rw [b4G a j, d3U _ _ _ (by rw [h.len]; exact hj), hv, h.eq, Nat.add_mul, Nat.mul_assoc]
 have h1 := Nat.div_add_mod x d
 rw [Nat.mul_comm] at h1
 rw [Nat.mul_add]
 omega
theorem e5L {a : List Dg} {m : Nat} (ha : IsB a m) (hal : a.length ≤ 1000000) (d : Dg) (hd : DigOk d) (h0 : d.val ≠ 0) : ∃ q r, a6J ((a, d, ()), ()) = some ((q, r, ()), ()) ∧ IsB q (m / d.nat) ∧ IsB r (m % d.nat) := by
 have hol : (I.ofNat .i64 (a0O a)).val = a.length := a2S (by show a.length < _; omega)
 have hn : I.nat (I.ofNat .i64 (a0O a)) = a.length := by unfold I.nat; omega
 have c0 : (I.of .i64 0).val = 0 := rfl
 have c1 : (I.of .i64 1).val = 1 := rfl
 have cB : (I.of .i64 65536).val = 65536 := rfl
 have dn := hd.nat
 have hd' := hd
 unfold DigOk at hd'
 have key : Wp (fun o => ∃ q r, o = some ((q, r, ()), ()) ∧ IsB q (m / d.nat) ∧ IsB r (m % d.nat)) (a6J ((a, d, ()), ())) := by
  unfold a6J
  refine Wp.brnT ?_ (Wp.brnT ?_ ?_)
  ·
   show (decide (0 ≤ (I.ofNat .i64 (a0O a)).val) && decide ((I.ofNat .i64 (a0O a)).val ≤ ((I.nat (I.ofNat .i64 (a0O a)) : Nat) : Int))) = true
   rw [hn, hol]; simp
  ·
   show (decide (0 ≤ (I.ofNat .i64 (a0O a)).val) && decide ((I.ofNat .i64 (a0O a)).val ≤ ((1073741824 : Nat) : Int))) = true
   rw [hol]; simp; omega
  refine Wp.iter (fun x => x.1.1 = a ∧ x.1.2.1 = d ∧ 0 ≤ x.1.2.2.1.val ∧ -1 ≤ x.1.2.2.2.1.val ∧ x.1.2.2.2.1.val < (a.length : Int) ∧ ShInv a d.nat (I.nat (k := .i64) x.1.2.2.1) (x.1.2.2.2.1.val + 1).toNat x.2.1) (fun x => (x.1.2.2.2.1.val + 1).toNat) ?_ ?_ ?_
  ·
   rintro ⟨⟨a', d', left, i, ⟨⟩⟩, q, ⟨⟩⟩ ⟨e1, e2, hl0, hi0, hi1, hI⟩
   simp only at e1 e2 hl0 hi0 hi1 hI
   subst e1 e2
   have hlt := hI.lt
   have hll : (left.nat : Int) = left.val := by unfold I.nat; omega
   refine Wp.brn (fun h => ?_) (fun h => ?_)
   ·
    have hge := iff_leb.1 h
    simp only [c0] at hge
    clear h
    have ej : (i.val + 1).toNat = i.val.toNat + 1 := by omega
    rw [ej] at hI
    have da := a9W ha.dig i.val.toNat
    have na := da.nat
    unfold DigOk at da
    have hs : (I.sub i (I.of .i64 1)).val = i.val - 1 := by rw [a8X (by omega)]; omega
    have hm1 : (I.mul (I.of .i64 65536) left).val = 65536 * left.val := by rw [b9M (by rw [cB]; omega), cB]
    have hx : (I.add (I.mul (I.of .i64 65536) left) (rd0 a' i.val.toNat)).val = 65536 * left.val + (rd0 a' i.val.toNat).val := by rw [a3D (by rw [hm1]; omega), hm1]
    generalize hX : I.add (I.mul (I.of .i64 65536) left) (rd0 a' i.val.toNat) = x at hx
    have hxn : (x.nat : Int) = x.val := by unfold I.nat; omega
    have hq : (I.quo x d').val = x.val / d'.val := c1C (by omega) (by omega)
    have hr : (I.rem x d').val = x.val % d'.val := c5L (by omega) (by omega)
    have hq2 : x.val / d'.val = ((x.nat / d'.nat : Nat) : Int) := by rw [Int.natCast_ediv, hxn, dn.1]
    have hr2 : x.val % d'.val = ((x.nat % d'.nat : Nat) : Int) := by rw [Int.natCast_emod, hxn, dn.1]
    have hqlt : x.nat / d'.nat < 65536 := by
     rw [Nat.div_lt_iff_lt_mul (by omega)]
     omega
    have hqn : (I.quo x d').nat = x.nat / d'.nat := by
     show (I.quo x d').val.toNat = _
     rw [hq, hq2, Int.toNat_natCast]
    have hrn : (I.rem x d').nat = x.nat % d'.nat := by
     show (I.rem x d').val.toNat = _
     rw [hr, hr2, Int.toNat_natCast]
    have st := f2S hI (by omega) (x := x.nat) (by omega) (I.quo x d') hqn ⟨by rw [hq, hq2]; omega, by rw [hq, hq2]; omega⟩ (by omega)
    have hlen := hI.len
    refine Wp.brnT (iff_inB.2 ⟨hge, by show i.val < ((a'.length : Nat) : Int); omega⟩) ?_
    refine Wp.brnT (iff_nz.2 h0) (Wp.brnT (iff_nz.2 h0) ?_)
    refine Wp.brnT (iff_inB.2 ⟨hge, by show i.val < ((q.length : Nat) : Int); omega⟩) ?_
    refine Wp.again ⟨rfl, rfl, ?_, ?_, ?_, ?_⟩ ?_
    ·
     show 0 ≤ (I.rem (I.add (I.mul (I.of .i64 65536) left) (rd0 a' i.val.toNat)) d').val
     rw [hX, hr, hr2]; omega
    ·
     show -1 ≤ (I.sub i (I.of .i64 1)).val; omega
    ·
     show (I.sub i (I.of .i64 1)).val < _; omega
    ·
     show ShInv a' d'.nat (I.nat (I.rem (I.add (I.mul (I.of .i64 65536) left) (rd0 a' i.val.toNat)) d')) ((I.sub i (I.of .i64 1)).val + 1).toNat (setAt q (I.nat i) (I.quo (I.add (I.mul (I.of .i64 65536) left) (rd0 a' i.val.toNat)) d'))
     rw [hX, a2J, hrn, show ((I.sub i (I.of .i64 1)).val + 1).toNat = i.val.toNat by omega]
     exact st
    ·
     show ((I.sub i (I.of .i64 1)).val + 1).toNat < (i.val + 1).toNat
     omega
   ·
    have h := niff_leb.1 h
    simp only [c0] at h
    have e0 : (i.val + 1).toNat = 0 := by omega
    rw [e0] at hI
    have heq := hI.eq
    simp only [List.drop_zero] at heq
    rw [ha.val] at heq
    have hlen := hI.len
    obtain ⟨qq, hq, hQ⟩ := d0B q hI.dig (by omega)
    have hdl : b2S [left] := by intro e he; simp only [List.mem_singleton] at he; subst he; exact ⟨by omega, by omega⟩
    obtain ⟨rr, hr, hR⟩ := d0B [left] hdl (by simp)
    refine Wp.done (Wp.optF hq (Wp.optF hr ⟨qq, rr, rfl, ?_, ?_⟩))
    ·
     refine ⟨hQ.dig, hQ.lead, ?_⟩
     rw [hQ.val, heq, Nat.mul_comm, Nat.mul_add_div (by omega), Nat.div_eq_of_lt hlt, Nat.add_zero]
    ·
     refine ⟨hR.dig, hR.lead, ?_⟩
     rw [hR.val, heq, Nat.mul_comm, Nat.mul_add_mod, Nat.mod_eq_of_lt hlt]
     simp [bv]
  ·
   refine ⟨rfl, rfl, by show 0 ≤ (I.of .i64 0).val; decide, ?_, ?_, ?_⟩
   ·
    show -1 ≤ (I.sub (I.ofNat .i64 (a0O a)) (I.of .i64 1)).val
    rw [a8X (by omega)]; omega
   ·
    show (I.sub (I.ofNat .i64 (a0O a)) (I.of .i64 1)).val < _
    rw [a8X (by omega)]; omega
   ·
    show ShInv a d.nat (I.of .i64 0).nat ((I.sub (I.ofNat .i64 (a0O a)) (I.of .i64 1)).val + 1).toNat (b4L (I.nat (I.ofNat .i64 (a0O a))) (I.of .i64 0))
    rw [a8X (by omega), hn, hol, c1, show ((a.length : Int) - 1 + 1).toNat = a.length by omega]
    refine ⟨a9J _ _, b5P _, by show 0 < d.nat; omega, ?_⟩
    rw [List.drop_of_length_le (Nat.le_refl _), List.drop_of_length_le (by rw [a9J]; omega)]
    simp [bv]; rfl
  ·
   refine b1S _ ?_
   show ((I.sub (I.ofNat .i64 (a0O a)) (I.of .i64 1)).val + 1).toNat < _
   rw [a8X (by omega)]; omega
 exact key.out
end Sym

/- Natural numbers by digits of 65536: the long division. -/
namespace Sym
open Go
theorem half' (N i : Nat) : N / 2 ^ i = 2 * (N / 2 ^ (i + 1)) + N / 2 ^ i % 2 := by
 rw [Nat.pow_succ, ← Nat.div_div_eq_div_mul]
 omega
structure DivOut (a q r : List Dg) (n j : Nat) : Prop where
 ql : q.length = a.length
 qd : b2S q
 rd : b2S r
 lt : bv r < n
 zero : ∀ s, s < j → (rd0 q s).nat = 0
 eq : bv (a.drop j) = bv (q.drop j) * n + bv r
structure DivMid (a q r : List Dg) (n i t : Nat) : Prop where
 ql : q.length = a.length
 qd : b2S q
 rd : b2S r
 lt : bv r < n
 zero : ∀ s, s < i → (rd0 q s).nat = 0
 low : (rd0 q i).nat % 2 ^ t = 0
 eq : bv (a.drop (i + 1)) * 2 ^ (16 - t) + (rd0 a i).nat / 2 ^ t = (bv (q.drop (i + 1)) * 2 ^ (16 - t) + (rd0 q i).nat / 2 ^ t) * n + bv r
theorem e0J {a q r : List Dg} {n i : Nat} (ha : b2S a) (h : DivOut a q r n (i + 1)) : DivMid a q r n i 16 := by
 have hz := h.zero i (by omega)
 have h1 := (a9W ha i).nat.2
 have p : 2 ^ 16 = 65536 := by decide
 refine ⟨h.ql, h.qd, h.rd, h.lt, fun s hs => h.zero s (by omega), by rw [hz, Nat.zero_mod], ?_⟩
 rw [hz, p, Nat.div_eq_of_lt h1, h.eq]
 simp
theorem mid_end {a q r : List Dg} {n i : Nat} (h : DivMid a q r n i 0) : DivOut a q r n i := by
 refine ⟨h.ql, h.qd, h.rd, h.lt, h.zero, ?_⟩
 have heq := h.eq
 have p : 2 ^ (16 - 0) = 65536 := by decide
 rw [p] at heq
 simp only [Nat.pow_zero, Nat.div_one] at heq
 rw [b4G a, b4G q, Nat.add_comm, Nat.mul_comm 65536, heq, Nat.add_comm (rd0 q i).nat, Nat.mul_comm 65536]
theorem f1B {x t : Nat} (h : x % 2 ^ (t + 1) = 0) : x % 2 ^ t = 0 ∧ x / 2 ^ t = 2 * (x / 2 ^ (t + 1)) := by
 have h1 := half' x t
 rw [Nat.pow_succ] at h
 have h4 := Nat.mod_mul (x := x) (a := 2 ^ t) (b := 2)
 rw [h] at h4
 have h5 : 0 < 2 ^ t := Nat.pow_pos (by decide)
 have h6 : x / 2 ^ t % 2 = 0 := by
  rcases Nat.eq_zero_or_pos (x / 2 ^ t % 2) with h6 | h6
  ·
   exact h6
  ·
   have : 2 ^ t * 1 ≤ 2 ^ t * (x / 2 ^ t % 2) := Nat.mul_le_mul_left _ h6
   omega
 omega
theorem b8J {a q r r' q' : List Dg} {n i t e : Nat} (h : DivMid a q r n i (t + 1)) (ht : t < 16) (hr : bv r' + e * n = 2 * bv r + (rd0 a i).nat / 2 ^ t % 2) (hrd : b2S r') (hlt : bv r' < n)
  (ql : q'.length = a.length) (qd : b2S q') (zero : ∀ s, s < i → (rd0 q' s).nat = 0) (qi : (rd0 q' i).nat = (rd0 q i).nat + e * 2 ^ t) (qdrop : q'.drop (i + 1) = q.drop (i + 1)) : DivMid a q' r' n i t := by
 have h1 := f1B h.low
 have hp : 2 ^ (16 - t) = 2 * 2 ^ (16 - (t + 1)) := by
  have e : 16 - t = (16 - (t + 1)) + 1 := by omega
  rw [e, Nat.pow_succ, Nat.mul_comm]
 have ha := half' (rd0 a i).nat t
 have hq : (rd0 q' i).nat / 2 ^ t = 2 * ((rd0 q i).nat / 2 ^ (t + 1)) + e := by
  rw [qi, Nat.add_mul_div_right _ _ (Nat.pow_pos (by decide)), h1.2]
 refine ⟨ql, qd, hrd, hlt, zero, by rw [qi, Nat.add_mul_mod_self_right]; exact h1.1, ?_⟩
 have heq := h.eq
 rw [qdrop, hp, hq, ha]
 have e1 : bv (a.drop (i + 1)) * (2 * 2 ^ (16 - (t + 1))) = 2 * (bv (a.drop (i + 1)) * 2 ^ (16 - (t + 1))) := Nat.mul_left_comm _ _ _
 have e2 : bv (q.drop (i + 1)) * (2 * 2 ^ (16 - (t + 1))) = 2 * (bv (q.drop (i + 1)) * 2 ^ (16 - (t + 1))) := Nat.mul_left_comm _ _ _
 rw [e1, e2]
 have e3 : (2 * (bv (q.drop (i + 1)) * 2 ^ (16 - (t + 1))) + (2 * ((rd0 q i).nat / 2 ^ (t + 1)) + e)) * n = 2 * ((bv (q.drop (i + 1)) * 2 ^ (16 - (t + 1)) + (rd0 q i).nat / 2 ^ (t + 1)) * n) + e * n := by
  rw [← Nat.add_assoc, ← Nat.mul_add, Nat.add_mul, Nat.mul_assoc]
 rw [e3]
 omega
structure DblInv (r : List Dg) (b over k : Nat) (s : List Dg) : Prop where
 len : s.length = r.length
 dig : b2S s
 drop : s.drop k = r.drop k
 o1 : over ≤ 1
 eq : bv (s.take k) + 65536 ^ k * over = 2 * bv (r.take k) + b
theorem e5K {r s : List Dg} {b over k : Nat} (h : DblInv r b over k s) (hk : k < r.length) (d : Dg) (ov : Nat) (hd : DigOk d) (ho : ov ≤ 1) (hs : d.nat + 65536 * ov = over + 2 * (rd0 s k).nat) : DblInv r b ov (k + 1) (s.set k d) := by
 have hrs : rd0 s k = rd0 r k := by
  have e := congrArg (fun l : List Dg => l[0]?) h.drop
  simp only [List.getElem?_drop, Nat.add_zero] at e
  unfold rd0
  have hk2 : k < s.length := by rw [h.len]; exact hk
  rw [a3Z _ _ _ hk2, a3Z _ _ _ hk]
  rw [List.getElem?_eq_getElem hk2, List.getElem?_eq_getElem hk] at e
  exact Option.some.inj e
 refine ⟨by simpa using h.len, b2I h.dig _ hd, ?_, ho, ?_⟩
 ·
  rw [a9P]
  have e := congrArg (fun l : List Dg => l.drop 1) h.drop
  simpa [List.drop_drop] using e
 ·
  rw [b6K _ _ _ (by rw [h.len]; exact hk), b7M, b8O r k, ← hrs]
  have el : (s.take k).length = k := by simp [h.len]; omega
  rw [el, Nat.pow_succ]
  simp only [bv, Nat.mul_zero, Nat.add_zero]
  have heq := h.eq
  have e := congrArg (fun z => 65536 ^ k * z) hs
  simp only [Nat.mul_add] at e
  rw [← Nat.mul_assoc] at e
  have e2 : 65536 ^ k * (2 * (rd0 s k).nat) = 2 * (65536 ^ k * (rd0 s k).nat) := Nat.mul_left_comm _ _ _
  rw [e2] at e
  omega
theorem b6W {l : List Dg} {j : I .i64} (h0 : 0 ≤ j.val) (h1 : j.val ≤ (l.length : Int)) : inB' j (a0O l) = true := by
 show (decide (0 ≤ j.val) && decide (j.val ≤ ((l.length : Nat) : Int))) = true
 simp [h0, h1]
theorem c2O (l : List Dg) (j : I .i64) : a6E l 0 (I.nat j) = l.take j.val.toNat := by simp [a6E, I.nat]
theorem b7Z {l : List Dg} {j : I .i64} (h0 : 0 ≤ j.val) (h : j.val ≤ 0) (hb : bv (l.take j.val.toNat) = bv l) : IsB (a6E l 0 (I.nat j)) (bv l) := by
 rw [c2O]
 have e : j.val.toNat = 0 := by omega
 rw [e] at hb ⊢
 simp only [List.take_zero] at hb ⊢
 rw [← hb]
 exact c3S
theorem c2H {l : List Dg} {j : I .i64} (hd : b2S l) (h0 : 0 < j.val) (h1 : j.val ≤ (l.length : Int)) (hlen : l.length ≤ 1073741824) (hb : bv (l.take j.val.toNat) = bv l) :
  (I.sub j (I.of .i64 1)).val = j.val - 1 ∧ inB (I.sub j (I.of .i64 1)) (a0O l) = true ∧
  (I.eqb (rdL (I.of .i64 0) l (I.nat (I.sub j (I.of .i64 1)))) (I.of .i64 0) = true → bv (l.take (I.sub j (I.of .i64 1)).val.toNat) = bv l) ∧
  (I.eqb (rdL (I.of .i64 0) l (I.nat (I.sub j (I.of .i64 1)))) (I.of .i64 0) = false → IsB (a6E l 0 (I.nat j)) (bv l)) := by
 have c1 : (I.of .i64 1).val = 1 := rfl
 have c0 : (I.of .i64 0).val = 0 := rfl
 have hs : (I.sub j (I.of .i64 1)).val = j.val - 1 := by rw [a8X (by omega)]; omega
 have hidx : (I.nat (I.sub j (I.of .i64 1))) = j.val.toNat - 1 := by unfold I.nat; omega
 have hlt : j.val.toNat - 1 < l.length := by omega
 have hrd : rdL (I.of .i64 0) l (I.nat (I.sub j (I.of .i64 1))) = l[j.val.toNat - 1] := by rw [hidx]; exact a3Z _ _ _ hlt
 have htk : l.take j.val.toNat = l.take (j.val.toNat - 1) ++ [l[j.val.toNat - 1]] := by
  rw [List.take_append_getElem hlt]
  congr 1
  omega
 refine ⟨hs, iff_inB.2 ⟨by omega, by show (I.sub j (I.of .i64 1)).val < (l.length : Int); omega⟩, fun h2 => ?_, fun h2 => ?_⟩
 ·
  have h2 := iff_eqb.1 h2
  rw [hrd, c0] at h2
  have e : (I.sub j (I.of .i64 1)).val.toNat = j.val.toNat - 1 := by omega
  rw [e, ← hb, htk, b7M]
  have hz : (l[j.val.toNat - 1]).nat = 0 := by unfold I.nat; rw [h2]; rfl
  simp [bv, hz]
 ·
  have h2 := niff_eqb.1 h2
  rw [hrd, c0] at h2
  rw [c2O]
  refine ⟨b7G hd _, ?_, hb⟩
  rw [htk]
  exact b7V _ _ h2
theorem c0Y {s d : List Dg} {k : Nat} (hk : k < s.length) (hb : bv (s.take k) = bv (d.take k)) (hs : b2S s) (hd : b2S d) : bv ((s.set k (rd0 d k)).take (k + 1)) = bv (d.take (k + 1)) ∧ b2S (s.set k (rd0 d k)) := by
 refine ⟨?_, b2I hs _ (a9W hd k)⟩
 rw [b6K _ _ _ hk, b7M, b8O d k, hb]
 have el : (s.take k).length = k := by simp; omega
 rw [el]
 simp [bv]
theorem c9U (t : I .i64) (h0 : 0 ≤ t.val) (h1 : t.val ≤ 15) : (I.shl (I.of .i64 1) (I.conv .u64 t)).val = ((2 ^ t.val.toNat : Nat) : Int) := by
 have hc : (I.conv .u64 t).val = t.val := b1K ⟨by omega, by omega⟩
 have hm : min (I.conv .u64 t).val.toNat IntKind.i64.bits = t.val.toNat := by
  have : IntKind.i64.bits = 64 := rfl
  omega
 have h3 : 2 ^ t.val.toNat ≤ 2 ^ 15 := Nat.pow_le_pow_right (by decide) (by omega)
 have h4 : ((2 ^ t.val.toNat : Nat) : Int) = 2 ^ t.val.toNat := by simp
 have h5 : (I.of .i64 1).val = 1 := rfl
 unfold I.shl
 rw [hm, h5, Int.one_mul, ← h4]
 exact b1T ⟨Int.le_trans (by decide) (Int.natCast_nonneg _), Int.lt_of_le_of_lt (Int.ofNat_le.2 h3) (by decide)⟩
theorem f3O (x t : I .i64) (hx : 0 ≤ x.val) (h0 : 0 ≤ t.val) (h1 : t.val ≤ 15) : (I.and (I.shr x (I.conv .u64 t)) (I.of .i64 1)).val = ((x.nat / 2 ^ t.val.toNat % 2 : Nat) : Int) := by
 have hxr := b4F x
 have hc : (I.conv .u64 t).val = t.val := b1K ⟨by omega, by omega⟩
 have hm : min (I.conv .u64 t).val.toNat IntKind.i64.bits = t.val.toNat := by
  have : IntKind.i64.bits = 64 := rfl
  omega
 have hxn : (x.nat : Int) = x.val := by unfold I.nat; omega
 have h2 : ((x.nat / 2 ^ t.val.toNat : Nat) : Int) = x.val / (2 : Int) ^ t.val.toNat := by
  rw [Int.natCast_ediv, hxn]; simp
 have hle := Nat.div_le_self x.nat (2 ^ t.val.toNat)
 have hs : (I.shr x (I.conv .u64 t)).val = ((x.nat / 2 ^ t.val.toNat : Nat) : Int) := by
  unfold I.shr
  rw [hm, c0X _ _ hx, ← h2]
  exact b1T ⟨Int.le_trans (by decide) (Int.natCast_nonneg _), Int.lt_of_le_of_lt (Int.ofNat_le.2 hle) (by omega)⟩
 have h3 : (BitVec.ofInt 64 (I.shr x (I.conv .u64 t)).val &&& BitVec.ofInt 64 1).toNat = x.nat / 2 ^ t.val.toNat % 2 := by
  rw [BitVec.toNat_and, hs]
  have e1 : (BitVec.ofInt 64 1).toNat = 2 ^ 1 - 1 := rfl
  rw [e1, Nat.and_two_pow_sub_one_eq_mod, BitVec.toNat_ofInt]
  omega
 have h4 : (I.of .i64 1).val = 1 := rfl
 unfold I.and
 rw [h4]
 show (I.of .i64 ((BitVec.ofInt 64 _ &&& BitVec.ofInt 64 1).toNat : Int)).val = _
 rw [h3]
 exact b1T ⟨by omega, by omega⟩
set_option maxHeartbeats 4000000 in
theorem d4E {a b : List Dg} {m n : Nat} (ha : IsB a m) (hb : IsB b n) (hn0 : n ≠ 0) (hal : a.length ≤ 1000000) (hbl : b.length ≤ 900000) : ∃ q r, a4S ((a, b, ()), ()) = some ((q, r, ()), ()) ∧ IsB q (m / n) ∧ IsB r (m % n) := by
 have hol : (I.ofNat .i64 (a0O a)).val = a.length := a2S (by show a.length < _; omega)
 have hol2 : (I.ofNat .i64 (a0O b)).val = b.length := a2S (by show b.length < _; omega)
 have hn : I.nat (I.ofNat .i64 (a0O a)) = a.length := by unfold I.nat; omega
 have c0 : (I.of .i64 0).val = 0 := rfl
 have c1 : (I.of .i64 1).val = 1 := rfl
 have c2 : (I.of .i64 2).val = 2 := rfl
 have hb1 : (I.add (I.ofNat .i64 (a0O b)) (I.of .i64 1)).val = b.length + 1 := by rw [a3D (by omega), hol2, c1]
 have hbn : I.nat (I.add (I.ofNat .i64 (a0O b)) (I.of .i64 1)) = b.length + 1 := by unfold I.nat; omega
 have hnlt := hb.len.1 (Nat.le_refl b.length)
 have key : Wp (fun o => ∃ q r, o = some ((q, r, ()), ()) ∧ IsB q (m / n) ∧ IsB r (m % n)) (a4S ((a, b, ()), ())) := by
  unfold a4S
  refine Wp.brn (fun h => ?_) (fun h => ?_)
  ·
   have h := iff_eqb.1 h
   have h : (I.ofNat .i64 (a0O b)).val = (I.of .i64 1).val := h
   have hd1 : b.length = 1 := by omega
   obtain ⟨d, hd⟩ := List.length_eq_one_iff.1 hd1
   subst hd
   refine Wp.brnT (iff_inB.2 ⟨by show 0 ≤ (I.of .i64 0).val; decide, by show (I.of .i64 0).val < (([d] : List Dg).length : Int); simp [c0]⟩) ?_
   have hdd := (digs_cons.1 hb.dig).1
   have hdl : d.val ≠ 0 := hb.lead
   have hdv : d.nat = n := by have := hb.val; simp only [bv] at this; omega
   obtain ⟨q, r, h1, h2, h3⟩ := e5L ha hal d hdd hdl
   rw [hdv] at h2 h3
   exact Wp.optF h1 ⟨q, r, rfl, h2, h3⟩
  clear h
  refine Wp.brnT ?_ (Wp.brnT ?_ (Wp.brnT ?_ (Wp.brnT ?_ ?_)))
  ·
   show (decide (0 ≤ (I.ofNat .i64 (a0O a)).val) && decide ((I.ofNat .i64 (a0O a)).val ≤ ((I.nat (I.ofNat .i64 (a0O a)) : Nat) : Int))) = true
   rw [hn, hol]; simp
  ·
   show (decide (0 ≤ (I.ofNat .i64 (a0O a)).val) && decide ((I.ofNat .i64 (a0O a)).val ≤ ((1073741824 : Nat) : Int))) = true
   rw [hol]; simp; omega
  ·
   show (decide (0 ≤ (I.add (I.ofNat .i64 (a0O b)) (I.of .i64 1)).val) && decide ((I.add (I.ofNat .i64 (a0O b)) (I.of .i64 1)).val ≤ ((I.nat (I.add (I.ofNat .i64 (a0O b)) (I.of .i64 1)) : Nat) : Int))) = true
   rw [hbn, hb1]; simp; omega
  ·
   show (decide (0 ≤ (I.add (I.ofNat .i64 (a0O b)) (I.of .i64 1)).val) && decide ((I.add (I.ofNat .i64 (a0O b)) (I.of .i64 1)).val ≤ ((1073741824 : Nat) : Int))) = true
   rw [hb1]; simp; omega
  refine Wp.iter (fun x => x.1.1 = a ∧ x.1.2.1 = b ∧ -1 ≤ x.1.2.2.1.val ∧ x.1.2.2.1.val < (a.length : Int) ∧ x.2.2.1.length = b.length + 1 ∧ DivOut a x.2.1 x.2.2.1 n (x.1.2.2.1.val + 1).toNat) (fun x => (x.1.2.2.1.val + 1).toNat) ?_ ?_ ?_
  ·
   rintro ⟨⟨a', b', i, ⟨⟩⟩, q0, r0, ⟨⟩⟩ ⟨e1, e2, hi0, hi1, hrl, hI⟩
   simp only at e1 e2 hi0 hi1 hrl hI
   subst e1 e2
   have hal : a'.length ≤ 1000000 := hal
   have hbl : b'.length ≤ 900000 := hbl
   have hnlt : n < 65536 ^ b'.length := hnlt
   have hi1 : i.val < (a'.length : Int) := hi1
   have hrl : r0.length = b'.length + 1 := hrl
   refine Wp.brn (fun h => ?_) (fun h => ?_)
   ·
    have hge := iff_leb.1 h
    have hge : (I.of .i64 0).val ≤ i.val := hge
    clear h
    have si : (I.sub i (I.of .i64 1)).val = i.val - 1 := by rw [a8X (by omega)]; omega
    have ei : (i.val + 1).toNat = i.val.toNat + 1 := by omega
    rw [ei] at hI
    have hmi : ((I.sub i (I.of .i64 1)).val + 1).toNat < (i.val + 1).toNat := by omega
    have da := a9W ha.dig i.val.toNat
    have na := da.nat
    have da0 := da.1
    refine Wp.iter (fun x => x.1.1 = a' ∧ x.1.2.1 = b' ∧ x.1.2.2.1 = i ∧ -1 ≤ x.1.2.2.2.1.val ∧ x.1.2.2.2.1.val ≤ 15 ∧ x.2.2.1.length = b'.length + 1 ∧ DivMid a' x.2.1 x.2.2.1 n i.val.toNat (x.1.2.2.2.1.val + 1).toNat) (fun x => (x.1.2.2.2.1.val + 1).toNat) ?_ ⟨rfl, rfl, rfl, by show -1 ≤ (I.of .i64 15).val; decide, by show (I.of .i64 15).val ≤ 15; decide, hrl, e0J ha.dig hI⟩ (b1S _ (by show ((I.of .i64 15).val + 1).toNat < _; decide))
    rintro ⟨⟨a1, b1, i1, bit, ⟨⟩⟩, q, r, ⟨⟩⟩ ⟨e1, e2, e3, hb0, hb15, hrl, hM⟩
    simp only at e1 e2 e3 hb0 hb15 hrl hM
    subst e1 e2 e3
    have hal : a1.length ≤ 1000000 := hal
    have hbl : b1.length ≤ 900000 := hbl
    have hnlt : n < 65536 ^ b1.length := hnlt
    have hi1 : i1.val < (a1.length : Int) := hi1
    have hrl : r.length = b1.length + 1 := hrl
    refine Wp.brn (fun h => ?_) (fun h => ?_)
    ·
     have hbg := iff_leb.1 h
     have hbg : (I.of .i64 0).val ≤ bit.val := hbg
     clear h
     have sb : (I.sub bit (I.of .i64 1)).val = bit.val - 1 := by rw [a8X (by omega)]; omega
     have eb : (bit.val + 1).toNat = bit.val.toNat + 1 := by omega
     rw [eb] at hM
     have hmb : ((I.sub bit (I.of .i64 1)).val + 1).toNat < (bit.val + 1).toNat := by omega
     have esb : ((I.sub bit (I.of .i64 1)).val + 1).toNat = bit.val.toNat := by omega
     refine Wp.brnT (iff_inB.2 ⟨by show 0 ≤ i1.val; omega, by show i1.val < ((a1.length : Nat) : Int); omega⟩) (Wp.brnT (b6T _) ?_)
     have hbv := f3O (rd0 a1 i1.val.toNat) bit da0 (by omega) hb15
     generalize hbe : (rd0 a1 i1.val.toNat).nat / 2 ^ bit.val.toNat % 2 = bv0 at hbv
     have hbv1 : bv0 ≤ 1 := by omega
     have holr : (I.ofNat .i64 (a0O r)).val = r.length := a2S (by show r.length < _; omega)
     have hrlt := hM.lt
     refine Wp.iter (fun x => x.1.1 = a1 ∧ x.1.2.1 = b1 ∧ x.1.2.2.1 = i1 ∧ x.1.2.2.2.1 = bit ∧ x.2.1 = q ∧ 0 ≤ x.1.2.2.2.2.1.val ∧ 0 ≤ x.1.2.2.2.2.2.1.val ∧ x.1.2.2.2.2.2.1.val ≤ (r.length : Int) ∧ DblInv r bv0 (I.nat (k := .i64) x.1.2.2.2.2.1) x.1.2.2.2.2.2.1.val.toNat x.2.2.1) (fun x => ((r.length : Int) - x.1.2.2.2.2.2.1.val).toNat) ?_ ?_ ?_
     ·
      rintro ⟨⟨a2, b2, i2, bit2, ov, k, ⟨⟩⟩, q2, s, ⟨⟩⟩ ⟨e1, e2, e3, e4, e5, ho0, hk0, hk1, hD⟩
      simp only at e1 e2 e3 e4 e5 ho0 hk0 hk1 hD
      subst e1 e2 e3 e4 e5
      have hal : a2.length ≤ 1000000 := hal
      have hbl : b2.length ≤ 900000 := hbl
      have hnlt : n < 65536 ^ b2.length := hnlt
      have hi1 : i2.val < (a2.length : Int) := hi1
      have hrl : r.length = b2.length + 1 := hrl
      have hsl : s.length = r.length := hD.len
      have hols : (I.ofNat .i64 (a0O s)).val = s.length := a2S (by show s.length < _; omega)
      refine Wp.brn (fun h => ?_) (fun h => ?_)
      ·
       have hkl := iff_ltb.1 h
       have hkl : k.val < (I.ofNat .i64 (a0O s)).val := hkl
       clear h
       have sk : (I.add k (I.of .i64 1)).val = k.val + 1 := by rw [a3D (by omega)]; omega
       have bk : inB k (a0O s) = true := iff_inB.2 ⟨hk0, by show k.val < ((s.length : Nat) : Int); omega⟩
       have ds := a9W hD.dig k.val.toNat
       have ns := ds.nat
       have ds0 := ds.1
       have o1 := hD.o1
       have ovn : (I.nat ov : Int) = ov.val := by unfold I.nat; omega
       have hm1 : (I.mul (I.of .i64 2) (rd0 s k.val.toNat)).val = 2 * (rd0 s k.val.toNat).val := by rw [b9M (by rw [c2]; omega), c2]
       have hs1 : (I.add ov (I.mul (I.of .i64 2) (rd0 s k.val.toNat))).val = ov.val + 2 * (rd0 s k.val.toNat).val := by rw [a3D (by rw [hm1]; omega), hm1]
       generalize hX : I.add ov (I.mul (I.of .i64 2) (rd0 s k.val.toNat)) = x at hs1
       have hsh := c2F x (by omega)
       have han := d4R x (by omega)
       have hdig : DigOk (I.and x (I.of .i64 65535)) := ⟨by omega, by omega⟩
       have hshn : ((I.shr x (I.of .u64 16)).nat : Int) = (I.shr x (I.of .u64 16)).val := by unfold I.nat; omega
       have st := e5K hD (by omega) (I.and x (I.of .i64 65535)) (I.shr x (I.of .u64 16)).nat hdig (by omega) (by have := hdig.nat; omega)
       refine Wp.brnT bk (Wp.brnT bk ?_)
       refine Wp.again ⟨rfl, rfl, rfl, rfl, rfl, ?_, ?_, ?_, ?_⟩ ?_
       ·
        show 0 ≤ (I.shr (I.add ov (I.mul (I.of .i64 2) (rd0 s k.val.toNat))) (I.of .u64 16)).val
        rw [hX]; omega
       ·
        show 0 ≤ (I.add k (I.of .i64 1)).val; omega
       ·
        show (I.add k (I.of .i64 1)).val ≤ _; omega
       ·
        show DblInv r bv0 (I.nat (I.shr (I.add ov (I.mul (I.of .i64 2) (rd0 s k.val.toNat))) (I.of .u64 16))) (I.add k (I.of .i64 1)).val.toNat (setAt s (I.nat k) (I.and (I.add ov (I.mul (I.of .i64 2) (rd0 s k.val.toNat))) (I.of .i64 65535)))
        rw [hX, a2J, show (I.add k (I.of .i64 1)).val.toNat = k.val.toNat + 1 by omega]
        exact st
       ·
        show ((r.length : Int) - (I.add k (I.of .i64 1)).val).toNat < ((r.length : Int) - k.val).toNat
        omega
      ·
       have hkg := niff_ltb.1 h
       have hkg : (I.ofNat .i64 (a0O s)).val ≤ k.val := hkg
       clear h
       have hk : k.val.toNat = r.length := by omega
       rw [hk] at hD
       have heq := hD.eq
       rw [List.take_of_length_le (l := s) (by omega), List.take_length, hrl, Nat.pow_succ] at heq
       have hR : bv s = 2 * bv r + bv0 := by
        rcases Nat.lt_or_ge (I.nat ov) 1 with h1 | h1
        ·
         have : I.nat ov = 0 := by omega
         rw [this, Nat.mul_zero, Nat.add_zero] at heq; exact heq
        ·
         exfalso
         have : I.nat ov = 1 := by have := hD.o1; omega
         rw [this, Nat.mul_one] at heq
         omega
       have hsd := hD.dig
       have hsl2 : s.length ≤ 1073741824 := by omega
       have hRb : bv s < 65536 ^ (b2.length + 1) := by have := d9L hsd; rw [hsl, hrl] at this; exact this
       refine Wp.done ?_
       refine Wp.iter (fun x => x.1.2.1 = a2 ∧ x.1.2.2.1 = b2 ∧ x.1.2.2.2.1 = i2 ∧ x.1.2.2.2.2.1 = bit2 ∧ x.2.1 = s ∧ x.2.2.1 = q2 ∧ 0 ≤ x.1.1.val ∧ x.1.1.val ≤ (s.length : Int) ∧ bv (s.take x.1.1.val.toNat) = bv s) (fun x => x.1.1.val.toNat) ?_ ?_ ?_
       ·
        rintro ⟨⟨j, a3, b3, i3, bit3, ⟨⟩⟩, s3, q3, ⟨⟩⟩ ⟨k0, k1, k2, k3, k4, k5, hj0, hj1, hbt⟩
        simp only at k0 k1 k2 k3 k4 k5 hj0 hj1 hbt
        subst k0 k1 k2 k3 k4 k5
        refine Wp.brn (fun h => ?_) (fun h => ?_)
        ·
         have hjp := iff_ltb.1 h
         have hjp : (I.of .i64 0).val < j.val := hjp
         clear h
         obtain ⟨sj, bj, z1, z2⟩ := c2H (l := s3) (j := j) hsd hjp hj1 hsl2 hbt
         refine Wp.brnT bj (Wp.brn (fun h2 => ?_) (fun h2 => ?_))
         ·
          refine Wp.again ⟨rfl, rfl, rfl, rfl, rfl, rfl, ?_, ?_, z1 h2⟩ ?_
          ·
           show 0 ≤ (I.sub j (I.of .i64 1)).val; omega
          ·
           show (I.sub j (I.of .i64 1)).val ≤ _; omega
          ·
           show (I.sub j (I.of .i64 1)).val.toNat < j.val.toNat
           omega
         ·
          have hB := z2 h2
          clear z1 z2 h2 bj sj
          refine Wp.done (Wp.brnT (b6W hj0 hj1) ?_)
          have hal : a3.length ≤ 1000000 := hal
          have hbl : b3.length ≤ 900000 := hbl
          have hnlt : n < 65536 ^ b3.length := hnlt
          have hi1 : i3.val < (a3.length : Int) := hi1
          have hrl : r.length = b3.length + 1 := hrl
          have hsl : s3.length = r.length := hsl
          have hcl : (a6E s3 0 (I.nat j)).length ≤ 1000000 := by rw [c2O, List.length_take]; omega
          refine Wp.optF (c7G hB hb hcl (show b3.length ≤ 1000000 by omega)) ?_
          by_cases hcmp : bv s3 < n
          ·
           refine Wp.brnF (by show I.leb (I.of .i64 0) (c1F (bv s3) n) = false; unfold c1F; rw [if_pos hcmp]; rfl) ?_
           have st := b8J (e := 0) (q' := q3) (r' := s3) hM (by omega) (by rw [hbe]; omega) hsd hcmp hM.ql hM.qd hM.zero (by omega) rfl
           refine Wp.again ⟨rfl, rfl, rfl, ?_, ?_, ?_, ?_⟩ hmb
           ·
            show -1 ≤ (I.sub bit3 (I.of .i64 1)).val; omega
           ·
            show (I.sub bit3 (I.of .i64 1)).val ≤ 15; omega
           ·
            show s3.length = _; omega
           ·
            show DivMid a3 q3 s3 n i3.val.toNat ((I.sub bit3 (I.of .i64 1)).val + 1).toNat
            rw [esb]; exact st
          ·
           refine Wp.brnT (by show I.leb (I.of .i64 0) (c1F (bv s3) n) = true; unfold c1F; rw [if_neg hcmp]; split <;> rfl) ?_
           have hcge : n ≤ bv s3 := by omega
           clear hB hbt hj0 hj1 hcl
           refine Wp.iter (fun x => x.1.2.1 = a3 ∧ x.1.2.2.1 = b3 ∧ x.1.2.2.2.1 = i3 ∧ x.1.2.2.2.2.1 = bit3 ∧ x.2.1 = s3 ∧ x.2.2.1 = q3 ∧ 0 ≤ x.1.1.val ∧ x.1.1.val ≤ (s3.length : Int) ∧ bv (s3.take x.1.1.val.toNat) = bv s3) (fun x => x.1.1.val.toNat) ?_ ?_ ?_
           ·
            rintro ⟨⟨j, a3, b3, i3, bit3, ⟨⟩⟩, s3, q3, ⟨⟩⟩ ⟨k0, k1, k2, k3, k4, k5, hj0, hj1, hbt⟩
            simp only at k0 k1 k2 k3 k4 k5 hj0 hj1 hbt
            subst k0 k1 k2 k3 k4 k5
            refine Wp.brn (fun h => ?_) (fun h => ?_)
            ·
             have hjp := iff_ltb.1 h
             have hjp : (I.of .i64 0).val < j.val := hjp
             clear h
             obtain ⟨sj, bj, z1, z2⟩ := c2H (l := s3) (j := j) hsd hjp hj1 hsl2 hbt
             refine Wp.brnT bj (Wp.brn (fun h2 => ?_) (fun h2 => ?_))
             ·
              refine Wp.again ⟨rfl, rfl, rfl, rfl, rfl, rfl, ?_, ?_, z1 h2⟩ ?_
              ·
               show 0 ≤ (I.sub j (I.of .i64 1)).val; omega
              ·
               show (I.sub j (I.of .i64 1)).val ≤ _; omega
              ·
               show (I.sub j (I.of .i64 1)).val.toNat < j.val.toNat
               omega
             ·
              have hB := z2 h2
              clear z1 z2 h2 bj sj
              refine Wp.done (Wp.brnT (b6W hj0 hj1) ?_)
              have hal : a3.length ≤ 1000000 := hal
              have hbl : b3.length ≤ 900000 := hbl
              have hnlt : n < 65536 ^ b3.length := hnlt
              have hi1 : i3.val < (a3.length : Int) := hi1
              have hrl : r.length = b3.length + 1 := hrl
              have hsl : s3.length = r.length := hsl
              have hcl : (a6E s3 0 (I.nat j)).length ≤ 1000000 := by rw [c2O, List.length_take]; omega
              obtain ⟨d, hsub, hdB⟩ := c2T hB hb hcge hcl
              refine Wp.optF hsub ?_
              have hdlen : d.length ≤ b3.length + 1 := hdB.len.2 (by omega)
              have hold : (I.ofNat .i64 (a0O d)).val = d.length := a2S (by show d.length < _; omega)
              refine Wp.iter (fun x => x.1.1 = a3 ∧ x.1.2.1 = b3 ∧ x.1.2.2.1 = i3 ∧ x.1.2.2.2.1 = bit3 ∧ x.1.2.2.2.2.1 = d ∧ x.2.1 = q3 ∧ x.2.2.1.length = b3.length + 1 ∧ b2S x.2.2.1 ∧ 0 ≤ x.1.2.2.2.2.2.1.val ∧ x.1.2.2.2.2.2.1.val ≤ (b3.length + 1 : Int) ∧ bv (x.2.2.1.take x.1.2.2.2.2.2.1.val.toNat) = bv (d.take x.1.2.2.2.2.2.1.val.toNat)) (fun x => ((b3.length + 1 : Int) - x.1.2.2.2.2.2.1.val).toNat) ?_ ?_ ?_
              ·
               rintro ⟨⟨a4, b4, i4, bit4, d4, k4, ⟨⟩⟩, q4, r4, ⟨⟩⟩ ⟨f1, f2, f3, f4, f5, f6, hl4, hd4, hk40, hk41, hbk⟩
               simp only at f1 f2 f3 f4 f5 f6 hl4 hd4 hk40 hk41 hbk
               subst f1 f2 f3 f4 f5 f6
               have hal : a4.length ≤ 1000000 := hal
               have hbl : b4.length ≤ 900000 := hbl
               have hi1 : i4.val < (a4.length : Int) := hi1
               have hl4 : r4.length = b4.length + 1 := hl4
               have hdlen : d4.length ≤ b4.length + 1 := hdlen
               have hold : (I.ofNat .i64 (a0O d4)).val = d4.length := hold
               have hol4 : (I.ofNat .i64 (a0O r4)).val = r4.length := a2S (by show r4.length < _; omega)
               refine Wp.brn (fun h => ?_) (fun h => ?_)
               ·
                have hkl := iff_ltb.1 h
                have hkl : k4.val < (I.ofNat .i64 (a0O r4)).val := hkl
                clear h
                have sk : (I.add k4 (I.of .i64 1)).val = k4.val + 1 := by rw [a3D (by omega)]; omega
                have st := c0Y (s := r4) (d := d4) (k := k4.val.toNat) (by omega) hbk hd4 hdB.dig
                have hm4 : ((b4.length + 1 : Int) - (I.add k4 (I.of .i64 1)).val).toNat < ((b4.length + 1 : Int) - k4.val).toNat := by omega
                refine Wp.brnT (iff_inB.2 ⟨hk40, by show k4.val < ((r4.length : Nat) : Int); omega⟩) ?_
                refine Wp.brn (fun h => ?_) (fun h => ?_)
                ·
                 have hkd := iff_ltb.1 h
                 have hkd : k4.val < (I.ofNat .i64 (a0O d4)).val := hkd
                 clear h
                 refine Wp.brnT (iff_inB.2 ⟨hk40, by show k4.val < ((d4.length : Nat) : Int); omega⟩) ?_
                 refine Wp.brnT (iff_inB.2 ⟨hk40, by show k4.val < (((setAt r4 (I.nat k4) (I.of .i64 0)).length : Nat) : Int); rw [a2J, List.length_set]; omega⟩) ?_
                 have e : setAt (setAt r4 (I.nat k4) (I.of .i64 0)) (I.nat k4) (rd0 d4 k4.val.toNat) = r4.set k4.val.toNat (rd0 d4 k4.val.toNat) := by
                  rw [a2J, a2J]
                  show (r4.set k4.val.toNat _).set k4.val.toNat _ = _
                  rw [List.set_set]
                 refine Wp.again ⟨rfl, rfl, rfl, rfl, rfl, rfl, ?_, ?_, ?_, ?_, ?_⟩ hm4
                 ·
                  show (setAt (setAt r4 (I.nat k4) (I.of .i64 0)) (I.nat k4) (rd0 d4 k4.val.toNat)).length = _
                  rw [e, List.length_set]; exact hl4
                 ·
                  show b2S (setAt (setAt r4 (I.nat k4) (I.of .i64 0)) (I.nat k4) (rd0 d4 k4.val.toNat))
                  rw [e]; exact st.2
                 ·
                  show 0 ≤ (I.add k4 (I.of .i64 1)).val; omega
                 ·
                  show (I.add k4 (I.of .i64 1)).val ≤ _; omega
                 ·
                  show bv ((setAt (setAt r4 (I.nat k4) (I.of .i64 0)) (I.nat k4) (rd0 d4 k4.val.toNat)).take (I.add k4 (I.of .i64 1)).val.toNat) = bv (d4.take (I.add k4 (I.of .i64 1)).val.toNat)
                  rw [e, show (I.add k4 (I.of .i64 1)).val.toNat = k4.val.toNat + 1 by omega]
                  exact st.1
                ·
                 have hkd := niff_ltb.1 h
                 have hkd : (I.ofNat .i64 (a0O d4)).val ≤ k4.val := hkd
                 clear h
                 have hz : rd0 d4 k4.val.toNat = I.of .i64 0 := b1Y _ _ _ (by omega)
                 rw [hz] at st
                 have e : setAt r4 (I.nat k4) (I.of .i64 0) = r4.set k4.val.toNat (I.of .i64 0) := a2J _ _ _
                 refine Wp.again ⟨rfl, rfl, rfl, rfl, rfl, rfl, ?_, ?_, ?_, ?_, ?_⟩ hm4
                 ·
                  show (setAt r4 (I.nat k4) (I.of .i64 0)).length = _
                  rw [e, List.length_set]; exact hl4
                 ·
                  show b2S (setAt r4 (I.nat k4) (I.of .i64 0))
                  rw [e]; exact st.2
                 ·
                  show 0 ≤ (I.add k4 (I.of .i64 1)).val; omega
                 ·
                  show (I.add k4 (I.of .i64 1)).val ≤ _; omega
                 ·
                  show bv ((setAt r4 (I.nat k4) (I.of .i64 0)).take (I.add k4 (I.of .i64 1)).val.toNat) = bv (d4.take (I.add k4 (I.of .i64 1)).val.toNat)
                  rw [e, show (I.add k4 (I.of .i64 1)).val.toNat = k4.val.toNat + 1 by omega]
                  exact st.1
               ·
                have hkg := niff_ltb.1 h
                have hkg : (I.ofNat .i64 (a0O r4)).val ≤ k4.val := hkg
                clear h
                have hk : k4.val.toNat = b4.length + 1 := by omega
                rw [hk, List.take_of_length_le (by omega), List.take_of_length_le hdlen, hdB.val] at hbk
                have hqi := (a9W hM.qd i4.val.toNat)
                have hqn := hqi.nat
                have hq0 := hqi.1
                have hlow := hM.low
                have hqlen := hM.ql
                have hsb := c9U bit4 (by omega) hb15
                have hpw : 2 ^ bit4.val.toNat ≤ 2 ^ 15 := Nat.pow_le_pow_right (by decide) (by omega)
                have hqb : (rd0 q4 i4.val.toNat).nat + 2 ^ bit4.val.toNat < 65536 := by
                 have e1 : 65536 = 2 ^ (bit4.val.toNat + 1) * 2 ^ (15 - bit4.val.toNat) := by rw [← Nat.pow_add, show bit4.val.toNat + 1 + (15 - bit4.val.toNat) = 16 by omega]
                 have e2 := Nat.div_add_mod (rd0 q4 i4.val.toNat).nat (2 ^ (bit4.val.toNat + 1))
                 rw [hlow, Nat.add_zero] at e2
                 have e3 : (rd0 q4 i4.val.toNat).nat / 2 ^ (bit4.val.toNat + 1) + 1 ≤ 2 ^ (15 - bit4.val.toNat) := by
                  rcases Nat.lt_or_ge ((rd0 q4 i4.val.toNat).nat / 2 ^ (bit4.val.toNat + 1)) (2 ^ (15 - bit4.val.toNat)) with h1 | h1
                  ·
                   exact h1
                  ·
                   exfalso
                   have := Nat.mul_le_mul_left (2 ^ (bit4.val.toNat + 1)) h1
                   omega
                 have e4 := Nat.mul_le_mul_left (2 ^ (bit4.val.toNat + 1)) e3
                 rw [Nat.mul_add, Nat.mul_one, ← e1, e2, Nat.pow_succ] at e4
                 have : 0 < 2 ^ bit4.val.toNat := Nat.pow_pos (by decide)
                 omega
                have hv : (I.add (rd0 q4 i4.val.toNat) (I.shl (I.of .i64 1) (I.conv .u64 bit4))).val = (rd0 q4 i4.val.toNat).val + ((2 ^ bit4.val.toNat : Nat) : Int) := by rw [a3D (by rw [hsb]; omega), hsb]
                generalize hV : I.add (rd0 q4 i4.val.toNat) (I.shl (I.of .i64 1) (I.conv .u64 bit4)) = v at hv
                have hvn : v.nat = (rd0 q4 i4.val.toNat).nat + 2 ^ bit4.val.toNat := by unfold I.nat at hqn ⊢; omega
                have hvd : DigOk v := ⟨by omega, by omega⟩
                have bi : inB i4 (a0O q4) = true := iff_inB.2 ⟨by omega, by show i4.val < ((q4.length : Nat) : Int); omega⟩
                have st := b8J (e := 1) (q' := q4.set i4.val.toNat v) (r' := r4) hM (by omega) (by rw [hbk, hbe]; omega) hd4 (by omega) (by simpa using hqlen) (b2I hM.qd _ hvd) (fun t ht => by rw [b3X _ _ _ _ (by omega)]; exact hM.zero t ht) (by rw [b5V _ _ _ (by omega), hvn, Nat.one_mul]) (a9P _ _ _)
                refine Wp.done (Wp.brnT bi (Wp.brnT (b6T _) (Wp.brnT bi ?_)))
                refine Wp.again ⟨rfl, rfl, rfl, ?_, ?_, hl4, ?_⟩ hmb
                ·
                 show -1 ≤ (I.sub bit4 (I.of .i64 1)).val; omega
                ·
                 show (I.sub bit4 (I.of .i64 1)).val ≤ 15; omega
                ·
                 show DivMid a4 (setAt q4 (I.nat i4) (I.add (rd0 q4 i4.val.toNat) (I.shl (I.of .i64 1) (I.conv .u64 bit4)))) r4 n i4.val.toNat ((I.sub bit4 (I.of .i64 1)).val + 1).toNat
                 rw [hV, a2J, esb]
                 exact st
              ·
               exact ⟨rfl, rfl, rfl, rfl, rfl, rfl, by show s3.length = _; omega, hsd, by show 0 ≤ (I.of .i64 0).val; decide, by show (I.of .i64 0).val ≤ _; omega, rfl⟩
              ·
               exact b1S _ (by show ((b3.length + 1 : Int) - (I.of .i64 0).val).toNat < _; omega)
            ·
             have hjz := niff_ltb.1 h
             have hjz : j.val ≤ (I.of .i64 0).val := hjz
             clear h
             have hB := b7Z (l := s3) (j := j) hj0 (by omega) hbt
             refine Wp.done (Wp.brnT (b6W hj0 hj1) ?_)
             have hal : a3.length ≤ 1000000 := hal
             have hbl : b3.length ≤ 900000 := hbl
             have hnlt : n < 65536 ^ b3.length := hnlt
             have hi1 : i3.val < (a3.length : Int) := hi1
             have hrl : r.length = b3.length + 1 := hrl
             have hsl : s3.length = r.length := hsl
             have hcl : (a6E s3 0 (I.nat j)).length ≤ 1000000 := by rw [c2O, List.length_take]; omega
             obtain ⟨d, hsub, hdB⟩ := c2T hB hb hcge hcl
             refine Wp.optF hsub ?_
             have hdlen : d.length ≤ b3.length + 1 := hdB.len.2 (by omega)
             have hold : (I.ofNat .i64 (a0O d)).val = d.length := a2S (by show d.length < _; omega)
             refine Wp.iter (fun x => x.1.1 = a3 ∧ x.1.2.1 = b3 ∧ x.1.2.2.1 = i3 ∧ x.1.2.2.2.1 = bit3 ∧ x.1.2.2.2.2.1 = d ∧ x.2.1 = q3 ∧ x.2.2.1.length = b3.length + 1 ∧ b2S x.2.2.1 ∧ 0 ≤ x.1.2.2.2.2.2.1.val ∧ x.1.2.2.2.2.2.1.val ≤ (b3.length + 1 : Int) ∧ bv (x.2.2.1.take x.1.2.2.2.2.2.1.val.toNat) = bv (d.take x.1.2.2.2.2.2.1.val.toNat)) (fun x => ((b3.length + 1 : Int) - x.1.2.2.2.2.2.1.val).toNat) ?_ ?_ ?_
             ·
              rintro ⟨⟨a4, b4, i4, bit4, d4, k4, ⟨⟩⟩, q4, r4, ⟨⟩⟩ ⟨f1, f2, f3, f4, f5, f6, hl4, hd4, hk40, hk41, hbk⟩
              simp only at f1 f2 f3 f4 f5 f6 hl4 hd4 hk40 hk41 hbk
              subst f1 f2 f3 f4 f5 f6
              have hal : a4.length ≤ 1000000 := hal
              have hbl : b4.length ≤ 900000 := hbl
              have hi1 : i4.val < (a4.length : Int) := hi1
              have hl4 : r4.length = b4.length + 1 := hl4
              have hdlen : d4.length ≤ b4.length + 1 := hdlen
              have hold : (I.ofNat .i64 (a0O d4)).val = d4.length := hold
              have hol4 : (I.ofNat .i64 (a0O r4)).val = r4.length := a2S (by show r4.length < _; omega)
              refine Wp.brn (fun h => ?_) (fun h => ?_)
              ·
               have hkl := iff_ltb.1 h
               have hkl : k4.val < (I.ofNat .i64 (a0O r4)).val := hkl
               clear h
               have sk : (I.add k4 (I.of .i64 1)).val = k4.val + 1 := by rw [a3D (by omega)]; omega
               have st := c0Y (s := r4) (d := d4) (k := k4.val.toNat) (by omega) hbk hd4 hdB.dig
               have hm4 : ((b4.length + 1 : Int) - (I.add k4 (I.of .i64 1)).val).toNat < ((b4.length + 1 : Int) - k4.val).toNat := by omega
               refine Wp.brnT (iff_inB.2 ⟨hk40, by show k4.val < ((r4.length : Nat) : Int); omega⟩) ?_
               refine Wp.brn (fun h => ?_) (fun h => ?_)
               ·
                have hkd := iff_ltb.1 h
                have hkd : k4.val < (I.ofNat .i64 (a0O d4)).val := hkd
                clear h
                refine Wp.brnT (iff_inB.2 ⟨hk40, by show k4.val < ((d4.length : Nat) : Int); omega⟩) ?_
                refine Wp.brnT (iff_inB.2 ⟨hk40, by show k4.val < (((setAt r4 (I.nat k4) (I.of .i64 0)).length : Nat) : Int); rw [a2J, List.length_set]; omega⟩) ?_
                have e : setAt (setAt r4 (I.nat k4) (I.of .i64 0)) (I.nat k4) (rd0 d4 k4.val.toNat) = r4.set k4.val.toNat (rd0 d4 k4.val.toNat) := by
                 rw [a2J, a2J]
                 show (r4.set k4.val.toNat _).set k4.val.toNat _ = _
                 rw [List.set_set]
                refine Wp.again ⟨rfl, rfl, rfl, rfl, rfl, rfl, ?_, ?_, ?_, ?_, ?_⟩ hm4
                ·
                 show (setAt (setAt r4 (I.nat k4) (I.of .i64 0)) (I.nat k4) (rd0 d4 k4.val.toNat)).length = _
                 rw [e, List.length_set]; exact hl4
                ·
                 show b2S (setAt (setAt r4 (I.nat k4) (I.of .i64 0)) (I.nat k4) (rd0 d4 k4.val.toNat))
                 rw [e]; exact st.2
                ·
                 show 0 ≤ (I.add k4 (I.of .i64 1)).val; omega
                ·
                 show (I.add k4 (I.of .i64 1)).val ≤ _; omega
                ·
                 show bv ((setAt (setAt r4 (I.nat k4) (I.of .i64 0)) (I.nat k4) (rd0 d4 k4.val.toNat)).take (I.add k4 (I.of .i64 1)).val.toNat) = bv (d4.take (I.add k4 (I.of .i64 1)).val.toNat)
                 rw [e, show (I.add k4 (I.of .i64 1)).val.toNat = k4.val.toNat + 1 by omega]
                 exact st.1
               ·
                have hkd := niff_ltb.1 h
                have hkd : (I.ofNat .i64 (a0O d4)).val ≤ k4.val := hkd
                clear h
                have hz : rd0 d4 k4.val.toNat = I.of .i64 0 := b1Y _ _ _ (by omega)
                rw [hz] at st
                have e : setAt r4 (I.nat k4) (I.of .i64 0) = r4.set k4.val.toNat (I.of .i64 0) := a2J _ _ _
                refine Wp.again ⟨rfl, rfl, rfl, rfl, rfl, rfl, ?_, ?_, ?_, ?_, ?_⟩ hm4
                ·
                 show (setAt r4 (I.nat k4) (I.of .i64 0)).length = _
                 rw [e, List.length_set]; exact hl4
                ·
                 show b2S (setAt r4 (I.nat k4) (I.of .i64 0))
                 rw [e]; exact st.2
                ·
                 show 0 ≤ (I.add k4 (I.of .i64 1)).val; omega
                ·
                 show (I.add k4 (I.of .i64 1)).val ≤ _; omega
                ·
                 show bv ((setAt r4 (I.nat k4) (I.of .i64 0)).take (I.add k4 (I.of .i64 1)).val.toNat) = bv (d4.take (I.add k4 (I.of .i64 1)).val.toNat)
                 rw [e, show (I.add k4 (I.of .i64 1)).val.toNat = k4.val.toNat + 1 by omega]
                 exact st.1
              ·
               have hkg := niff_ltb.1 h
               have hkg : (I.ofNat .i64 (a0O r4)).val ≤ k4.val := hkg
               clear h
               have hk : k4.val.toNat = b4.length + 1 := by omega
               rw [hk, List.take_of_length_le (by omega), List.take_of_length_le hdlen, hdB.val] at hbk
               have hqi := (a9W hM.qd i4.val.toNat)
               have hqn := hqi.nat
               have hq0 := hqi.1
               have hlow := hM.low
               have hqlen := hM.ql
               have hsb := c9U bit4 (by omega) hb15
               have hpw : 2 ^ bit4.val.toNat ≤ 2 ^ 15 := Nat.pow_le_pow_right (by decide) (by omega)
               have hqb : (rd0 q4 i4.val.toNat).nat + 2 ^ bit4.val.toNat < 65536 := by
                have e1 : 65536 = 2 ^ (bit4.val.toNat + 1) * 2 ^ (15 - bit4.val.toNat) := by rw [← Nat.pow_add, show bit4.val.toNat + 1 + (15 - bit4.val.toNat) = 16 by omega]
                have e2 := Nat.div_add_mod (rd0 q4 i4.val.toNat).nat (2 ^ (bit4.val.toNat + 1))
                rw [hlow, Nat.add_zero] at e2
                have e3 : (rd0 q4 i4.val.toNat).nat / 2 ^ (bit4.val.toNat + 1) + 1 ≤ 2 ^ (15 - bit4.val.toNat) := by
                 rcases Nat.lt_or_ge ((rd0 q4 i4.val.toNat).nat / 2 ^ (bit4.val.toNat + 1)) (2 ^ (15 - bit4.val.toNat)) with h1 | h1
                 ·
                  exact h1
                 ·
                  exfalso
                  have := Nat.mul_le_mul_left (2 ^ (bit4.val.toNat + 1)) h1
                  omega
                have e4 := Nat.mul_le_mul_left (2 ^ (bit4.val.toNat + 1)) e3
                rw [Nat.mul_add, Nat.mul_one, ← e1, e2, Nat.pow_succ] at e4
                have : 0 < 2 ^ bit4.val.toNat := Nat.pow_pos (by decide)
                omega
               have hv : (I.add (rd0 q4 i4.val.toNat) (I.shl (I.of .i64 1) (I.conv .u64 bit4))).val = (rd0 q4 i4.val.toNat).val + ((2 ^ bit4.val.toNat : Nat) : Int) := by rw [a3D (by rw [hsb]; omega), hsb]
               generalize hV : I.add (rd0 q4 i4.val.toNat) (I.shl (I.of .i64 1) (I.conv .u64 bit4)) = v at hv
               have hvn : v.nat = (rd0 q4 i4.val.toNat).nat + 2 ^ bit4.val.toNat := by unfold I.nat at hqn ⊢; omega
               have hvd : DigOk v := ⟨by omega, by omega⟩
               have bi : inB i4 (a0O q4) = true := iff_inB.2 ⟨by omega, by show i4.val < ((q4.length : Nat) : Int); omega⟩
               have st := b8J (e := 1) (q' := q4.set i4.val.toNat v) (r' := r4) hM (by omega) (by rw [hbk, hbe]; omega) hd4 (by omega) (by simpa using hqlen) (b2I hM.qd _ hvd) (fun t ht => by rw [b3X _ _ _ _ (by omega)]; exact hM.zero t ht) (by rw [b5V _ _ _ (by omega), hvn, Nat.one_mul]) (a9P _ _ _)
               refine Wp.done (Wp.brnT bi (Wp.brnT (b6T _) (Wp.brnT bi ?_)))
               refine Wp.again ⟨rfl, rfl, rfl, ?_, ?_, hl4, ?_⟩ hmb
               ·
                show -1 ≤ (I.sub bit4 (I.of .i64 1)).val; omega
               ·
                show (I.sub bit4 (I.of .i64 1)).val ≤ 15; omega
               ·
                show DivMid a4 (setAt q4 (I.nat i4) (I.add (rd0 q4 i4.val.toNat) (I.shl (I.of .i64 1) (I.conv .u64 bit4)))) r4 n i4.val.toNat ((I.sub bit4 (I.of .i64 1)).val + 1).toNat
                rw [hV, a2J, esb]
                exact st
             ·
              exact ⟨rfl, rfl, rfl, rfl, rfl, rfl, by show s3.length = _; omega, hsd, by show 0 ≤ (I.of .i64 0).val; decide, by show (I.of .i64 0).val ≤ _; omega, rfl⟩
             ·
              exact b1S _ (by show ((b3.length + 1 : Int) - (I.of .i64 0).val).toNat < _; omega)
           ·
            refine ⟨rfl, rfl, rfl, rfl, rfl, rfl, ?_, ?_, ?_⟩
            ·
             show 0 ≤ (I.ofNat .i64 (a0O s3)).val; omega
            ·
             show (I.ofNat .i64 (a0O s3)).val ≤ _; omega
            ·
             show bv (s3.take (I.ofNat .i64 (a0O s3)).val.toNat) = _
             rw [hols, Int.toNat_natCast, List.take_length]
           ·
            refine b1S _ ?_
            show (I.ofNat .i64 (a0O s3)).val.toNat < _
            omega
        ·
         have hjz := niff_ltb.1 h
         have hjz : j.val ≤ (I.of .i64 0).val := hjz
         clear h
         have hB := b7Z (l := s3) (j := j) hj0 (by omega) hbt
         refine Wp.done (Wp.brnT (b6W hj0 hj1) ?_)
         have hal : a3.length ≤ 1000000 := hal
         have hbl : b3.length ≤ 900000 := hbl
         have hnlt : n < 65536 ^ b3.length := hnlt
         have hi1 : i3.val < (a3.length : Int) := hi1
         have hrl : r.length = b3.length + 1 := hrl
         have hsl : s3.length = r.length := hsl
         have hcl : (a6E s3 0 (I.nat j)).length ≤ 1000000 := by rw [c2O, List.length_take]; omega
         refine Wp.optF (c7G hB hb hcl (show b3.length ≤ 1000000 by omega)) ?_
         by_cases hcmp : bv s3 < n
         ·
          refine Wp.brnF (by show I.leb (I.of .i64 0) (c1F (bv s3) n) = false; unfold c1F; rw [if_pos hcmp]; rfl) ?_
          have st := b8J (e := 0) (q' := q3) (r' := s3) hM (by omega) (by rw [hbe]; omega) hsd hcmp hM.ql hM.qd hM.zero (by omega) rfl
          refine Wp.again ⟨rfl, rfl, rfl, ?_, ?_, ?_, ?_⟩ hmb
          ·
           show -1 ≤ (I.sub bit3 (I.of .i64 1)).val; omega
          ·
           show (I.sub bit3 (I.of .i64 1)).val ≤ 15; omega
          ·
           show s3.length = _; omega
          ·
           show DivMid a3 q3 s3 n i3.val.toNat ((I.sub bit3 (I.of .i64 1)).val + 1).toNat
           rw [esb]; exact st
         ·
          refine Wp.brnT (by show I.leb (I.of .i64 0) (c1F (bv s3) n) = true; unfold c1F; rw [if_neg hcmp]; split <;> rfl) ?_
          have hcge : n ≤ bv s3 := by omega
          clear hB hbt hj0 hj1 hcl
          refine Wp.iter (fun x => x.1.2.1 = a3 ∧ x.1.2.2.1 = b3 ∧ x.1.2.2.2.1 = i3 ∧ x.1.2.2.2.2.1 = bit3 ∧ x.2.1 = s3 ∧ x.2.2.1 = q3 ∧ 0 ≤ x.1.1.val ∧ x.1.1.val ≤ (s3.length : Int) ∧ bv (s3.take x.1.1.val.toNat) = bv s3) (fun x => x.1.1.val.toNat) ?_ ?_ ?_
          ·
           rintro ⟨⟨j, a3, b3, i3, bit3, ⟨⟩⟩, s3, q3, ⟨⟩⟩ ⟨k0, k1, k2, k3, k4, k5, hj0, hj1, hbt⟩
           simp only at k0 k1 k2 k3 k4 k5 hj0 hj1 hbt
           subst k0 k1 k2 k3 k4 k5
           refine Wp.brn (fun h => ?_) (fun h => ?_)
           ·
            have hjp := iff_ltb.1 h
            have hjp : (I.of .i64 0).val < j.val := hjp
            clear h
            obtain ⟨sj, bj, z1, z2⟩ := c2H (l := s3) (j := j) hsd hjp hj1 hsl2 hbt
            refine Wp.brnT bj (Wp.brn (fun h2 => ?_) (fun h2 => ?_))
            ·
             refine Wp.again ⟨rfl, rfl, rfl, rfl, rfl, rfl, ?_, ?_, z1 h2⟩ ?_
             ·
              show 0 ≤ (I.sub j (I.of .i64 1)).val; omega
             ·
              show (I.sub j (I.of .i64 1)).val ≤ _; omega
             ·
              show (I.sub j (I.of .i64 1)).val.toNat < j.val.toNat
              omega
            ·
             have hB := z2 h2
             clear z1 z2 h2 bj sj
             refine Wp.done (Wp.brnT (b6W hj0 hj1) ?_)
             have hal : a3.length ≤ 1000000 := hal
             have hbl : b3.length ≤ 900000 := hbl
             have hnlt : n < 65536 ^ b3.length := hnlt
             have hi1 : i3.val < (a3.length : Int) := hi1
             have hrl : r.length = b3.length + 1 := hrl
             have hsl : s3.length = r.length := hsl
             have hcl : (a6E s3 0 (I.nat j)).length ≤ 1000000 := by rw [c2O, List.length_take]; omega
             obtain ⟨d, hsub, hdB⟩ := c2T hB hb hcge hcl
             refine Wp.optF hsub ?_
             have hdlen : d.length ≤ b3.length + 1 := hdB.len.2 (by omega)
             have hold : (I.ofNat .i64 (a0O d)).val = d.length := a2S (by show d.length < _; omega)
             refine Wp.iter (fun x => x.1.1 = a3 ∧ x.1.2.1 = b3 ∧ x.1.2.2.1 = i3 ∧ x.1.2.2.2.1 = bit3 ∧ x.1.2.2.2.2.1 = d ∧ x.2.1 = q3 ∧ x.2.2.1.length = b3.length + 1 ∧ b2S x.2.2.1 ∧ 0 ≤ x.1.2.2.2.2.2.1.val ∧ x.1.2.2.2.2.2.1.val ≤ (b3.length + 1 : Int) ∧ bv (x.2.2.1.take x.1.2.2.2.2.2.1.val.toNat) = bv (d.take x.1.2.2.2.2.2.1.val.toNat)) (fun x => ((b3.length + 1 : Int) - x.1.2.2.2.2.2.1.val).toNat) ?_ ?_ ?_
             ·
              rintro ⟨⟨a4, b4, i4, bit4, d4, k4, ⟨⟩⟩, q4, r4, ⟨⟩⟩ ⟨f1, f2, f3, f4, f5, f6, hl4, hd4, hk40, hk41, hbk⟩
              simp only at f1 f2 f3 f4 f5 f6 hl4 hd4 hk40 hk41 hbk
              subst f1 f2 f3 f4 f5 f6
              have hal : a4.length ≤ 1000000 := hal
              have hbl : b4.length ≤ 900000 := hbl
              have hi1 : i4.val < (a4.length : Int) := hi1
              have hl4 : r4.length = b4.length + 1 := hl4
              have hdlen : d4.length ≤ b4.length + 1 := hdlen
              have hold : (I.ofNat .i64 (a0O d4)).val = d4.length := hold
              have hol4 : (I.ofNat .i64 (a0O r4)).val = r4.length := a2S (by show r4.length < _; omega)
              refine Wp.brn (fun h => ?_) (fun h => ?_)
              ·
               have hkl := iff_ltb.1 h
               have hkl : k4.val < (I.ofNat .i64 (a0O r4)).val := hkl
               clear h
               have sk : (I.add k4 (I.of .i64 1)).val = k4.val + 1 := by rw [a3D (by omega)]; omega
               have st := c0Y (s := r4) (d := d4) (k := k4.val.toNat) (by omega) hbk hd4 hdB.dig
               have hm4 : ((b4.length + 1 : Int) - (I.add k4 (I.of .i64 1)).val).toNat < ((b4.length + 1 : Int) - k4.val).toNat := by omega
               refine Wp.brnT (iff_inB.2 ⟨hk40, by show k4.val < ((r4.length : Nat) : Int); omega⟩) ?_
               refine Wp.brn (fun h => ?_) (fun h => ?_)
               ·
                have hkd := iff_ltb.1 h
                have hkd : k4.val < (I.ofNat .i64 (a0O d4)).val := hkd
                clear h
                refine Wp.brnT (iff_inB.2 ⟨hk40, by show k4.val < ((d4.length : Nat) : Int); omega⟩) ?_
                refine Wp.brnT (iff_inB.2 ⟨hk40, by show k4.val < (((setAt r4 (I.nat k4) (I.of .i64 0)).length : Nat) : Int); rw [a2J, List.length_set]; omega⟩) ?_
                have e : setAt (setAt r4 (I.nat k4) (I.of .i64 0)) (I.nat k4) (rd0 d4 k4.val.toNat) = r4.set k4.val.toNat (rd0 d4 k4.val.toNat) := by
                 rw [a2J, a2J]
                 show (r4.set k4.val.toNat _).set k4.val.toNat _ = _
                 rw [List.set_set]
                refine Wp.again ⟨rfl, rfl, rfl, rfl, rfl, rfl, ?_, ?_, ?_, ?_, ?_⟩ hm4
                ·
                 show (setAt (setAt r4 (I.nat k4) (I.of .i64 0)) (I.nat k4) (rd0 d4 k4.val.toNat)).length = _
                 rw [e, List.length_set]; exact hl4
                ·
                 show b2S (setAt (setAt r4 (I.nat k4) (I.of .i64 0)) (I.nat k4) (rd0 d4 k4.val.toNat))
                 rw [e]; exact st.2
                ·
                 show 0 ≤ (I.add k4 (I.of .i64 1)).val; omega
                ·
                 show (I.add k4 (I.of .i64 1)).val ≤ _; omega
                ·
                 show bv ((setAt (setAt r4 (I.nat k4) (I.of .i64 0)) (I.nat k4) (rd0 d4 k4.val.toNat)).take (I.add k4 (I.of .i64 1)).val.toNat) = bv (d4.take (I.add k4 (I.of .i64 1)).val.toNat)
                 rw [e, show (I.add k4 (I.of .i64 1)).val.toNat = k4.val.toNat + 1 by omega]
                 exact st.1
               ·
                have hkd := niff_ltb.1 h
                have hkd : (I.ofNat .i64 (a0O d4)).val ≤ k4.val := hkd
                clear h
                have hz : rd0 d4 k4.val.toNat = I.of .i64 0 := b1Y _ _ _ (by omega)
                rw [hz] at st
                have e : setAt r4 (I.nat k4) (I.of .i64 0) = r4.set k4.val.toNat (I.of .i64 0) := a2J _ _ _
                refine Wp.again ⟨rfl, rfl, rfl, rfl, rfl, rfl, ?_, ?_, ?_, ?_, ?_⟩ hm4
                ·
                 show (setAt r4 (I.nat k4) (I.of .i64 0)).length = _
                 rw [e, List.length_set]; exact hl4
                ·
                 show b2S (setAt r4 (I.nat k4) (I.of .i64 0))
                 rw [e]; exact st.2
                ·
                 show 0 ≤ (I.add k4 (I.of .i64 1)).val; omega
                ·
                 show (I.add k4 (I.of .i64 1)).val ≤ _; omega
                ·
                 show bv ((setAt r4 (I.nat k4) (I.of .i64 0)).take (I.add k4 (I.of .i64 1)).val.toNat) = bv (d4.take (I.add k4 (I.of .i64 1)).val.toNat)
                 rw [e, show (I.add k4 (I.of .i64 1)).val.toNat = k4.val.toNat + 1 by omega]
                 exact st.1
              ·
               have hkg := niff_ltb.1 h
               have hkg : (I.ofNat .i64 (a0O r4)).val ≤ k4.val := hkg
               clear h
               have hk : k4.val.toNat = b4.length + 1 := by omega
               rw [hk, List.take_of_length_le (by omega), List.take_of_length_le hdlen, hdB.val] at hbk
               have hqi := (a9W hM.qd i4.val.toNat)
               have hqn := hqi.nat
               have hq0 := hqi.1
               have hlow := hM.low
               have hqlen := hM.ql
               have hsb := c9U bit4 (by omega) hb15
               have hpw : 2 ^ bit4.val.toNat ≤ 2 ^ 15 := Nat.pow_le_pow_right (by decide) (by omega)
               have hqb : (rd0 q4 i4.val.toNat).nat + 2 ^ bit4.val.toNat < 65536 := by
                have e1 : 65536 = 2 ^ (bit4.val.toNat + 1) * 2 ^ (15 - bit4.val.toNat) := by rw [← Nat.pow_add, show bit4.val.toNat + 1 + (15 - bit4.val.toNat) = 16 by omega]
                have e2 := Nat.div_add_mod (rd0 q4 i4.val.toNat).nat (2 ^ (bit4.val.toNat + 1))
                rw [hlow, Nat.add_zero] at e2
                have e3 : (rd0 q4 i4.val.toNat).nat / 2 ^ (bit4.val.toNat + 1) + 1 ≤ 2 ^ (15 - bit4.val.toNat) := by
                 rcases Nat.lt_or_ge ((rd0 q4 i4.val.toNat).nat / 2 ^ (bit4.val.toNat + 1)) (2 ^ (15 - bit4.val.toNat)) with h1 | h1
                 ·
                  exact h1
                 ·
                  exfalso
                  have := Nat.mul_le_mul_left (2 ^ (bit4.val.toNat + 1)) h1
                  omega
                have e4 := Nat.mul_le_mul_left (2 ^ (bit4.val.toNat + 1)) e3
                rw [Nat.mul_add, Nat.mul_one, ← e1, e2, Nat.pow_succ] at e4
                have : 0 < 2 ^ bit4.val.toNat := Nat.pow_pos (by decide)
                omega
               have hv : (I.add (rd0 q4 i4.val.toNat) (I.shl (I.of .i64 1) (I.conv .u64 bit4))).val = (rd0 q4 i4.val.toNat).val + ((2 ^ bit4.val.toNat : Nat) : Int) := by rw [a3D (by rw [hsb]; omega), hsb]
               generalize hV : I.add (rd0 q4 i4.val.toNat) (I.shl (I.of .i64 1) (I.conv .u64 bit4)) = v at hv
               have hvn : v.nat = (rd0 q4 i4.val.toNat).nat + 2 ^ bit4.val.toNat := by unfold I.nat at hqn ⊢; omega
               have hvd : DigOk v := ⟨by omega, by omega⟩
               have bi : inB i4 (a0O q4) = true := iff_inB.2 ⟨by omega, by show i4.val < ((q4.length : Nat) : Int); omega⟩
               have st := b8J (e := 1) (q' := q4.set i4.val.toNat v) (r' := r4) hM (by omega) (by rw [hbk, hbe]; omega) hd4 (by omega) (by simpa using hqlen) (b2I hM.qd _ hvd) (fun t ht => by rw [b3X _ _ _ _ (by omega)]; exact hM.zero t ht) (by rw [b5V _ _ _ (by omega), hvn, Nat.one_mul]) (a9P _ _ _)
               refine Wp.done (Wp.brnT bi (Wp.brnT (b6T _) (Wp.brnT bi ?_)))
               refine Wp.again ⟨rfl, rfl, rfl, ?_, ?_, hl4, ?_⟩ hmb
               ·
                show -1 ≤ (I.sub bit4 (I.of .i64 1)).val; omega
               ·
                show (I.sub bit4 (I.of .i64 1)).val ≤ 15; omega
               ·
                show DivMid a4 (setAt q4 (I.nat i4) (I.add (rd0 q4 i4.val.toNat) (I.shl (I.of .i64 1) (I.conv .u64 bit4)))) r4 n i4.val.toNat ((I.sub bit4 (I.of .i64 1)).val + 1).toNat
                rw [hV, a2J, esb]
                exact st
             ·
              exact ⟨rfl, rfl, rfl, rfl, rfl, rfl, by show s3.length = _; omega, hsd, by show 0 ≤ (I.of .i64 0).val; decide, by show (I.of .i64 0).val ≤ _; omega, rfl⟩
             ·
              exact b1S _ (by show ((b3.length + 1 : Int) - (I.of .i64 0).val).toNat < _; omega)
           ·
            have hjz := niff_ltb.1 h
            have hjz : j.val ≤ (I.of .i64 0).val := hjz
            clear h
            have hB := b7Z (l := s3) (j := j) hj0 (by omega) hbt
            refine Wp.done (Wp.brnT (b6W hj0 hj1) ?_)
            have hal : a3.length ≤ 1000000 := hal
            have hbl : b3.length ≤ 900000 := hbl
            have hnlt : n < 65536 ^ b3.length := hnlt
            have hi1 : i3.val < (a3.length : Int) := hi1
            have hrl : r.length = b3.length + 1 := hrl
            have hsl : s3.length = r.length := hsl
            have hcl : (a6E s3 0 (I.nat j)).length ≤ 1000000 := by rw [c2O, List.length_take]; omega
            obtain ⟨d, hsub, hdB⟩ := c2T hB hb hcge hcl
            refine Wp.optF hsub ?_
            have hdlen : d.length ≤ b3.length + 1 := hdB.len.2 (by omega)
            have hold : (I.ofNat .i64 (a0O d)).val = d.length := a2S (by show d.length < _; omega)
            refine Wp.iter (fun x => x.1.1 = a3 ∧ x.1.2.1 = b3 ∧ x.1.2.2.1 = i3 ∧ x.1.2.2.2.1 = bit3 ∧ x.1.2.2.2.2.1 = d ∧ x.2.1 = q3 ∧ x.2.2.1.length = b3.length + 1 ∧ b2S x.2.2.1 ∧ 0 ≤ x.1.2.2.2.2.2.1.val ∧ x.1.2.2.2.2.2.1.val ≤ (b3.length + 1 : Int) ∧ bv (x.2.2.1.take x.1.2.2.2.2.2.1.val.toNat) = bv (d.take x.1.2.2.2.2.2.1.val.toNat)) (fun x => ((b3.length + 1 : Int) - x.1.2.2.2.2.2.1.val).toNat) ?_ ?_ ?_
            ·
             rintro ⟨⟨a4, b4, i4, bit4, d4, k4, ⟨⟩⟩, q4, r4, ⟨⟩⟩ ⟨f1, f2, f3, f4, f5, f6, hl4, hd4, hk40, hk41, hbk⟩
             simp only at f1 f2 f3 f4 f5 f6 hl4 hd4 hk40 hk41 hbk
             subst f1 f2 f3 f4 f5 f6
             have hal : a4.length ≤ 1000000 := hal
             have hbl : b4.length ≤ 900000 := hbl
             have hi1 : i4.val < (a4.length : Int) := hi1
             have hl4 : r4.length = b4.length + 1 := hl4
             have hdlen : d4.length ≤ b4.length + 1 := hdlen
             have hold : (I.ofNat .i64 (a0O d4)).val = d4.length := hold
             have hol4 : (I.ofNat .i64 (a0O r4)).val = r4.length := a2S (by show r4.length < _; omega)
             refine Wp.brn (fun h => ?_) (fun h => ?_)
             ·
              have hkl := iff_ltb.1 h
              have hkl : k4.val < (I.ofNat .i64 (a0O r4)).val := hkl
              clear h
              have sk : (I.add k4 (I.of .i64 1)).val = k4.val + 1 := by rw [a3D (by omega)]; omega
              have st := c0Y (s := r4) (d := d4) (k := k4.val.toNat) (by omega) hbk hd4 hdB.dig
              have hm4 : ((b4.length + 1 : Int) - (I.add k4 (I.of .i64 1)).val).toNat < ((b4.length + 1 : Int) - k4.val).toNat := by omega
              refine Wp.brnT (iff_inB.2 ⟨hk40, by show k4.val < ((r4.length : Nat) : Int); omega⟩) ?_
              refine Wp.brn (fun h => ?_) (fun h => ?_)
              ·
               have hkd := iff_ltb.1 h
               have hkd : k4.val < (I.ofNat .i64 (a0O d4)).val := hkd
               clear h
               refine Wp.brnT (iff_inB.2 ⟨hk40, by show k4.val < ((d4.length : Nat) : Int); omega⟩) ?_
               refine Wp.brnT (iff_inB.2 ⟨hk40, by show k4.val < (((setAt r4 (I.nat k4) (I.of .i64 0)).length : Nat) : Int); rw [a2J, List.length_set]; omega⟩) ?_
               have e : setAt (setAt r4 (I.nat k4) (I.of .i64 0)) (I.nat k4) (rd0 d4 k4.val.toNat) = r4.set k4.val.toNat (rd0 d4 k4.val.toNat) := by
                rw [a2J, a2J]
                show (r4.set k4.val.toNat _).set k4.val.toNat _ = _
                rw [List.set_set]
               refine Wp.again ⟨rfl, rfl, rfl, rfl, rfl, rfl, ?_, ?_, ?_, ?_, ?_⟩ hm4
               ·
                show (setAt (setAt r4 (I.nat k4) (I.of .i64 0)) (I.nat k4) (rd0 d4 k4.val.toNat)).length = _
                rw [e, List.length_set]; exact hl4
               ·
                show b2S (setAt (setAt r4 (I.nat k4) (I.of .i64 0)) (I.nat k4) (rd0 d4 k4.val.toNat))
                rw [e]; exact st.2
               ·
                show 0 ≤ (I.add k4 (I.of .i64 1)).val; omega
               ·
                show (I.add k4 (I.of .i64 1)).val ≤ _; omega
               ·
                show bv ((setAt (setAt r4 (I.nat k4) (I.of .i64 0)) (I.nat k4) (rd0 d4 k4.val.toNat)).take (I.add k4 (I.of .i64 1)).val.toNat) = bv (d4.take (I.add k4 (I.of .i64 1)).val.toNat)
                rw [e, show (I.add k4 (I.of .i64 1)).val.toNat = k4.val.toNat + 1 by omega]
                exact st.1
              ·
               have hkd := niff_ltb.1 h
               have hkd : (I.ofNat .i64 (a0O d4)).val ≤ k4.val := hkd
               clear h
               have hz : rd0 d4 k4.val.toNat = I.of .i64 0 := b1Y _ _ _ (by omega)
               rw [hz] at st
               have e : setAt r4 (I.nat k4) (I.of .i64 0) = r4.set k4.val.toNat (I.of .i64 0) := a2J _ _ _
               refine Wp.again ⟨rfl, rfl, rfl, rfl, rfl, rfl, ?_, ?_, ?_, ?_, ?_⟩ hm4
               ·
                show (setAt r4 (I.nat k4) (I.of .i64 0)).length = _
                rw [e, List.length_set]; exact hl4
               ·
                show b2S (setAt r4 (I.nat k4) (I.of .i64 0))
                rw [e]; exact st.2
               ·
                show 0 ≤ (I.add k4 (I.of .i64 1)).val; omega
               ·
                show (I.add k4 (I.of .i64 1)).val ≤ _; omega
               ·
                show bv ((setAt r4 (I.nat k4) (I.of .i64 0)).take (I.add k4 (I.of .i64 1)).val.toNat) = bv (d4.take (I.add k4 (I.of .i64 1)).val.toNat)
                rw [e, show (I.add k4 (I.of .i64 1)).val.toNat = k4.val.toNat + 1 by omega]
                exact st.1
             ·
              have hkg := niff_ltb.1 h
              have hkg : (I.ofNat .i64 (a0O r4)).val ≤ k4.val := hkg
              clear h
              have hk : k4.val.toNat = b4.length + 1 := by omega
              rw [hk, List.take_of_length_le (by omega), List.take_of_length_le hdlen, hdB.val] at hbk
              have hqi := (a9W hM.qd i4.val.toNat)
              have hqn := hqi.nat
              have hq0 := hqi.1
              have hlow := hM.low
              have hqlen := hM.ql
              have hsb := c9U bit4 (by omega) hb15
              have hpw : 2 ^ bit4.val.toNat ≤ 2 ^ 15 := Nat.pow_le_pow_right (by decide) (by omega)
              have hqb : (rd0 q4 i4.val.toNat).nat + 2 ^ bit4.val.toNat < 65536 := by
               have e1 : 65536 = 2 ^ (bit4.val.toNat + 1) * 2 ^ (15 - bit4.val.toNat) := by rw [← Nat.pow_add, show bit4.val.toNat + 1 + (15 - bit4.val.toNat) = 16 by omega]
               have e2 := Nat.div_add_mod (rd0 q4 i4.val.toNat).nat (2 ^ (bit4.val.toNat + 1))
               rw [hlow, Nat.add_zero] at e2
               have e3 : (rd0 q4 i4.val.toNat).nat / 2 ^ (bit4.val.toNat + 1) + 1 ≤ 2 ^ (15 - bit4.val.toNat) := by
                rcases Nat.lt_or_ge ((rd0 q4 i4.val.toNat).nat / 2 ^ (bit4.val.toNat + 1)) (2 ^ (15 - bit4.val.toNat)) with h1 | h1
                ·
                 exact h1
                ·
                 exfalso
                 have := Nat.mul_le_mul_left (2 ^ (bit4.val.toNat + 1)) h1
                 omega
               have e4 := Nat.mul_le_mul_left (2 ^ (bit4.val.toNat + 1)) e3
               rw [Nat.mul_add, Nat.mul_one, ← e1, e2, Nat.pow_succ] at e4
               have : 0 < 2 ^ bit4.val.toNat := Nat.pow_pos (by decide)
               omega
              have hv : (I.add (rd0 q4 i4.val.toNat) (I.shl (I.of .i64 1) (I.conv .u64 bit4))).val = (rd0 q4 i4.val.toNat).val + ((2 ^ bit4.val.toNat : Nat) : Int) := by rw [a3D (by rw [hsb]; omega), hsb]
              generalize hV : I.add (rd0 q4 i4.val.toNat) (I.shl (I.of .i64 1) (I.conv .u64 bit4)) = v at hv
              have hvn : v.nat = (rd0 q4 i4.val.toNat).nat + 2 ^ bit4.val.toNat := by unfold I.nat at hqn ⊢; omega
              have hvd : DigOk v := ⟨by omega, by omega⟩
              have bi : inB i4 (a0O q4) = true := iff_inB.2 ⟨by omega, by show i4.val < ((q4.length : Nat) : Int); omega⟩
              have st := b8J (e := 1) (q' := q4.set i4.val.toNat v) (r' := r4) hM (by omega) (by rw [hbk, hbe]; omega) hd4 (by omega) (by simpa using hqlen) (b2I hM.qd _ hvd) (fun t ht => by rw [b3X _ _ _ _ (by omega)]; exact hM.zero t ht) (by rw [b5V _ _ _ (by omega), hvn, Nat.one_mul]) (a9P _ _ _)
              refine Wp.done (Wp.brnT bi (Wp.brnT (b6T _) (Wp.brnT bi ?_)))
              refine Wp.again ⟨rfl, rfl, rfl, ?_, ?_, hl4, ?_⟩ hmb
              ·
               show -1 ≤ (I.sub bit4 (I.of .i64 1)).val; omega
              ·
               show (I.sub bit4 (I.of .i64 1)).val ≤ 15; omega
              ·
               show DivMid a4 (setAt q4 (I.nat i4) (I.add (rd0 q4 i4.val.toNat) (I.shl (I.of .i64 1) (I.conv .u64 bit4)))) r4 n i4.val.toNat ((I.sub bit4 (I.of .i64 1)).val + 1).toNat
               rw [hV, a2J, esb]
               exact st
            ·
             exact ⟨rfl, rfl, rfl, rfl, rfl, rfl, by show s3.length = _; omega, hsd, by show 0 ≤ (I.of .i64 0).val; decide, by show (I.of .i64 0).val ≤ _; omega, rfl⟩
            ·
             exact b1S _ (by show ((b3.length + 1 : Int) - (I.of .i64 0).val).toNat < _; omega)
          ·
           refine ⟨rfl, rfl, rfl, rfl, rfl, rfl, ?_, ?_, ?_⟩
           ·
            show 0 ≤ (I.ofNat .i64 (a0O s3)).val; omega
           ·
            show (I.ofNat .i64 (a0O s3)).val ≤ _; omega
           ·
            show bv (s3.take (I.ofNat .i64 (a0O s3)).val.toNat) = _
            rw [hols, Int.toNat_natCast, List.take_length]
          ·
           refine b1S _ ?_
           show (I.ofNat .i64 (a0O s3)).val.toNat < _
           omega
       ·
        refine ⟨rfl, rfl, rfl, rfl, rfl, rfl, ?_, ?_, ?_⟩
        ·
         show 0 ≤ (I.ofNat .i64 (a0O s)).val; omega
        ·
         show (I.ofNat .i64 (a0O s)).val ≤ _; omega
        ·
         show bv (s.take (I.ofNat .i64 (a0O s)).val.toNat) = _
         rw [hols, Int.toNat_natCast, List.take_length]
       ·
        refine b1S _ ?_
        show (I.ofNat .i64 (a0O s)).val.toNat < _
        omega
     ·
      refine ⟨rfl, rfl, rfl, rfl, rfl, ?_, by show 0 ≤ (I.of .i64 0).val; decide, by show (I.of .i64 0).val ≤ (r.length : Int); omega, ?_⟩
      ·
       show 0 ≤ (I.and (I.shr (rd0 a1 i1.val.toNat) (I.conv .u64 bit)) (I.of .i64 1)).val
       rw [hbv]; omega
      ·
       show DblInv r bv0 (I.nat (I.and (I.shr (rd0 a1 i1.val.toNat) (I.conv .u64 bit)) (I.of .i64 1))) (I.of .i64 0).val.toNat r
       have e : I.nat (I.and (I.shr (rd0 a1 i1.val.toNat) (I.conv .u64 bit)) (I.of .i64 1)) = bv0 := by
        show (I.and (I.shr (rd0 a1 i1.val.toNat) (I.conv .u64 bit)) (I.of .i64 1)).val.toNat = _
        rw [hbv, Int.toNat_natCast]
       rw [e]
       refine ⟨rfl, hM.rd, rfl, hbv1, ?_⟩
       have e0 : (I.of .i64 0).val.toNat = 0 := rfl
       rw [e0]
       simp [bv]
     ·
      exact b1S _ (by show ((r.length : Int) - (I.of .i64 0).val).toNat < _; omega)
    ·
     have hbz := niff_leb.1 h
     have hbz : bit.val < (I.of .i64 0).val := hbz
     clear h
     have e0 : (bit.val + 1).toNat = 0 := by omega
     rw [e0] at hM
     refine Wp.done (Wp.again ⟨rfl, rfl, ?_, ?_, hrl, ?_⟩ hmi)
     ·
      show -1 ≤ (I.sub i1 (I.of .i64 1)).val; omega
     ·
      show (I.sub i1 (I.of .i64 1)).val < _; omega
     ·
      show DivOut a1 q r n ((I.sub i1 (I.of .i64 1)).val + 1).toNat
      rw [show ((I.sub i1 (I.of .i64 1)).val + 1).toNat = i1.val.toNat by omega]
      exact mid_end hM
   ·
    have hz := niff_leb.1 h
    have hz : i.val < (I.of .i64 0).val := hz
    clear h
    have e0 : (i.val + 1).toNat = 0 := by omega
    rw [e0] at hI
    have heq := hI.eq
    have hlt := hI.lt
    have hqd := hI.qd
    have hrd := hI.rd
    have hql := hI.ql
    simp only [List.drop_zero] at heq
    rw [ha.val] at heq
    have hQ : bv q0 = m / n := by rw [heq, Nat.mul_comm, Nat.mul_add_div (by omega), Nat.div_eq_of_lt hlt, Nat.add_zero]
    have hR : bv r0 = m % n := by rw [heq, Nat.mul_comm, Nat.mul_add_mod, Nat.mod_eq_of_lt hlt]
    have holq : (I.ofNat .i64 (a0O q0)).val = q0.length := a2S (by show q0.length < _; omega)
    have holr0 : (I.ofNat .i64 (a0O r0)).val = r0.length := a2S (by show r0.length < _; omega)
    have hq2 : q0.length ≤ 1073741824 := by omega
    have hr2 : r0.length ≤ 1073741824 := by omega
    clear heq hI hrl hlt
    refine Wp.done ?_
    refine Wp.iter (fun x => x.2.1 = q0 ∧ x.2.2.1 = r0 ∧ 0 ≤ x.1.1.val ∧ x.1.1.val ≤ (q0.length : Int) ∧ bv (q0.take x.1.1.val.toNat) = bv q0) (fun x => x.1.1.val.toNat) ?_ ?_ ?_
    ·
     rintro ⟨⟨j, ⟨⟩⟩, q1, r1, ⟨⟩⟩ ⟨k0, k1, hj0, hj1, hbt⟩
     simp only at k0 k1 hj0 hj1 hbt
     subst k0 k1
     refine Wp.brn (fun h => ?_) (fun h => ?_)
     ·
      have hjp := iff_ltb.1 h
      have hjp : (I.of .i64 0).val < j.val := hjp
      clear h
      obtain ⟨sj, bj, z1, z2⟩ := c2H (l := q1) (j := j) hqd hjp hj1 hq2 hbt
      refine Wp.brnT bj (Wp.brn (fun h2 => ?_) (fun h2 => ?_))
      ·
       refine Wp.again ⟨rfl, rfl, ?_, ?_, z1 h2⟩ ?_
       ·
        show 0 ≤ (I.sub j (I.of .i64 1)).val; omega
       ·
        show (I.sub j (I.of .i64 1)).val ≤ _; omega
       ·
        show (I.sub j (I.of .i64 1)).val.toNat < j.val.toNat
        omega
      ·
       have hB := z2 h2
       clear z1 z2 h2 bj sj
       refine Wp.done (Wp.brnT (b6W hj0 hj1) ?_)
       have hQB := hB
       clear hB
       generalize a6E q1 0 (I.nat j) = ql2 at hQB
       clear hbt hj0 hj1
       refine Wp.iter (fun x => x.1.2.1 = ql2 ∧ x.2.1 = r1 ∧ 0 ≤ x.1.1.val ∧ x.1.1.val ≤ (r1.length : Int) ∧ bv (r1.take x.1.1.val.toNat) = bv r1) (fun x => x.1.1.val.toNat) ?_ ?_ ?_
       ·
        rintro ⟨⟨j, ql2, ⟨⟩⟩, r1, ⟨⟩⟩ ⟨k0, k1, hj0, hj1, hbt⟩
        simp only at k0 k1 hj0 hj1 hbt
        subst k0 k1
        refine Wp.brn (fun h => ?_) (fun h => ?_)
        ·
         have hjp := iff_ltb.1 h
         have hjp : (I.of .i64 0).val < j.val := hjp
         clear h
         obtain ⟨sj, bj, z1, z2⟩ := c2H (l := r1) (j := j) hrd hjp hj1 hr2 hbt
         refine Wp.brnT bj (Wp.brn (fun h2 => ?_) (fun h2 => ?_))
         ·
          refine Wp.again ⟨rfl, rfl, ?_, ?_, z1 h2⟩ ?_
          ·
           show 0 ≤ (I.sub j (I.of .i64 1)).val; omega
          ·
           show (I.sub j (I.of .i64 1)).val ≤ _; omega
          ·
           show (I.sub j (I.of .i64 1)).val.toNat < j.val.toNat
           omega
         ·
          have hB := z2 h2
          clear z1 z2 h2 bj sj
          refine Wp.done (Wp.brnT (b6W hj0 hj1) ?_)
          refine ⟨_, _, rfl, ?_, ?_⟩
          ·
           show IsB ql2 (m / n)
           rw [← hQ]; exact hQB
          ·
           show IsB (a6E r1 0 (I.nat j)) (m % n)
           rw [← hR]; exact hB
        ·
         have hjz := niff_ltb.1 h
         have hjz : j.val ≤ (I.of .i64 0).val := hjz
         clear h
         have hB := b7Z (l := r1) (j := j) hj0 (by omega) hbt
         refine Wp.done (Wp.brnT (b6W hj0 hj1) ?_)
         refine ⟨_, _, rfl, ?_, ?_⟩
         ·
          show IsB ql2 (m / n)
          rw [← hQ]; exact hQB
         ·
          show IsB (a6E r1 0 (I.nat j)) (m % n)
          rw [← hR]; exact hB
       ·
        refine ⟨rfl, rfl, ?_, ?_, ?_⟩
        ·
         show 0 ≤ (I.ofNat .i64 (a0O r1)).val; omega
        ·
         show (I.ofNat .i64 (a0O r1)).val ≤ _; omega
        ·
         show bv (r1.take (I.ofNat .i64 (a0O r1)).val.toNat) = _
         rw [holr0, Int.toNat_natCast, List.take_length]
       ·
        refine b1S _ ?_
        show (I.ofNat .i64 (a0O r1)).val.toNat < _
        omega
     ·
      have hjz := niff_ltb.1 h
      have hjz : j.val ≤ (I.of .i64 0).val := hjz
      clear h
      have hB := b7Z (l := q1) (j := j) hj0 (by omega) hbt
      refine Wp.done (Wp.brnT (b6W hj0 hj1) ?_)
      have hQB := hB
      clear hB
      generalize a6E q1 0 (I.nat j) = ql2 at hQB
      clear hbt hj0 hj1
      refine Wp.iter (fun x => x.1.2.1 = ql2 ∧ x.2.1 = r1 ∧ 0 ≤ x.1.1.val ∧ x.1.1.val ≤ (r1.length : Int) ∧ bv (r1.take x.1.1.val.toNat) = bv r1) (fun x => x.1.1.val.toNat) ?_ ?_ ?_
      ·
       rintro ⟨⟨j, ql2, ⟨⟩⟩, r1, ⟨⟩⟩ ⟨k0, k1, hj0, hj1, hbt⟩
       simp only at k0 k1 hj0 hj1 hbt
       subst k0 k1
       refine Wp.brn (fun h => ?_) (fun h => ?_)
       ·
        have hjp := iff_ltb.1 h
        have hjp : (I.of .i64 0).val < j.val := hjp
        clear h
        obtain ⟨sj, bj, z1, z2⟩ := c2H (l := r1) (j := j) hrd hjp hj1 hr2 hbt
        refine Wp.brnT bj (Wp.brn (fun h2 => ?_) (fun h2 => ?_))
        ·
         refine Wp.again ⟨rfl, rfl, ?_, ?_, z1 h2⟩ ?_
         ·
          show 0 ≤ (I.sub j (I.of .i64 1)).val; omega
         ·
          show (I.sub j (I.of .i64 1)).val ≤ _; omega
         ·
          show (I.sub j (I.of .i64 1)).val.toNat < j.val.toNat
          omega
        ·
         have hB := z2 h2
         clear z1 z2 h2 bj sj
         refine Wp.done (Wp.brnT (b6W hj0 hj1) ?_)
         refine ⟨_, _, rfl, ?_, ?_⟩
         ·
          show IsB ql2 (m / n)
          rw [← hQ]; exact hQB
         ·
          show IsB (a6E r1 0 (I.nat j)) (m % n)
          rw [← hR]; exact hB
       ·
        have hjz := niff_ltb.1 h
        have hjz : j.val ≤ (I.of .i64 0).val := hjz
        clear h
        have hB := b7Z (l := r1) (j := j) hj0 (by omega) hbt
        refine Wp.done (Wp.brnT (b6W hj0 hj1) ?_)
        refine ⟨_, _, rfl, ?_, ?_⟩
        ·
         show IsB ql2 (m / n)
         rw [← hQ]; exact hQB
        ·
         show IsB (a6E r1 0 (I.nat j)) (m % n)
         rw [← hR]; exact hB
      ·
       refine ⟨rfl, rfl, ?_, ?_, ?_⟩
       ·
        show 0 ≤ (I.ofNat .i64 (a0O r1)).val; omega
       ·
        show (I.ofNat .i64 (a0O r1)).val ≤ _; omega
       ·
        show bv (r1.take (I.ofNat .i64 (a0O r1)).val.toNat) = _
        rw [holr0, Int.toNat_natCast, List.take_length]
      ·
       refine b1S _ ?_
       show (I.ofNat .i64 (a0O r1)).val.toNat < _
       omega
    ·
     refine ⟨rfl, rfl, ?_, ?_, ?_⟩
     ·
      show 0 ≤ (I.ofNat .i64 (a0O q0)).val; omega
     ·
      show (I.ofNat .i64 (a0O q0)).val ≤ _; omega
     ·
      show bv (q0.take (I.ofNat .i64 (a0O q0)).val.toNat) = _
      rw [holq, Int.toNat_natCast, List.take_length]
    ·
     refine b1S _ ?_
     show (I.ofNat .i64 (a0O q0)).val.toNat < _
     omega
  ·
   have hsub1 : (I.sub (I.ofNat .i64 (a0O a)) (I.of .i64 1)).val = a.length - 1 := by rw [a8X (by omega)]; omega
   refine ⟨rfl, rfl, ?_, ?_, ?_, ?_⟩
   ·
    show -1 ≤ (I.sub (I.ofNat .i64 (a0O a)) (I.of .i64 1)).val; omega
   ·
    show (I.sub (I.ofNat .i64 (a0O a)) (I.of .i64 1)).val < _; omega
   ·
    show (b4L (I.nat (I.add (I.ofNat .i64 (a0O b)) (I.of .i64 1))) (I.of .i64 0)).length = _
    rw [a9J, hbn]
   ·
    show DivOut a (b4L (I.nat (I.ofNat .i64 (a0O a))) (I.of .i64 0)) (b4L (I.nat (I.add (I.ofNat .i64 (a0O b)) (I.of .i64 1))) (I.of .i64 0)) n ((I.sub (I.ofNat .i64 (a0O a)) (I.of .i64 1)).val + 1).toNat
    rw [hsub1, hn, show ((a.length : Int) - 1 + 1).toNat = a.length by omega]
    refine ⟨a9J _ _, b5P _, b5P _, by rw [c9N]; omega, fun s _ => c9O _ _, ?_⟩
    rw [List.drop_of_length_le (Nat.le_refl _), List.drop_of_length_le (by rw [a9J]; omega), c9N]
    simp [bv]
  ·
   have hsub1 : (I.sub (I.ofNat .i64 (a0O a)) (I.of .i64 1)).val = a.length - 1 := by rw [a8X (by omega)]; omega
   exact b1S _ (by show ((I.sub (I.ofNat .i64 (a0O a)) (I.of .i64 1)).val + 1).toNat < _; omega)
 exact key.out
end Sym

/- Signed numbers: the law of quotients. -/
namespace Sym
open Go
theorem d3T {s : SB} {z : Int} {l : List Dg} {d : Nat} (hs : IsSB s z) (hl : IsB l d) (hd : d ≠ 0) (hz : Bd z.natAbs) (hdl : l.length ≤ 900000) : ∃ r : SB, a3G ((s, l, ()), ()) = some ((r, ()), ()) ∧ IsSB r (z / (d : Int)) := by
 have key : Wp (fun o => ∃ r : SB, o = some ((r, ()), ()) ∧ IsSB r (z / (d : Int))) (a3G ((s, l, ()), ())) := by
  unfold a3G
  obtain ⟨q, r, hqr, hQ, hR⟩ : ∃ (q r : List Dg), a4S ((s.2.1, l, ()), ()) = some ((q, r, ()), ()) ∧ IsB q (z.natAbs / d) ∧ IsB r (z.natAbs % d) := d4E hs.abs hl hd (Bd.len hs.abs hz) hdl
  have hqb : Bd (z.natAbs / d) := Nat.lt_of_le_of_lt (Nat.div_le_self _ _) hz
  have hqb1 : z.natAbs / d + 1 < 65536 ^ 65 := by
   have h1 : z.natAbs / d < 65536 ^ 64 := hqb
   have h2 : 65536 ^ 64 < 65536 ^ 65 := by decide
   omega
  have hrb : Bd (z.natAbs % d) := Nat.lt_of_le_of_lt (Nat.mod_le _ _) hz
  have hql := Bd.len hQ hqb
  have hrl := Bd.len hR hrb
  have hol : (I.ofNat .i64 (a0O r)).val = r.length := a2S (by show r.length < _; omega)
  have c0 : (I.of .i64 0).val = 0 := rfl
  have hrp := e3N hR
  have hbit : I.ltb (I.of .i64 0) (I.ofNat .i64 (a0O r)) = decide (z.natAbs % d ≠ 0) := by
   unfold I.ltb
   rw [c0, hol]
   have : ((0 : Int) < (r.length : Int)) ↔ z.natAbs % d ≠ 0 := by omega
   simp only [this]
  refine Wp.optF hqr ?_
  refine Wp.jn (fun x => x.1.1 = q ∧ x.1.2.1 = (s.1 && decide (z.natAbs % d ≠ 0)) ∧ x.2.1.1 = s.1) ?_ ?_
  ·
   rintro ⟨⟨q', b, ⟨⟩⟩, ⟨n, l', ⟨⟩⟩, r', ⟨⟩⟩ ⟨e1, e2, e3⟩
   simp only at e1 e2 e3
   subst e1 e2
   have hneg := hs.neg
   by_cases hz0 : z < 0
   ·
    have hn : n = true := by rw [e3, hneg]; exact decide_eq_true hz0
    have hdiv : z / (d : Int) = if z.natAbs % d = 0 then -((z.natAbs / d : Nat) : Int) else -((z.natAbs / d + 1 : Nat) : Int) := by
     have h1 := e1B z.natAbs d (by omega)
     have h2 : -(z.natAbs : Int) = z := by omega
     rw [h2] at h1
     exact h1
    by_cases hm : z.natAbs % d = 0
    ·
     rw [if_pos hm] at hdiv
     refine Wp.brnF (by show (s.1 && decide (z.natAbs % d ≠ 0)) = false; simp [hm]) ?_
     obtain ⟨t, ht, hT⟩ := b3D n hQ hql
     refine Wp.optF ht ⟨t, rfl, ?_⟩
     rw [hdiv]
     subst hn
     exact hT
    ·
     rw [if_neg hm] at hdiv
     refine Wp.brnT (by show (s.1 && decide (z.natAbs % d ≠ 0)) = true; rw [hneg, decide_eq_true hz0]; simp [hm]) ?_
     obtain ⟨o, ho, hO⟩ := a7E (I.of .u64 1)
     refine Wp.optF ho ?_
     have h1 : (I.of .u64 1).nat = 1 := rfl
     rw [h1] at hO
     obtain ⟨q2, hq2, hQ2⟩ := b3I hQ hO hql (Bd.len hO (by unfold Bd; decide))
     refine Wp.optF hq2 ?_
     obtain ⟨t, ht, hT⟩ := b3D n hQ2 (len_small' hQ2 65 hqb1 (by decide))
     refine Wp.optF ht ⟨t, rfl, ?_⟩
     rw [hdiv]
     subst hn
     exact hT
   ·
    have hn : n = false := by rw [e3, hneg]; exact decide_eq_false hz0
    refine Wp.brnF (by show (s.1 && decide (z.natAbs % d ≠ 0)) = false; rw [hneg, decide_eq_false hz0]; rfl) ?_
    obtain ⟨t, ht, hT⟩ := b3D n hQ hql
    refine Wp.optF ht ⟨t, rfl, ?_⟩
    have h2 : z / (d : Int) = ((z.natAbs / d : Nat) : Int) := by
     rw [Int.natCast_ediv]
     congr 1
     omega
    rw [h2]
    subst hn
    exact hT
  ·
   intro j hj
   cases hs1 : s.1 with
   | false => exact Wp.brnF rfl (hj _ ⟨rfl, by rw [hs1]; rfl, rfl⟩)
   | true => exact Wp.brnT rfl (hj _ ⟨rfl, by rw [hs1]; exact hbit, rfl⟩)
 exact key.out
end Sym

/- Parameters: which are valid. -/
namespace Sym
open Go
abbrev Prm : Type := I .u64 × I .u64 × I .u64 × U × I .u64 × U × I .u64 × U × I .u64 × I .u64 × I .u64 × I .u64 × Unit
def g6X (p : Prm) : Nat → U
 | 1 => b1F p.1
 | 2 => b1F p.2.1
 | 3 => b1F p.2.2.1
 | 4 => p.2.2.2.1
 | 5 => b1F p.2.2.2.2.1
 | 6 => p.2.2.2.2.2.1
 | 7 => b1F p.2.2.2.2.2.2.1
 | 8 => p.2.2.2.2.2.2.2.1
 | 9 => b1F p.2.2.2.2.2.2.2.2.1
 | 10 => b1F p.2.2.2.2.2.2.2.2.2.1
 | 11 => b1F p.2.2.2.2.2.2.2.2.2.2.1
 | _ => b1F p.2.2.2.2.2.2.2.2.2.2.2.1
def loK (p : Prm) : Nat → I .u64
 | 1 => I.of .u64 1
 | 2 => I.of .u64 0
 | 3 => I.of .u64 1
 | 4 => I.of .u64 1
 | 5 => I.of .u64 1
 | 6 => I.of .u64 0
 | 7 => I.of .u64 0
 | 8 => I.of .u64 0
 | 9 => I.of .u64 1
 | 10 => I.of .u64 1
 | 11 => I.of .u64 0
 | _ => p.2.2.2.2.2.2.2.2.2.2.1
def hiK : Nat → I .u64
 | 1 => I.of .u64 1099511627776
 | 2 => I.of .u64 1048576
 | 3 => I.of .u64 1048576
 | 4 => I.of .u64 18446744073709551615
 | 5 => I.of .u64 1099511627776
 | 6 => I.of .u64 18446744073709551615
 | 7 => I.of .u64 10000
 | 8 => I.of .u64 18446744073709551615
 | 9 => I.of .u64 1099511627776
 | 10 => I.of .u64 1048576
 | 11 => I.of .u64 1048576
 | _ => I.of .u64 16777216
theorem f4R (p : Prm) (k : Nat) (h1 : 1 ≤ k) (h2 : k ≤ 12) : b5X ((p, I.of .i64 (k : Int), ()), ()) = some ((g6X p k, I.of .i64 0, ()), ()) := by
 match k, h1, h2 with
 | 1, _, _ => rfl
 | 2, _, _ => rfl
 | 3, _, _ => rfl
 | 4, _, _ => rfl
 | 5, _, _ => rfl
 | 6, _, _ => rfl
 | 7, _, _ => rfl
 | 8, _, _ => rfl
 | 9, _, _ => rfl
 | 10, _, _ => rfl
 | 11, _, _ => rfl
 | 12, _, _ => rfl
 | k + 13, _, h => omega
theorem e2F (p : Prm) (k : Nat) (h1 : 1 ≤ k) (h2 : k ≤ 12) : b1O ((p, I.of .i64 (k : Int), ()), ()) = some ((loK p k, hiK k, ()), ()) := by
 match k, h1, h2 with
 | 1, _, _ => rfl
 | 2, _, _ => rfl
 | 3, _, _ => rfl
 | 4, _, _ => rfl
 | 5, _, _ => rfl
 | 6, _, _ => rfl
 | 7, _, _ => rfl
 | 8, _, _ => rfl
 | 9, _, _ => rfl
 | 10, _, _ => rfl
 | 11, _, _ => rfl
 | 12, _, _ => rfl
 | k + 13, _, h => omega
def okK (p : Prm) (k : Nat) : Bool := decide ((loK p k).nat ≤ (g6X p k).val ∧ (g6X p k).val ≤ (hiK k).nat)
def fiF (p : Prm) : Nat → Nat → I .i64
 | 0, _ => I.of .i64 0
 | n + 1, k => if okK p k = true then fiF p n (k + 1) else I.of .i64 (k : Int)
def fiS (p : Prm) : I .i64 := fiF p 12 1
theorem d9X (a b : U) : I.ltb (d2X a b) (I.of .i64 0) = decide (a.val < b.val) := by
 unfold d2X
 by_cases h : a.val < b.val
 ·
  rw [if_pos h]; simp [h]; rfl
 ·
  rw [if_neg h]
  by_cases h2 : b.val < a.val
  ·
   rw [if_pos h2]; simp [h]; rfl
  ·
   rw [if_neg h2]; simp [h]; rfl
theorem e2T (a b : U) : I.ltb (I.of .i64 0) (d2X a b) = decide (b.val < a.val) := by
 unfold d2X
 by_cases h : a.val < b.val
 ·
  rw [if_pos h]; simp [show ¬ b.val < a.val by omega]; rfl
 ·
  rw [if_neg h]
  by_cases h2 : b.val < a.val
  ·
   rw [if_pos h2]; simp [h2]; rfl
  ·
   rw [if_neg h2]; simp [h2]; rfl
theorem c3V (p : Prm) : a4J ((p, ()), ()) = some ((fiS p, ()), ()) := by
 refine Wp.out (T := fun o => o = some ((fiS p, ()), ())) ?_
 unfold a4J
 refine Wp.iter (Inv := fun x => ∃ k : Nat, 1 ≤ k ∧ k ≤ 13 ∧ x = ((I.of .i64 (k : Int), ()), (p, ())) ∧ fiF p (13 - k) k = fiS p) (fun x => 14 - x.1.1.val.toNat) ?_ ⟨1, by omega, by omega, rfl, rfl⟩ ?_
 ·
  rintro x ⟨k, hk1, hk2, rfl, hf⟩
  have hkv : (I.of .i64 (k : Int)).val = k := b1T ⟨by omega, by omega⟩
  refine Wp.brn (fun hc => ?_) (fun hc => ?_)
  ·
   rw [iff_leb] at hc
   replace hc : (I.of .i64 (k : Int)).val ≤ 12 := hc
   have hk : k ≤ 12 := by omega
   refine Wp.optF (f4R p k hk1 hk) (Wp.optF (e2F p k hk1 hk) (Wp.optF (a3C _) (Wp.optF (a8V _ _) ?_)))
   obtain ⟨n, hn⟩ : ∃ n, 13 - k = n + 1 := ⟨12 - k, by omega⟩
   rw [hn] at hf
   have hf' : (if okK p k = true then fiF p n (k + 1) else I.of .i64 (k : Int)) = fiS p := hf
   refine Wp.brn (fun h1 => ?_) (fun h1 => ?_)
   ·
    rw [d9X] at h1
    replace h1 := of_decide_eq_true h1
    refine Wp.done ?_
    rw [if_neg (by unfold okK; rw [a3I] at h1; simp; intro h; omega)] at hf'
    show some ((I.of .i64 (k : Int), ()), ()) = _
    rw [hf']
   ·
    rw [d9X] at h1
    replace h1 := of_decide_eq_false h1
    refine Wp.optF (a3C _) (Wp.optF (a8V _ _) ?_)
    refine Wp.brn (fun h2 => ?_) (fun h2 => ?_)
    ·
     rw [e2T] at h2
     replace h2 := of_decide_eq_true h2
     refine Wp.done ?_
     rw [if_neg (by unfold okK; rw [a3I] at h2; simp; intro h; exact h2)] at hf'
     show some ((I.of .i64 (k : Int), ()), ()) = _
     rw [hf']
    ·
     rw [e2T] at h2
     replace h2 := of_decide_eq_false h2
     rw [a3I] at h1 h2
     rw [if_pos (by unfold okK; simp; omega)] at hf'
     have hv2 : (I.of .i64 ((k + 1 : Nat) : Int)).val = ((k + 1 : Nat) : Int) := b1T ⟨by omega, by omega⟩
     have ha : I.add (I.of .i64 (k : Int)) (I.of .i64 1) = I.of .i64 ((k + 1 : Nat) : Int) := by
      apply I.ext'
      rw [a3D (by rw [hkv]; show _ ≤ (k : Int) + 1 ∧ (k : Int) + 1 < _; omega), hkv, hv2]
      show (k : Int) + 1 = ((k + 1 : Nat) : Int)
      omega
     refine Wp.again ⟨k + 1, by omega, by omega, ?_, ?_⟩ ?_
     ·
      show ((I.add (I.of .i64 (k : Int)) (I.of .i64 1), ()), (p, ())) = _
      rw [ha]
     ·
      rw [show 13 - (k + 1) = n by omega]; exact hf'
     ·
      show 14 - (I.add (I.of .i64 (k : Int)) (I.of .i64 1)).val.toNat < 14 - (I.of .i64 (k : Int)).val.toNat
      rw [ha, hkv, hv2]
      omega
  ·
   rw [niff_leb] at hc
   replace hc : 12 < (I.of .i64 (k : Int)).val := hc
   have hk : k = 13 := by omega
   subst hk
   refine Wp.done ?_
   show some ((I.of .i64 0, ()), ()) = _
   rw [← hf]; rfl
 ·
  show 14 - (1 : Int).toNat < K0
  rw [a5J]; decide
theorem g5P (a b c : I .u64) : a2T ((a, b, c, ()), ()) = some ((decide (b.nat ≤ a.nat ∧ a.nat ≤ c.nat), ()), ()) := by
 have ha := a1L a
 have hb := a1L b
 have hc := a1L c
 refine Wp.out (T := fun o => o = some ((decide (b.nat ≤ a.nat ∧ a.nat ≤ c.nat), ()), ())) ?_
 unfold a2T
 refine Wp.brn (fun h => ?_) (fun h => ?_)
 ·
  rw [iff_leb] at h
  show some ((I.leb a c, ()), ()) = _
  have : I.leb a c = decide (b.nat ≤ a.nat ∧ a.nat ≤ c.nat) := by
   by_cases h2 : a.nat ≤ c.nat
   ·
    rw [decide_eq_true (by omega), iff_leb]; omega
   ·
    rw [decide_eq_false (by omega), niff_leb]; omega
  rw [this]
 ·
  rw [niff_leb] at h
  show some ((false, ()), ()) = _
  rw [decide_eq_false (by omega)]
theorem e0L (a : U) : a7D ((a, ()), ()) = some (if a.val < 18446744073709551616 then ((a.1, true, ()), ()) else ((I.of .u64 0, false, ()), ())) := by
 refine Wp.out (T := fun o => o = some (if a.val < 18446744073709551616 then ((a.1, true, ()), ()) else ((I.of .u64 0, false, ()), ()))) ?_
 have h0 := a1Q a.1
 have n1 := a1L a.2.1
 have n2 := a1L a.2.2.1
 have n3 := a1L a.2.2.2.1
 have hv : a.val = a.1.nat + 18446744073709551616 * (a.2.1.nat + 18446744073709551616 * (a.2.2.1.nat + 18446744073709551616 * a.2.2.2.1.nat)) := rfl
 have e0 : (I.of .u64 0).val = 0 := rfl
 unfold a7D
 refine Wp.brn (fun h => ?_) (fun h => ?_)
 ·
  rw [iff_neb, e0] at h; replace h : a.2.1.val ≠ 0 := h
  show some ((I.of .u64 0, false, ()), ()) = _
  rw [if_neg (by omega)]
 ·
  rw [niff_neb, e0] at h; replace h : a.2.1.val = 0 := h
  refine Wp.brn (fun h2 => ?_) (fun h2 => ?_)
  ·
   rw [iff_neb, e0] at h2; replace h2 : a.2.2.1.val ≠ 0 := h2
   show some ((I.of .u64 0, false, ()), ()) = _
   rw [if_neg (by omega)]
  ·
   rw [niff_neb, e0] at h2; replace h2 : a.2.2.1.val = 0 := h2
   refine Wp.brn (fun h3 => ?_) (fun h3 => ?_)
   ·
    rw [iff_neb, e0] at h3; replace h3 : a.2.2.2.1.val ≠ 0 := h3
    show some ((I.of .u64 0, false, ()), ()) = _
    rw [if_neg (by omega)]
   ·
    rw [niff_neb, e0] at h3; replace h3 : a.2.2.2.1.val = 0 := h3
    show some ((a.1, true, ()), ()) = _
    rw [if_pos (by omega)]
theorem c1W (a : U) (b : I .u64) : a3U ((a, b, ()), ()) = some ((decide (b.nat ≤ a.val ∧ a.val ≤ 18446744073709551615), ()), ()) := by
 refine Wp.out (T := fun o => o = some ((decide (b.nat ≤ a.val ∧ a.val ≤ 18446744073709551615), ()), ())) ?_
 have hb := a1L b
 have h0 := a1L a.1
 have h0' := a1Q a.1
 have hv : a.val = a.1.nat + 18446744073709551616 * (a.2.1.nat + 18446744073709551616 * (a.2.2.1.nat + 18446744073709551616 * a.2.2.2.1.nat)) := rfl
 unfold a3U
 refine Wp.optF (e0L a) ?_
 by_cases h : a.val < 18446744073709551616
 ·
  rw [if_pos h]
  refine Wp.brnT rfl ?_
  show some ((I.leb b a.1, ()), ()) = _
  have : I.leb b a.1 = decide (b.nat ≤ a.val ∧ a.val ≤ 18446744073709551615) := by
   by_cases h2 : b.nat ≤ a.1.nat
   ·
    rw [decide_eq_true (by omega), iff_leb]; omega
   ·
    rw [decide_eq_false (by omega), niff_leb]; omega
  rw [this]
 ·
  rw [if_neg h]
  refine Wp.brnF rfl ?_
  show some ((false, ()), ()) = _
  rw [decide_eq_false (by omega)]
theorem e5Y (a b c : I .u64) : a2T ((a, b, c, ()), ()) = some ((decide (b.nat ≤ (b1F a).val ∧ (b1F a).val ≤ c.nat), ()), ()) := by
 rw [g5P, a3I]
theorem g0J {R : Type} (b : Bool) (x y : R) : brn (a2R b) x y = if b = true then y else x := by cases b <;> rfl
theorem c3D (p : Prm) : a4D ((p, ()), ()) = some ((fiS p, ()), ()) := by
 refine Wp.out (T := fun o => o = some ((fiS p, ()), ())) ?_
 unfold a4D
 refine Wp.optF (e5Y _ _ _) (Wp.optF (e5Y _ _ _) (Wp.optF (e5Y _ _ _) (Wp.optF (c1W _ _) (Wp.optF (e5Y _ _ _) (Wp.optF (c1W _ _) (Wp.optF (e5Y _ _ _) (Wp.optF (c1W _ _) (Wp.optF (e5Y _ _ _) (Wp.optF (e5Y _ _ _) (Wp.optF (e5Y _ _ _) (Wp.optF (e5Y _ _ _) ?_)))))))))))
 have step : ∀ (n k : Nat) (r : Option (((I .i64) × Unit) × Unit)), r = some ((fiF p n (k + 1), ()), ()) → brn (a2R (okK p k)) (some ((I.of .i64 (k : Int), ()), ())) r = some ((fiF p (n + 1) k, ()), ()) := by
  intro n k r hr
  rw [g0J, hr]
  show _ = some ((if okK p k = true then fiF p n (k + 1) else I.of .i64 (k : Int), ()), ())
  split <;> rfl
 exact step 11 1 _ (step 10 2 _ (step 9 3 _ (step 8 4 _ (step 7 5 _ (step 6 6 _ (step 5 7 _ (step 4 8 _ (step 3 9 _ (step 2 10 _ (step 1 11 _ (step 0 12 _ rfl)))))))))))
def a6S (p : Prm) : Bool := I.eqb (fiS p) (I.of .i64 0)
theorem b9F (p : Prm) : a7I ((p, ()), ()) = some ((a6S p, ()), ()) := by
 refine Wp.out (T := fun o => o = some ((a6S p, ()), ())) ?_
 unfold a7I
 exact Wp.optF (c3V p) rfl
theorem c1E (p : Prm) : a4U ((p, ()), ()) = some ((a6S p, ()), ()) := by
 refine Wp.out (T := fun o => o = some ((a6S p, ()), ())) ?_
 unfold a4U
 exact Wp.optF (c3D p) rfl
theorem d6X (p : Prm) : ∀ (n k : Nat), 1 ≤ k → k + n ≤ 14 → (I.eqb (fiF p n k) (I.of .i64 0) = true ↔ ∀ j, k ≤ j → j < k + n → okK p j = true)
 | 0, k, h1, h2 => ⟨fun _ j _ _ => by omega, fun _ => rfl⟩
 | n + 1, k, h1, h2 => by
  show I.eqb (if okK p k = true then fiF p n (k + 1) else I.of .i64 (k : Int)) (I.of .i64 0) = true ↔ _
  by_cases h : okK p k = true
  ·
   rw [if_pos h, d6X p n (k + 1) (by omega) (by omega)]
   constructor
   ·
    intro hj j h3 h4
    by_cases hjk : j = k
    ·
     subst hjk; exact h
    ·
     exact hj j (by omega) (by omega)
   ·
    intro hj j h3 h4
    exact hj j (by omega) (by omega)
  ·
   rw [if_neg h, iff_eqb, b1T ⟨by omega, by omega⟩]
   constructor
   ·
    intro h3
    replace h3 : (k : Int) = 0 := h3
    omega
   ·
    intro hj
    exact absurd (hj k (by omega) (by omega)) h
theorem c7P (p : Prm) : a6S p = true ↔ ∀ j, 1 ≤ j → j < 13 → okK p j = true := d6X p 12 1 (by omega) (by omega)
theorem c7J {p : Prm} (h : a6S p = true) : 1 ≤ p.2.2.2.2.2.2.2.2.1.nat ∧ p.2.2.2.2.2.2.2.2.1.nat ≤ 1099511627776 ∧ 1 ≤ p.2.2.2.2.2.2.2.2.2.1.nat := by
 rw [c7P] at h
 have h9 := of_decide_eq_true (h 9 (by omega) (by omega))
 have h10 := of_decide_eq_true (h 10 (by omega) (by omega))
 replace h9 : (I.of .u64 1).nat ≤ (b1F p.2.2.2.2.2.2.2.2.1).val ∧ (b1F p.2.2.2.2.2.2.2.2.1).val ≤ (I.of .u64 1099511627776).nat := h9
 replace h10 : (I.of .u64 1).nat ≤ (b1F p.2.2.2.2.2.2.2.2.2.1).val ∧ (b1F p.2.2.2.2.2.2.2.2.2.1).val ≤ (I.of .u64 1048576).nat := h10
 rw [a3I] at h9 h10
 have e1 : (I.of .u64 1).nat = 1 := rfl
 have e2 : (I.of .u64 1099511627776).nat = 1099511627776 := rfl
 rw [e1] at h9 h10
 rw [e2] at h9
 exact ⟨h9.1, h9.2, h10.1⟩
end Sym

/- The price of a unit: what the program computes. -/
namespace Sym
open Go
theorem e2C (a b : U) : a4O ((a, b, ()), ()) = some ((U.of (min (a.val + b.val) (U.top - 1)), ()), ()) := by
 refine Wp.out (T := fun o => o = some ((U.of (min (a.val + b.val) (U.top - 1)), ()), ())) ?_
 unfold a4O
 refine Wp.optF (b0M a b) ?_
 unfold f4E
 have ha := a.lt
 by_cases h : a.val + b.val < U.top
 ·
  rw [if_pos h]
  refine Wp.brnT rfl ?_
  show _ = _
  rw [Nat.min_eq_left (by omega)]
  rfl
 ·
  rw [if_neg h]
  refine Wp.brnF rfl ?_
  refine Wp.optF rfl ?_
  show _ = _
  rw [Nat.min_eq_right (by omega)]
  kernel_rfl
theorem c8C {z : Int} (d : U) (hz : z.natAbs < U.top) (hd : d.val ≠ 0) : a3P ((S.of z, d, ()), ()) = some ((S.of (z / (d.val : Int)), I.of .i64 0, ()), ()) := by
 have := d3O (S.of z) d
 unfold d8I at this
 rw [S.of_valid hz, if_pos rfl, if_neg hd, S.int_of hz] at this
 exact this
theorem c7R {z : Int} (c : I .u64) (hz : z.natAbs < U.top) (hc : c.nat ≠ 0) : a3P ((S.of z, b1F c, ()), ()) = some ((S.of (z / (c.nat : Int)), I.of .i64 0, ()), ()) := by
 have := c8C (b1F c) hz (by rw [a3I]; exact hc)
 rw [a3I] at this
 exact this
theorem g2L {z w : Int} (hz : z.natAbs < U.top) (hw : w.natAbs < U.top) : a8W ((S.of z, S.of w, ()), ()) = some (((d0P (z - w)).1, (d0P (z - w)).2, ()), ()) := by
 have := f0J (S.of_valid hz) (S.of_valid hw)
 rw [S.int_of hz, S.int_of hw] at this
 exact this
theorem f8S {z w : Int} (hz : z.natAbs < U.top) (hw : w.natAbs < U.top) : a9S ((S.of z, S.of w, ()), ()) = some (((d0P (z * w)).1, (d0P (z * w)).2, ()), ()) := by
 have := g1A (S.of_valid hz) (S.of_valid hw)
 rw [S.int_of hz, S.int_of hw] at this
 exact this
theorem h6W (c : I .u64) : ((false, b1F c, ()) : S) = S.of (c.nat : Int) := by
 have h : S.of (S.int (false, b1F c, ())) = (false, b1F c, ()) := S.of_int rfl
 have h2 : S.int (false, b1F c, ()) = (c.nat : Int) := by
  show (((b1F c).val : Nat) : Int) = _
  rw [a3I]
 rw [← h, h2]
theorem f1R (a b : I .u64) : (I.quo a b).nat = a.nat / b.nat := by
 have h : ((I.quo a b).nat : Int) = ((a.nat / b.nat : Nat) : Int) := by
  rw [a1L, f2U, ← a1L a, ← a1L b]
  exact (Int.natCast_ediv _ _).symm
 exact Int.ofNat_inj.1 h
def b6Y (n o : Int) (u E J : Nat) : S × I .i64 :=
 if (n - o).natAbs < U.top then
  if (-n / (E : Int) - (n - o) / (u : Int)).natAbs < U.top then
   if ((-n / (E : Int) - (n - o) / (u : Int)) * (u : Int)).natAbs < U.top then (S.of ((-n / (E : Int) - (n - o) / (u : Int)) * (u : Int) / ((E / J + u : Nat) : Int)), I.of .i64 0)
   else (S.of 0, I.of .i64 4)
  else (S.of 0, I.of .i64 4)
 else (S.of 0, I.of .i64 4)
theorem a7S {c : Bool} (h : a2R c = true) : c = false := by
 cases c
 ·
  rfl
 ·
  cases h
theorem a7T {c : Bool} (h : a2R c = false) : c = true := by
 cases c
 ·
  cases h
 ·
  rfl
def Prm.eq (p : Prm) : I .u64 := p.2.2.2.2.2.2.2.2.1
def Prm.inertia (p : Prm) : I .u64 := p.2.2.2.2.2.2.2.2.2.1
def b0N (a b : S) (u : I .u64) (p : Prm) : S × I .i64 :=
 if a6S p = true then
  if a1P a = true then
   if a1P b = true then
    if u.nat = 0 then (S.of 0, I.of .i64 2)
    else b6Y a.int b.int u.nat (Prm.eq p).nat (Prm.inertia p).nat
   else (S.of 0, I.of .i64 2)
  else (S.of 0, I.of .i64 2)
 else (S.of 0, I.of .i64 15)
theorem c9Q {a b : S} {u : I .u64} {p : Prm} (hp : a6S p = true) (ha : a1P a = true) (hb : a1P b = true) (hu : u.nat ≠ 0) : b0N a b u p = b6Y a.int b.int u.nat (Prm.eq p).nat (Prm.inertia p).nat := by
 unfold b0N
 rw [if_pos hp, if_pos ha, if_pos hb, if_neg hu]
theorem b4P (u : I .u64) : I.eqb u (I.of .u64 0) = true ↔ u.nat = 0 := by
 rw [iff_eqb]
 have := a1L u
 have e0 : (I.of .u64 0).val = 0 := rfl
 omega
theorem e4M (a b : S) (u : I .u64) (p : Prm) : a8M ((a, b, u, p, ()), ()) = some (((b0N a b u p).1, (b0N a b u p).2, ()), ()) := by
 refine Wp.out (T := fun o => o = some (((b0N a b u p).1, (b0N a b u p).2, ()), ())) ?_
 unfold a8M
 refine Wp.jn (fun s => s.1.1 = u ∧ s.2.1 = a ∧ s.2.2.1 = b ∧ s.2.2.2.1 = p ∧ a6S p = true ∧ a1P a = true ∧ a1P b = true ∧ u.nat ≠ 0) ?_ ?_
 ·
  rintro ⟨⟨u', ⟨⟩⟩, a', b', p', z', ⟨⟩⟩ ⟨e0, e1, e2, e3, hp, ha, hb, hu⟩
  simp only at e0 e1 e2 e3
  subst e0 e1 e2 e3
  obtain ⟨hE1, hE2, hJ⟩ : 1 ≤ (Prm.eq p').nat ∧ (Prm.eq p').nat ≤ 1099511627776 ∧ 1 ≤ (Prm.inertia p').nat := c7J hp
  rw [c9Q hp ha hb hu]
  have hx := S.lt a'
  have hy := S.lt b'
  have hxn : (-S.int a').natAbs < U.top := by omega
  refine Wp.optF (g7Q ha) (Wp.optF (a3C _) ?_)
  refine Wp.optF (c7R (Prm.eq p') hxn (by omega)) ?_
  have hq := b7U (-S.int a') (Prm.eq p').nat (by omega)
  refine Wp.optF (f0J (x := a') (y := b') ha hb) ?_
  unfold b6Y
  by_cases h1 : (S.int a' - S.int b').natAbs < U.top
  ·
   rw [b5F h1, if_pos h1]
   refine Wp.brnF rfl (Wp.optF (a3C _) ?_)
   refine Wp.optF (c7R u' h1 hu) ?_
   have hq2 := b7U (S.int a' - S.int b') u'.nat hu
   refine Wp.optF (g2L (z := -S.int a' / ((Prm.eq p').nat : Int)) (w := (S.int a' - S.int b') / (u'.nat : Int)) (by omega) (by omega)) ?_
   generalize hd : -S.int a' / ((Prm.eq p').nat : Int) - (S.int a' - S.int b') / (u'.nat : Int) = d
   by_cases h2 : d.natAbs < U.top
   ·
    rw [b5F h2, if_pos h2]
    refine Wp.brnF rfl (Wp.optF (a3C _) ?_)
    have hun := f3K u'
    have hm := f8S (z := d) (w := (u'.nat : Int)) h2 (by omega)
    rw [← h6W] at hm
    refine Wp.optF hm ?_
    by_cases h3 : (d * (u'.nat : Int)).natAbs < U.top
    ·
     rw [b5F h3, if_pos h3]
     refine Wp.brnF rfl ?_
     refine Wp.brnT ?_ ?_
     ·
      rw [iff_nz]
      have := a1L (Prm.inertia p')
      show (Prm.inertia p').val ≠ 0
      omega
     refine Wp.optF (a3C _) (Wp.optF (a3C _) (Wp.optF (e2C (b1F (I.quo (Prm.eq p') (Prm.inertia p'))) (b1F u')) ?_))
     have hn1 := a1Q (I.quo (Prm.eq p') (Prm.inertia p'))
     have hn2 := a1Q u'
     have hsum : (U.of (min ((b1F (I.quo (Prm.eq p') (Prm.inertia p'))).val + (b1F u').val) (U.top - 1))).val = (Prm.eq p').nat / (Prm.inertia p').nat + u'.nat := by
      rw [a3I, a3I, Nat.min_eq_left (by unfold U.top; omega), U.val_of (by unfold U.top; omega), f1R]
     refine Wp.optF (c8C (U.of (min ((b1F (I.quo (Prm.eq p') (Prm.inertia p'))).val + (b1F u').val) (U.top - 1))) h3 (by rw [hsum]; exact Nat.ne_of_gt (Nat.lt_of_lt_of_le (Nat.pos_of_ne_zero hu) (Nat.le_add_left _ _)))) ?_
     rw [hsum]
     rfl
    ·
     rw [c1T (by omega), if_neg h3]
     exact Wp.brnT rfl rfl
   ·
    rw [c1T (by omega), if_neg h2]
    exact Wp.brnT rfl rfl
  ·
   rw [c1T (by omega), if_neg h1]
   exact Wp.brnT rfl rfl
 ·
  intro j hj
  refine Wp.optF (b9F p) ?_
  refine Wp.brn (fun h => ?_) (fun h => ?_)
  ·
   have hp : a6S p = false := a7S h
   unfold b0N
   rw [hp]
   rfl
  ·
   have hp : a6S p = true := a7T h
   refine Wp.optF (a9O a) ?_
   refine Wp.brn (fun h => ?_) (fun h => ?_)
   ·
    have ha : a1P a = false := a7S h
    unfold b0N
    rw [if_pos hp, ha]
    rfl
   ·
    have ha : a1P a = true := a7T h
    refine Wp.optF (a9O b) ?_
    refine Wp.brn (fun h => ?_) (fun h => ?_)
    ·
     have hb : a1P b = false := a7S h
     unfold b0N
     rw [if_pos hp, if_pos ha, hb]
     rfl
    ·
     have hb : a1P b = true := a7T h
     refine Wp.brn (fun h => ?_) (fun h => ?_)
     ·
      have hu := (b4P u).1 h
      unfold b0N
      rw [if_pos hp, if_pos ha, if_pos hb, if_pos hu]
      rfl
     ·
      have hu : u.nat ≠ 0 := fun h0 => by
       rw [(b4P u).2 h0] at h; cases h
      exact hj _ ⟨rfl, rfl, rfl, rfl, hp, ha, hb, hu⟩
def b0I (c : U) (a b : S) (u : I .u64) (p : Prm) : U × I .i64 :=
 if a6S p = true then
  if a1P a = true then
   if a1P b = true then
    if u.nat = 0 then (c, I.of .i64 0)
    else if I.neb (b0N a b u p).2 (I.of .i64 0) = true then (U.of 0, (b0N a b u p).2) else b6U c (b0N a b u p).1
   else (U.of 0, I.of .i64 2)
  else (U.of 0, I.of .i64 2)
 else (U.of 0, I.of .i64 15)
theorem f2I (c : U) (a b : S) (u : I .u64) (p : Prm) : a9B ((c, a, b, u, p, ()), ()) = some (((b0I c a b u p).1, (b0I c a b u p).2, ()), ()) := by
 refine Wp.out (T := fun o => o = some (((b0I c a b u p).1, (b0I c a b u p).2, ()), ())) ?_
 unfold a9B
 refine Wp.jn (fun s => s.1.1 = u ∧ s.2.1 = c ∧ s.2.2.1 = a ∧ s.2.2.2.1 = b ∧ s.2.2.2.2.1 = p ∧ a6S p = true ∧ a1P a = true ∧ a1P b = true ∧ u.nat ≠ 0) ?_ ?_
 ·
  rintro ⟨⟨u', ⟨⟩⟩, c', a', b', p', z', ⟨⟩⟩ ⟨e0, e1, e2, e3, e4, hp, ha, hb, hu⟩
  simp only at e0 e1 e2 e3 e4
  subst e0 e1 e2 e3 e4
  refine Wp.optF (e4M _ _ _ _) ?_
  unfold b0I
  rw [if_pos hp, if_pos ha, if_pos hb, if_neg hu]
  refine Wp.brn (fun h => ?_) (fun h => ?_)
  ·
   rw [if_pos h]
   rfl
  ·
   rw [if_neg (by rw [h]; decide)]
   exact Wp.optF (d0F _ _) rfl
 ·
  intro j hj
  refine Wp.optF (b9F p) ?_
  refine Wp.brn (fun h => ?_) (fun h => ?_)
  ·
   have hp : a6S p = false := a7S h
   unfold b0I
   rw [hp]
   rfl
  ·
   have hp : a6S p = true := a7T h
   refine Wp.jn (fun s => s.1.1 = u ∧ s.1.2.1 = (!(a1P a && a1P b)) ∧ s.2.1 = c ∧ s.2.2.1 = a ∧ s.2.2.2.1 = b ∧ s.2.2.2.2.1 = p) ?_ ?_
   ·
    rintro ⟨⟨u', v', ⟨⟩⟩, c', a', b', p', z', ⟨⟩⟩ ⟨e0, e00, e1, e2, e3, e4⟩
    simp only at e0 e00 e1 e2 e3 e4
    subst e0 e00 e1 e2 e3 e4
    refine Wp.brn (fun h => ?_) (fun h => ?_)
    ·
     replace h : (!(a1P a' && a1P b')) = true := h
     unfold b0I
     rw [if_pos hp]
     by_cases ha : a1P a' = true
     ·
      rw [if_pos ha]
      have hb : a1P b' = false := by rw [ha] at h; simpa using h
      rw [hb]
      rfl
     ·
      rw [if_neg ha]
      rfl
    ·
     replace h : (!(a1P a' && a1P b')) = false := h
     have hab : a1P a' = true ∧ a1P b' = true := by simpa using h
     refine Wp.brn (fun h => ?_) (fun h => ?_)
     ·
      have hu := (b4P u').1 h
      unfold b0I
      rw [if_pos hp, if_pos hab.1, if_pos hab.2, if_pos hu]
      rfl
     ·
      have hu : u'.nat ≠ 0 := fun h0 => by
       rw [(b4P u').2 h0] at h; cases h
      exact hj _ ⟨rfl, rfl, rfl, rfl, rfl, hp, hab.1, hab.2, hu⟩
   ·
    intro j2 hj2
    refine Wp.optF (a9O a) ?_
    refine Wp.brn (fun h => ?_) (fun h => ?_)
    ·
     have ha : a1P a = false := a7S h
     exact hj2 _ ⟨rfl, by rw [ha]; rfl, rfl, rfl, rfl, rfl⟩
    ·
     have ha : a1P a = true := a7T h
     refine Wp.optF (a9O b) ?_
     exact hj2 _ ⟨rfl, by rw [ha]; rfl, rfl, rfl, rfl, rfl⟩
end Sym

/- The price of a unit: the laws over valid parameters. -/
namespace Sym
open Go
def h5D : Prm := (I.of .u64 7000000, I.of .u64 10, I.of .u64 102, b1F (I.of .u64 100000000), I.of .u64 32000000, b1F (I.of .u64 60000000), I.of .u64 1000, b1F (I.of .u64 10), I.of .u64 160000000, I.of .u64 10, I.of .u64 16, I.of .u64 65536, ())
theorem d8A : a6F ((), ()) = some ((h5D, ()), ()) := by kernel_rfl
theorem e1Z (p : Prm) (h1 : 1 ≤ p.1.nat ∧ p.1.nat ≤ 1099511627776) (h2 : p.2.1.nat ≤ 1048576) (h3 : 1 ≤ p.2.2.1.nat ∧ p.2.2.1.nat ≤ 1048576) (h4 : 1 ≤ U.val p.2.2.2.1 ∧ U.val p.2.2.2.1 ≤ 18446744073709551615) (h5 : 1 ≤ p.2.2.2.2.1.nat ∧ p.2.2.2.2.1.nat ≤ 1099511627776) (h6 : U.val p.2.2.2.2.2.1 ≤ 18446744073709551615) (h7 : p.2.2.2.2.2.2.1.nat ≤ 10000) (h8 : U.val p.2.2.2.2.2.2.2.1 ≤ 18446744073709551615) (h9 : 1 ≤ p.2.2.2.2.2.2.2.2.1.nat ∧ p.2.2.2.2.2.2.2.2.1.nat ≤ 1099511627776) (h10 : 1 ≤ p.2.2.2.2.2.2.2.2.2.1.nat ∧ p.2.2.2.2.2.2.2.2.2.1.nat ≤ 1048576) (h11 : p.2.2.2.2.2.2.2.2.2.2.1.nat ≤ 1048576) (h12 : p.2.2.2.2.2.2.2.2.2.2.1.nat ≤ p.2.2.2.2.2.2.2.2.2.2.2.1.nat ∧ p.2.2.2.2.2.2.2.2.2.2.2.1.nat ≤ 16777216) : a6S p = true := by
 rw [c7P]
 intro j hj1 hj2
 match j, hj1, hj2 with
 | 1, _, _ => exact decide_eq_true (by show _ ≤ (b1F p.1).val ∧ (b1F p.1).val ≤ _; rw [a3I]; exact h1)
 | 2, _, _ => exact decide_eq_true (by show _ ≤ (b1F p.2.1).val ∧ (b1F p.2.1).val ≤ _; rw [a3I]; exact ⟨Nat.zero_le _, h2⟩)
 | 3, _, _ => exact decide_eq_true (by show _ ≤ (b1F p.2.2.1).val ∧ (b1F p.2.2.1).val ≤ _; rw [a3I]; exact h3)
 | 4, _, _ => exact decide_eq_true h4
 | 5, _, _ => exact decide_eq_true (by show _ ≤ (b1F p.2.2.2.2.1).val ∧ (b1F p.2.2.2.2.1).val ≤ _; rw [a3I]; exact h5)
 | 6, _, _ => exact decide_eq_true ⟨Nat.zero_le _, h6⟩
 | 7, _, _ => exact decide_eq_true (by show _ ≤ (b1F p.2.2.2.2.2.2.1).val ∧ (b1F p.2.2.2.2.2.2.1).val ≤ _; rw [a3I]; exact ⟨Nat.zero_le _, h7⟩)
 | 8, _, _ => exact decide_eq_true ⟨Nat.zero_le _, h8⟩
 | 9, _, _ => exact decide_eq_true (by show _ ≤ (b1F p.2.2.2.2.2.2.2.2.1).val ∧ (b1F p.2.2.2.2.2.2.2.2.1).val ≤ _; rw [a3I]; exact h9)
 | 10, _, _ => exact decide_eq_true (by show _ ≤ (b1F p.2.2.2.2.2.2.2.2.2.1).val ∧ (b1F p.2.2.2.2.2.2.2.2.2.1).val ≤ _; rw [a3I]; exact h10)
 | 11, _, _ => exact decide_eq_true (by show _ ≤ (b1F p.2.2.2.2.2.2.2.2.2.2.1).val ∧ (b1F p.2.2.2.2.2.2.2.2.2.2.1).val ≤ _; rw [a3I]; exact ⟨Nat.zero_le _, h11⟩)
 | 12, _, _ => exact decide_eq_true (by show _ ≤ (b1F p.2.2.2.2.2.2.2.2.2.2.2.1).val ∧ (b1F p.2.2.2.2.2.2.2.2.2.2.2.1).val ≤ _; rw [a3I]; exact h12)
 | j + 13, _, h => omega
theorem e2R (a b : I .u64) (hb : b.nat ≠ 0) : (I.rem a b).nat = a.nat % b.nat := by
 have h1 := a1L b
 have h : ((I.rem a b).nat : Int) = ((a.nat % b.nat : Nat) : Int) := by
  rw [a1L, e0H (by omega), ← a1L a, ← a1L b]
  exact (Int.natCast_emod _ _).symm
 exact Int.ofNat_inj.1 h
theorem c8E (a b : I .u64) (h : a.nat + b.nat < 18446744073709551616) : (I.add a b).nat = a.nat + b.nat := by
 rw [c1M]; exact Nat.mod_eq_of_lt h
theorem f3J (a : I .u64) (h : a.nat < 64) : (I.shl (I.of .u64 1) a).nat = 2 ^ a.nat := by
 have h1 := a1L a
 have h2 := f3H (a := a) (by omega)
 have h3 : a.val.toNat = a.nat := rfl
 have h4 : ((2 ^ a.nat : Nat) : Int) = 2 ^ a.nat := by simp
 rw [h3, ← h4, ← a1L] at h2
 exact Int.ofNat_inj.1 h2
theorem b7E (x c m : I .u64) (hm : m.nat ≠ 0) (h : c.nat + m.nat ≤ 64) : (I.shl (I.of .u64 1) (I.add c (I.rem x m))).nat ≠ 0 ∧ (I.shl (I.of .u64 1) (I.add c (I.rem x m))).nat ≤ 2 ^ (c.nat + m.nat - 1) := by
 have h1 := e2R x m hm
 have h2 := Nat.mod_lt x.nat (Nat.pos_of_ne_zero hm)
 have h3 := c8E c (I.rem x m) (by omega)
 have h4 := f3J (I.add c (I.rem x m)) (by omega)
 rw [h4]
 exact ⟨Nat.ne_of_gt (Nat.pow_pos (by decide)), Nat.pow_le_pow_right (by decide) (by omega)⟩
theorem d1T (x : I .u64) (h : x.nat ≠ 0) : I.nz x = true := by
 rw [iff_nz]
 have := a1L x
 omega
theorem b9B (a b : I .u64) (hb : b.nat ≠ 0) : (I.rem a b).nat < b.nat := by
 rw [e2R a b hb]
 exact Nat.mod_lt _ (Nat.pos_of_ne_zero hb)
theorem c2G (a : I .u64) (h : a.nat < 18446744073709551615) : (I.add (I.of .u64 1) a).nat = 1 + a.nat := c8E (I.of .u64 1) a (by show 1 + _ < _; omega)
abbrev V8 : Type := I .u64 × I .u64 × I .u64 × I .u64 × I .u64 × I .u64 × I .u64 × I .u64 × Unit
theorem c6F (v : V8) : ∃ p : Prm, a3K ((v, ()), ()) = some ((p, ()), ()) ∧ a6S p = true := by
 have key : Wp (fun o => ∃ p : Prm, o = some ((p, ()), ()) ∧ a6S p = true) (a3K ((v, ()), ())) := by
  obtain ⟨v0, v1, v2, v3, v4, v5, v6, v7, ⟨⟩⟩ := v
  unfold a3K
  have b0 := b7E v0 (I.of .u64 1) (I.of .u64 40) (by decide) (by decide)
  have b3 := b7E v3 (I.of .u64 1) (I.of .u64 60) (by decide) (by decide)
  have b4 := b7E v4 (I.of .u64 10) (I.of .u64 30) (by decide) (by decide)
  have b5 := b7E v5 (I.of .u64 1) (I.of .u64 60) (by decide) (by decide)
  have b7 := b7E v7 (I.of .u64 1) (I.of .u64 40) (by decide) (by decide)
  refine Wp.optF d8A ?_
  refine Wp.brnT (b6T _) (Wp.brnT (d1T _ b0.1) (Wp.brnT (b6T _) (Wp.brnT (d1T _ b3.1) (Wp.brnT (b6T _) (Wp.brnT (d1T _ b4.1) (Wp.brnT (b6T _) (Wp.brnT (d1T _ b5.1) (Wp.brnT (b6T _) (Wp.brnT (d1T _ b7.1) ?_)))))))))
  refine ⟨_, rfl, ?_⟩
  have r0 := b9B v0 _ b0.1
  have r3 := b9B v3 _ b3.1
  have r4 := b9B v4 _ b4.1
  have r5 := b9B v5 _ b5.1
  have r7 := b9B v7 _ b7.1
  have r1 := b9B v1 (I.of .u64 40) (by decide)
  have r2 := b9B v2 (I.of .u64 300) (by decide)
  have r6 := b9B v6 (I.of .u64 10001) (by decide)
  have r8 := b9B v6 (I.of .u64 5000) (by decide)
  have r10 := b9B (I.quo v7 (I.of .u64 7)) (I.of .u64 100) (by decide)
  have t0 := Nat.le_trans b0.2 (show 2 ^ ((I.of .u64 1).nat + (I.of .u64 40).nat - 1) ≤ 1099511627776 by decide)
  have t3 := Nat.le_trans b3.2 (show 2 ^ ((I.of .u64 1).nat + (I.of .u64 60).nat - 1) ≤ 1152921504606846976 by decide)
  have t4 := Nat.le_trans b4.2 (show 2 ^ ((I.of .u64 10).nat + (I.of .u64 30).nat - 1) ≤ 549755813888 by decide)
  have t5 := Nat.le_trans b5.2 (show 2 ^ ((I.of .u64 1).nat + (I.of .u64 60).nat - 1) ≤ 1152921504606846976 by decide)
  have t7 := Nat.le_trans b7.2 (show 2 ^ ((I.of .u64 1).nat + (I.of .u64 40).nat - 1) ≤ 1099511627776 by decide)
  have n40 : (I.of .u64 40).nat = 40 := rfl
  have n300 : (I.of .u64 300).nat = 300 := rfl
  have n10001 : (I.of .u64 10001).nat = 10001 := rfl
  have n5000 : (I.of .u64 5000).nat = 5000 := rfl
  have n100 : (I.of .u64 100).nat = 100 := rfl
  refine e1Z _ ?_ ?_ ?_ ?_ ?_ ?_ ?_ ?_ ?_ ?_ ?_ ?_
  ·
   show 1 ≤ (I.add _ _).nat ∧ (I.add _ _).nat ≤ _
   rw [c2G _ (Nat.lt_of_lt_of_le r0 (Nat.le_trans t0 (by decide)))]
   exact ⟨Nat.le_add_right _ _, Nat.le_trans (by rw [Nat.add_comm]; exact r0) t0⟩
  ·
   show (I.rem v1 (I.of .u64 40)).nat ≤ _
   omega
  ·
   show 1 ≤ (I.add _ (I.rem v2 (I.of .u64 300))).nat ∧ (I.add _ (I.rem v2 (I.of .u64 300))).nat ≤ _
   rw [c2G _ (by omega)]
   omega
  ·
   show 1 ≤ (b1F (I.add _ _)).val ∧ (b1F (I.add _ _)).val ≤ _
   rw [a3I, c2G _ (Nat.lt_of_lt_of_le r3 (Nat.le_trans t3 (by decide)))]
   exact ⟨Nat.le_add_right _ _, Nat.le_trans (by rw [Nat.add_comm]; exact r3) (Nat.le_trans t3 (by decide))⟩
  ·
   show 1 ≤ (I.add _ _).nat ∧ (I.add _ _).nat ≤ _
   rw [c2G _ (Nat.lt_of_lt_of_le r4 (Nat.le_trans t4 (by decide)))]
   exact ⟨Nat.le_add_right _ _, Nat.le_trans (by rw [Nat.add_comm]; exact r4) (Nat.le_trans t4 (by decide))⟩
  ·
   show (b1F (I.rem _ _)).val ≤ _
   rw [a3I]
   exact Nat.le_trans (Nat.le_of_lt r5) (Nat.le_trans t5 (by decide))
  ·
   show (I.rem v6 (I.of .u64 10001)).nat ≤ _
   omega
  ·
   show (b1F (I.rem v6 (I.of .u64 5000))).val ≤ _
   rw [a3I]
   omega
  ·
   show 1 ≤ (I.add _ _).nat ∧ (I.add _ _).nat ≤ _
   rw [c2G _ (Nat.lt_of_lt_of_le r7 (Nat.le_trans t7 (by decide)))]
   exact ⟨Nat.le_add_right _ _, Nat.le_trans (by rw [Nat.add_comm]; exact r7) t7⟩
  ·
   show 1 ≤ (I.add _ (I.rem (I.quo v7 (I.of .u64 7)) (I.of .u64 100))).nat ∧ (I.add _ (I.rem (I.quo v7 (I.of .u64 7)) (I.of .u64 100))).nat ≤ _
   rw [c2G _ (by omega)]
   omega
  ·
   show (I.of .u64 16).nat ≤ 1048576
   decide
  ·
   show (I.of .u64 16).nat ≤ (I.of .u64 65536).nat ∧ (I.of .u64 65536).nat ≤ 16777216
   decide
 exact key.out
end Sym

/- The price of a unit: unchanged, direction, damped. -/
namespace Sym
open Go
theorem e4F {n o : Int} {u E J : Nat} (h1 : (n - o).natAbs < U.top) (h2 : (-n / (E : Int) - (n - o) / (u : Int)).natAbs < U.top) (h3 : ((-n / (E : Int) - (n - o) / (u : Int)) * (u : Int)).natAbs < U.top) : b6Y n o u E J = (S.of ((-n / (E : Int) - (n - o) / (u : Int)) * (u : Int) / ((E / J + u : Nat) : Int)), I.of .i64 0) := by
 unfold b6Y
 rw [if_pos h1, if_pos h2, if_pos h3]
end Sym

/- The price of a unit: the reference computes the same. -/
namespace Sym
open Go
theorem bd3 {n : Nat} (h : n < 3 * U.top) : Bd n := Nat.lt_trans h (by decide)
theorem bd4 {n : Nat} (h : n < 3 * U.top * 18446744073709551616) : Bd n := Nat.lt_trans h (by decide)
theorem d4C {l : List Dg} {x : I .u64} (h : IsB l x.nat) : l.length ≤ 4 := h.len.2 (Nat.lt_of_lt_of_le (a1Q x) (by decide))
theorem g2F {l : List Dg} {n : Nat} (h : IsB l n) : IsSB (false, l, ()) (n : Int) := ⟨(decide_eq_false (by omega)).symm, by rw [Int.natAbs_natCast]; exact h⟩
theorem e0Y (a b : S) (u : I .u64) (p : Prm) : a7M ((a, b, u, p, ()), ()) = some (((b0N a b u p).1, (b0N a b u p).2, ()), ()) := by
 refine Wp.out (T := fun o => o = some (((b0N a b u p).1, (b0N a b u p).2, ()), ())) ?_
 unfold a7M
 refine Wp.optF (c1E p) ?_
 refine Wp.brn (fun h => ?_) (fun h => ?_)
 ·
  have hp : a6S p = false := a7S h
  unfold b0N
  rw [hp]
  rfl
 have hp : a6S p = true := a7T h
 refine Wp.jn (fun s => s.1.1 = u ∧ s.2.1 = a ∧ s.2.2.1 = b ∧ s.2.2.2.1 = p ∧ a1P a = true ∧ a1P b = true ∧ u.nat ≠ 0) ?_ ?_
 ·
  rintro ⟨⟨u', ⟨⟩⟩, a', b', p', z', ⟨⟩⟩ ⟨e0, e1, e2, e3, ha, hb, hu⟩
  simp only at e0 e1 e2 e3
  subst e0 e1 e2 e3
  obtain ⟨hE1, hE2, hJ⟩ : 1 ≤ (Prm.eq p').nat ∧ (Prm.eq p').nat ≤ 1099511627776 ∧ 1 ≤ (Prm.inertia p').nat := c7J hp
  have htop : U.top = 115792089237316195423570985008687907853269984665640564039457584007913129639936 := rfl
  rw [c9Q hp ha hb hu]
  have hx := S.lt a'
  have hy := S.lt b'
  have hun := a1Q u'
  obtain ⟨s2, q2, S2⟩ := c1S a'
  refine Wp.optF q2 ?_
  obtain ⟨s3, q3, S3⟩ := c1K S2 (Bd.of_top hx)
  refine Wp.optF q3 ?_
  obtain ⟨l4, q4, B4⟩ := a7E (Prm.eq p')
  refine Wp.optF q4 ?_
  have L4 := d4C B4
  obtain ⟨s5, q5, S5⟩ := d3T S3 B4 (by omega) (Bd.of_top (by omega)) (by omega)
  refine Wp.optF q5 (Wp.optF q2 ?_)
  obtain ⟨s7, q7, S7⟩ := c1S b'
  refine Wp.optF q7 ?_
  obtain ⟨s8, q8, S8⟩ := c1K S7 (Bd.of_top hy)
  refine Wp.optF q8 ?_
  obtain ⟨s9, q9, S9⟩ := c8N S2 S8 (Bd.of_top hx) (Bd.of_top (by omega)) (Bd.of_two (by omega))
  rw [← Int.sub_eq_add_neg] at S9
  refine Wp.optF q9 ?_
  obtain ⟨l10, q10, B10⟩ := a7E u'
  refine Wp.optF q10 ?_
  have L10 := d4C B10
  obtain ⟨s11, q11, S11⟩ := d3T S9 B10 hu (Bd.of_two (by omega)) (by omega)
  refine Wp.optF q11 ?_
  have f1 := b7U (-S.int a') (Prm.eq p').nat (by omega)
  have f2 := b7U (S.int a' - S.int b') u'.nat hu
  generalize hw : -S.int a' / ((Prm.eq p').nat : Int) = w at S5 f1
  generalize hv : (S.int a' - S.int b') / (u'.nat : Int) = v at S11 f2
  obtain ⟨s12, q12, S12⟩ := c1K S11 (Bd.of_two (by omega))
  refine Wp.optF q12 ?_
  obtain ⟨s13, q13, S13⟩ := c8N S5 S12 (Bd.of_two (by omega)) (Bd.of_two (by omega)) (bd3 (by omega))
  rw [← Int.sub_eq_add_neg] at S13
  refine Wp.optF q13 (Wp.optF q10 ?_)
  have h13 : (w - v).natAbs < 3 * U.top := by omega
  have hmul : (w - v).natAbs * u'.nat < 3 * U.top * 18446744073709551616 := Nat.lt_of_le_of_lt (Nat.mul_le_mul_left _ (Nat.le_of_lt hun)) (Nat.mul_lt_mul_of_pos_right h13 (by decide))
  obtain ⟨s15, q15, S15⟩ := f3E S13 (g2F B10) (bd3 h13) (Bd.of_top (by omega)) (by rw [Int.natAbs_natCast]; exact bd4 hmul)
  refine Wp.optF q15 ?_
  have h15 : ((w - v) * (u'.nat : Int)).natAbs < 3 * U.top * 18446744073709551616 := by rw [Int.natAbs_mul, Int.natAbs_natCast]; exact hmul
  refine Wp.jn (fun s => s.1.1 = u' ∧ s.2.1 = p' ∧ s.2.2.2.1 = s15 ∧ (S.int a' - S.int b').natAbs < U.top ∧ (w - v).natAbs < U.top ∧ ((w - v) * (u'.nat : Int)).natAbs < U.top) ?_ ?_
  ·
   rintro ⟨⟨u2, ⟨⟩⟩, p2, z2, s2', ⟨⟩⟩ ⟨e0, e1, e2, t1, t2, t3⟩
   simp only at e0 e1 e2
   subst e0 e1 e2
   obtain ⟨l17, q17, B17⟩ := a7E (Prm.eq p2)
   obtain ⟨l18, q18, B18⟩ := a7E (Prm.inertia p2)
   have L17 := d4C B17
   have L18 := d4C B18
   refine Wp.optF q17 (Wp.optF q18 ?_)
   obtain ⟨l19, m19, q19, B19, _⟩ := d4E B17 B18 (by omega) (by omega) (by omega)
   refine Wp.optF q19 (Wp.optF q10 ?_)
   have L19 : l19.length ≤ 4 := B19.len.2 (Nat.lt_of_le_of_lt (Nat.div_le_self _ _) (Nat.lt_of_lt_of_le (a1Q (Prm.eq p2)) (by decide)))
   obtain ⟨l21, q21, B21⟩ := b3I B19 B10 (Nat.le_trans L19 (by decide)) (Nat.le_trans L10 (by decide))
   refine Wp.optF q21 ?_
   have hby : u2.nat ≤ (Prm.eq p2).nat / (Prm.inertia p2).nat + u2.nat := Nat.le_add_left _ _
   have hby2 : (Prm.eq p2).nat / (Prm.inertia p2).nat ≤ (Prm.eq p2).nat := Nat.div_le_self _ _
   have L21 : l21.length ≤ 5 := B21.len.2 (Nat.lt_of_le_of_lt (show _ ≤ 1099511627776 + 18446744073709551616 by omega) (by decide))
   have hdz : b6Y (S.int a') (S.int b') u2.nat (Prm.eq p2).nat (Prm.inertia p2).nat = (S.of ((w - v) * (u2.nat : Int) / (((Prm.eq p2).nat / (Prm.inertia p2).nat + u2.nat : Nat) : Int)), I.of .i64 0) := by
    rw [e4F t1 (by rw [hw, hv]; exact t2) (by rw [hw, hv]; exact t3), hw, hv]
   rw [hdz]
   generalize (Prm.eq p2).nat / (Prm.inertia p2).nat + u2.nat = B at hby B21
   obtain ⟨s22, q22, S22⟩ := d3T S15 B21 (by omega) (bd4 h15) (Nat.le_trans L21 (by decide))
   refine Wp.optF q22 ?_
   have f3 := b7U ((w - v) * (u2.nat : Int)) B (by omega)
   refine Wp.optF (c6B S22 (Bd.of_top (by omega))) ?_
   rw [b5F (by omega)]
   rfl
  ·
   intro j hj
   have len9 := Bd.len S9.abs (Bd.of_two (by omega))
   have len13 := Bd.len S13.abs (bd3 h13)
   have len15 := Bd.len S15.abs (bd4 h15)
   refine Wp.optF (c5W S9.abs (Nat.lt_of_le_of_lt len9 (by decide))) ?_
   unfold b6Y
   rw [hw, hv]
   by_cases t1 : (S.int a' - S.int b').natAbs < U.top
   ·
    rw [if_pos t1]
    refine Wp.brnF (by show a2R (decide _) = false; rw [decide_eq_true t1]; rfl) ?_
    refine Wp.optF (c5W S13.abs (Nat.lt_of_le_of_lt len13 (by decide))) ?_
    by_cases t2 : (w - v).natAbs < U.top
    ·
     rw [if_pos t2]
     refine Wp.brnF (by show a2R (decide _) = false; rw [decide_eq_true t2]; rfl) ?_
     refine Wp.optF (c5W S15.abs (Nat.lt_of_le_of_lt len15 (by decide))) ?_
     by_cases t3 : ((w - v) * (u'.nat : Int)).natAbs < U.top
     ·
      refine Wp.brnF (by show a2R (decide _) = false; rw [decide_eq_true t3]; rfl) ?_
      have := hj ((u', ()), (p', z', s15, ())) ⟨rfl, rfl, rfl, t1, t2, t3⟩
      unfold b6Y at this
      rw [hw, hv, if_pos t1, if_pos t2] at this
      exact this
     ·
      rw [if_neg t3]
      exact Wp.brnT (by show a2R (decide _) = true; rw [decide_eq_false t3]; rfl) rfl
    ·
     rw [if_neg t2]
     exact Wp.brnT (by show a2R (decide _) = true; rw [decide_eq_false t2]; rfl) rfl
   ·
    rw [if_neg t1]
    exact Wp.brnT (by show a2R (decide _) = true; rw [decide_eq_false t1]; rfl) rfl
 ·
  intro j hj
  refine Wp.optF (b3R a) ?_
  refine Wp.brn (fun h => ?_) (fun h => ?_)
  ·
   have ha : a1P a = false := a7S h
   unfold b0N
   rw [if_pos hp, ha]
   rfl
  ·
   have ha : a1P a = true := a7T h
   refine Wp.optF (b3R b) ?_
   refine Wp.brn (fun h => ?_) (fun h => ?_)
   ·
    have hb : a1P b = false := a7S h
    unfold b0N
    rw [if_pos hp, if_pos ha, hb]
    rfl
   ·
    have hb : a1P b = true := a7T h
    refine Wp.brn (fun h => ?_) (fun h => ?_)
    ·
     have hu := (b4P u).1 h
     unfold b0N
     rw [if_pos hp, if_pos ha, if_pos hb, if_pos hu]
     rfl
    ·
     have hu : u.nat ≠ 0 := fun h0 => by
      rw [(b4P u).2 h0] at h; cases h
     exact hj _ ⟨rfl, rfl, rfl, rfl, ha, hb, hu⟩
theorem e6C (c : U) (a b : S) (u : I .u64) (p : Prm) : a8C ((c, a, b, u, p, ()), ()) = some (((b0I c a b u p).1, (b0I c a b u p).2, ()), ()) := by
 refine Wp.out (T := fun o => o = some (((b0I c a b u p).1, (b0I c a b u p).2, ()), ())) ?_
 unfold a8C
 refine Wp.optF (c1E p) ?_
 refine Wp.brn (fun h => ?_) (fun h => ?_)
 ·
  have hp : a6S p = false := a7S h
  unfold b0I
  rw [hp]
  rfl
 have hp : a6S p = true := a7T h
 refine Wp.jn (fun s => s.1.1 = u ∧ s.2.1 = c ∧ s.2.2.1 = a ∧ s.2.2.2.1 = b ∧ s.2.2.2.2.1 = p ∧ a1P a = true ∧ a1P b = true) ?_ ?_
 ·
  rintro ⟨⟨u', ⟨⟩⟩, c', a', b', p', z', ⟨⟩⟩ ⟨e0, e1, e2, e3, e4, ha, hb⟩
  simp only at e0 e1 e2 e3 e4
  subst e0 e1 e2 e3 e4
  unfold b0I
  rw [if_pos hp, if_pos ha, if_pos hb]
  refine Wp.brn (fun h => ?_) (fun h => ?_)
  ·
   have hu := (b4P u').1 h
   rw [if_pos hu]
   rfl
  ·
   have hu : u'.nat ≠ 0 := fun h0 => by
    rw [(b4P u').2 h0] at h; cases h
   rw [if_neg hu]
   refine Wp.optF (e0Y _ _ _ _) ?_
   refine Wp.brn (fun h => ?_) (fun h => ?_)
   ·
    rw [if_pos h]
    rfl
   ·
    rw [if_neg (by rw [h]; decide)]
    exact Wp.optF (e0D _ _) rfl
 ·
  intro j hj
  refine Wp.optF (b3R a) ?_
  refine Wp.brn (fun h => ?_) (fun h => ?_)
  ·
   have ha : a1P a = false := a7S h
   unfold b0I
   rw [if_pos hp, ha]
   rfl
  ·
   have ha : a1P a = true := a7T h
   refine Wp.optF (b3R b) ?_
   refine Wp.brn (fun h => ?_) (fun h => ?_)
   ·
    have hb : a1P b = false := a7S h
    unfold b0I
    rw [if_pos hp, if_pos ha, hb]
    rfl
   ·
    have hb : a1P b = true := a7T h
    exact hj _ ⟨rfl, rfl, rfl, rfl, rfl, ha, hb⟩
theorem z2 : (I.of .i64 0).val ≤ 2 := by decide
end Sym

/- The law of the gas price's bounds, of the plain functions. -/
namespace Sym
open Go
def minS (a b : U) : U := if b.val < a.val then b else a
theorem g3E : ∃ k, K0 = k + 2 := ⟨2 ^ 64 - 2, by rw [a5J]⟩
theorem c6R (a b : U) : b0W ((a, [b], ()), ()) = some ((minS a b, ()), ()) := by
 obtain ⟨k, hk⟩ := g3E
 refine Wp.out (T := fun o => o = some ((minS a b, ()), ())) ?_
 unfold b0W
 rw [hk]
 refine Wp.unroll ?_
 refine Wp.brnT rfl ?_
 refine Wp.brnT rfl ?_
 refine Wp.optF (a8V b a) ?_
 unfold d2X minS
 by_cases h : b.val < a.val
 ·
  rw [if_pos h, if_pos h]
  refine Wp.brnT rfl ?_
  refine Wp.next (Wp.unroll ?_)
  refine Wp.brnF rfl ?_
  exact rfl
 ·
  rw [if_neg h, if_neg h]
  refine Wp.brnF ?_ ?_
  ·
   split <;> rfl
  ·
   refine Wp.next (Wp.unroll ?_)
   refine Wp.brnF rfl ?_
   exact rfl
theorem d7W (a b : U) : (minS a b).val = min a.val b.val := by
 unfold minS
 split <;> omega
end Sym

/- The law of the charge's total. -/
namespace Sym
open Go
theorem a9I {n : Nat} (h : n < U.top) : b4V n = (U.of n, I.of .i64 0) := if_pos h
theorem b6R {n : Nat} (h : U.top ≤ n) : b4V n = (U.of 0, I.of .i64 4) := if_neg (by omega)
theorem b7Y (a b : U) : a1Z ((a, b, ()), ()) = some (((b4V (a.val + b.val)).1, (b4V (a.val + b.val)).2, ()), ()) := b0M a b
theorem Add_errS' {m : Nat} (h : m < U.top) (b : U) : a1Z ((U.of m, b, ()), ()) = some (((b4V (m + b.val)).1, (b4V (m + b.val)).2, ()), ()) := by
 have := b7Y (U.of m) b
 rw [U.val_of h] at this
 exact this
theorem a5G {l : List Dg} {n : Nat} (h : IsB l n) (k : Nat) (hn : n < 65536 ^ k) (hk : k ≤ 1000000) : l.length ≤ 1000000 := Nat.le_trans (h.len.2 hn) hk
theorem d9T : U.top = 65536 ^ 16 := by decide
theorem b1R {l : List Dg} {a : U} (h : IsB l a.val) : l.length ≤ 1000000 := a5G h 16 (by rw [← d9T]; exact a.lt) (by decide)
theorem d6L (a : U) : Ty.eqb (.arr 4 (.int .u64)) a a = true := by rw [b8L]; simp
end Sym

/- Products of 512 bits and shares of them. -/
namespace Sym
open Go
def av : (n : Nat) → Arr (I .u64) n → Nat
 | 0, _ => 0
 | n + 1, x => x.1.nat + W64 * av n x.2
def lb (n : Nat) (x : Arr (I .u64) n) (i : Nat) : Nat := (Arr.sel (I.of .u64 0) n x i).nat
theorem e1N : ∀ (n : Nat) (x : Arr (I .u64) n) (i : Nat) (z : I .u64), i < n → av n (Arr.upd n x i z) + W64 ^ i * lb n x i = av n x + W64 ^ i * z.nat
 | 0, _, i, _, h => by omega
 | n + 1, x, 0, z, _ => by
  show z.nat + W64 * av n x.2 + W64 ^ 0 * x.1.nat = x.1.nat + W64 * av n x.2 + W64 ^ 0 * z.nat
  rw [Nat.pow_zero]; omega
 | n + 1, x, i + 1, z, h => by
  have ih := e1N n x.2 i z (by omega)
  show x.1.nat + W64 * av n (Arr.upd n x.2 i z) + W64 ^ (i + 1) * lb n x.2 i = x.1.nat + W64 * av n x.2 + W64 ^ (i + 1) * z.nat
  rw [Nat.pow_succ, Nat.mul_comm (W64 ^ i) W64, Nat.mul_assoc, Nat.mul_assoc, Nat.add_assoc, ← Nat.mul_add, ih, Nat.mul_add, ← Nat.add_assoc]
theorem e3K : ∀ (n : Nat) (x : Arr (I .u64) n) (i j : Nat) (z : I .u64), i ≠ j → lb n (Arr.upd n x i z) j = lb n x j
 | 0, _, _, _, _, _ => rfl
 | n + 1, x, 0, 0, z, h => absurd rfl h
 | n + 1, x, 0, j + 1, z, h => rfl
 | n + 1, x, i + 1, 0, z, h => rfl
 | n + 1, x, i + 1, j + 1, z, h => e3K n x.2 i j z (by omega)
theorem g4W (n : Nat) (x : Arr (I .u64) n) (i : Nat) : lb n x i < W64 := a1Q _
abbrev A8 : Type := I .u64 × I .u64 × I .u64 × I .u64 × I .u64 × I .u64 × I .u64 × I .u64 × Unit
def lo4 (p : A8) : U := Arr.ofList (I.of .u64 0) 4 (a6E (Arr.list 8 p) 0 4)
def hi4 (p : A8) : U := Arr.ofList (I.of .u64 0) 4 (a6E (Arr.list 8 p) 4 4)
theorem f9S (p : A8) : U.val (lo4 p) + U.top * U.val (hi4 p) = av 8 p := by
 obtain ⟨p0, p1, p2, p3, p4, p5, p6, p7, ⟨⟩⟩ := p
 show U.val (p0, p1, p2, p3, ()) + U.top * U.val (p4, p5, p6, p7, ()) = p0.nat + W64 * (p1.nat + W64 * (p2.nat + W64 * (p3.nat + W64 * (p4.nat + W64 * (p5.nat + W64 * (p6.nat + W64 * (p7.nat + W64 * 0)))))))
 unfold U.val U.top W64
 simp only
 omega
set_option maxHeartbeats 2000000 in
theorem e3V (a b : U) : ∃ l h : U, b0Y ((a, b, ()), ()) = some ((l, h, ()), ()) ∧ l.val + U.top * h.val = a.val * b.val := by
 have c0 : (I.of .i64 0).val = 0 := rfl
 have c1 : (I.of .i64 1).val = 1 := rfl
 have c4 : (I.of .i64 4).val = 4 := rfl
 have key : Wp (fun o => ∃ l h : U, o = some ((l, h, ()), ()) ∧ l.val + U.top * h.val = a.val * b.val) (b0Y ((a, b, ()), ())) := by
  unfold b0Y
  refine Wp.iter (fun x => 0 ≤ x.1.1.val ∧ x.1.1.val ≤ 4 ∧ x.2.1 = a ∧ x.2.2.1 = b ∧ av 8 x.2.2.2.2.2.1 = (a.val % W64 ^ x.1.1.val.toNat) * b.val ∧ ∀ j, x.1.1.val.toNat + 4 ≤ j → j < 8 → lb 8 x.2.2.2.2.2.1 j = 0) (fun x => (4 - x.1.1.val).toNat) ?_ ?_ ?_
  ·
   rintro ⟨⟨i, ⟨⟩⟩, a', b', l0, h0, p0, ⟨⟩⟩ ⟨hi0, hi1, e1, e2, hp, hz⟩
   simp only at hi0 hi1 e1 e2 hp hz
   subst e1 e2
   refine Wp.brn (fun h => ?_) (fun h => ?_)
   ·
    have hlt := iff_ltb.1 h
    simp only [c4] at hlt
    clear h
    have si : (I.add i (I.of .i64 1)).val = i.val + 1 := by rw [a3D (by omega)]; omega
    have sin : (I.add i (I.of .i64 1)).val.toNat = i.val.toNat + 1 := by omega
    have ini : inB i 4 = true := iff_inB.2 ⟨hi0, by omega⟩
    refine Wp.iter (fun x => x.1.1 = i ∧ x.1.2.2.1 = i ∧ 0 ≤ x.1.2.2.2.1.val ∧ x.1.2.2.2.1.val ≤ 4 ∧ x.2.1 = a' ∧ x.2.2.1 = b' ∧
     av 8 x.2.2.2.2.2.1 + I.nat (k := .u64) x.1.2.1 * W64 ^ (i.val.toNat + x.1.2.2.2.1.val.toNat) = (U.val a' % W64 ^ i.val.toNat) * U.val b' + limb' a' i.val.toNat * W64 ^ i.val.toNat * (U.val b' % W64 ^ x.1.2.2.2.1.val.toNat) ∧
     ∀ j, i.val.toNat + 4 ≤ j → j < 8 → lb 8 x.2.2.2.2.2.1 j = 0) (fun x => (4 - x.1.2.2.2.1.val).toNat) ?_ ?_ ?_
    ·
     rintro ⟨⟨i2, c, i1, k, ⟨⟩⟩, a1, b1, l1, h1, p, ⟨⟩⟩ ⟨e1, e2, hk0, hk1, e3, e4, hinv, hz1⟩
     simp only at e1 e2 hk0 hk1 e3 e4 hinv hz1
     subst e1 e2 e3 e4
     refine Wp.brn (fun h => ?_) (fun h => ?_)
     ·
      have hkl := iff_ltb.1 h
      simp only [c4] at hkl
      clear h
      have sk : (I.add k (I.of .i64 1)).val = k.val + 1 := by rw [a3D (by omega)]; omega
      have skn : (I.add k (I.of .i64 1)).val.toNat = k.val.toNat + 1 := by omega
      have sik : (I.add i1 k).val = i1.val + k.val := a3D (by omega)
      have hm : (4 - (I.add k (I.of .i64 1)).val).toNat < (4 - k.val).toNat := by omega
      have bmod := c0B b1 k.val.toNat (by omega)
      refine Wp.brnT ini (Wp.brnT (iff_inB.2 ⟨hk0, by show k.val < ((4 : Nat) : Int); omega⟩) ?_)
      obtain ⟨hi, lo, hmul, hprod⟩ := d6Q (Arr.sel (I.of .u64 0) 4 a1 (I.nat i1)) (Arr.sel (I.of .u64 0) 4 b1 (I.nat k))
      have hprod : lo.nat + W64 * hi.nat = limb' a1 i1.val.toNat * limb' b1 k.val.toNat := hprod
      refine Wp.optF hmul ?_
      have inik : inB (I.add i1 k) 8 = true := iff_inB.2 ⟨by omega, by omega⟩
      obtain ⟨z1, q1, ha1, hs1, hq1⟩ := b0E lo c (I.of .u64 0) (by decide)
      refine Wp.optF ha1 ?_
      refine Wp.brnT inik ?_
      obtain ⟨z2, q2, ha2, hs2, hq2⟩ := b0E (Arr.sel (I.of .u64 0) 8 p (I.nat (I.add i1 k))) z1 (I.of .u64 0) (by decide)
      refine Wp.optF ha2 ?_
      refine Wp.brnT inik ?_
      have z0 : (I.of .u64 0).nat = 0 := rfl
      have en : I.nat (I.add i1 k) = i1.val.toNat + k.val.toNat := by unfold I.nat; omega
      have hup := e1N 8 p (i1.val.toNat + k.val.toNat) z2 (by omega)
      have hs2' : z2.nat + W64 * q2.nat = lb 8 p (i1.val.toNat + k.val.toNat) + z1.nat := by
       have : (Arr.sel (I.of .u64 0) 8 p (I.nat (I.add i1 k))).nat = lb 8 p (i1.val.toNat + k.val.toNat) := by rw [en]; rfl
       unfold W64
       omega
      have hcv : (I.add (I.add hi q1) q2).nat = hi.nat + q1.nat + q2.nat := by
       have l1 := c4U a1 i1.val.toNat
       have l2 := c4U b1 k.val.toNat
       have l3 := g4W 8 p (i1.val.toNat + k.val.toNat)
       have l4 := a1Q c
       have l5 : limb' a1 i1.val.toNat * limb' b1 k.val.toNat ≤ (W64 - 1) * (W64 - 1) := Nat.mul_le_mul (by omega) (by omega)
       rw [c1M, c1M]
       unfold W64 at *
       omega
      refine Wp.again ⟨rfl, rfl, ?_, ?_, rfl, rfl, ?_, ?_⟩ hm
      ·
       show 0 ≤ (I.add k (I.of .i64 1)).val; omega
      ·
       show (I.add k (I.of .i64 1)).val ≤ 4; omega
      ·
       show av 8 (Arr.upd 8 p (I.nat (I.add i1 k)) z2) + (I.add (I.add hi q1) q2).nat * W64 ^ (i1.val.toNat + (I.add k (I.of .i64 1)).val.toNat) = _ + _ * (U.val b1 % W64 ^ (I.add k (I.of .i64 1)).val.toNat)
       rw [skn, bmod, en]
       exact d0T hinv hprod (by unfold W64; omega) hs2' hcv hup
      ·
       intro j hj1 hj2
       show lb 8 (Arr.upd 8 p (I.nat (I.add i1 k)) z2) j = 0
       rw [en, e3K 8 p _ j z2 (by omega)]
       exact hz1 j hj1 hj2
     ·
      have h := niff_ltb.1 h
      simp only [c4] at h
      have hk : k.val.toNat = 4 := by omega
      rw [hk, e6J, Nat.mod_eq_of_lt (U.lt b1)] at hinv
      have amod := c0B a1 i1.val.toNat (by omega)
      have si4 : (I.add i1 (I.of .i64 4)).val = i1.val + 4 := by rw [a3D (by omega)]; omega
      have en : I.nat (I.add i1 (I.of .i64 4)) = i1.val.toNat + 4 := by unfold I.nat; omega
      have hup := e1N 8 p (i1.val.toNat + 4) c (by omega)
      rw [hz1 _ (Nat.le_refl _) (by omega), Nat.mul_zero, Nat.add_zero] at hup
      refine Wp.done ?_
      have in8 : inB (I.add i1 (I.of .i64 4)) 8 = true := iff_inB.2 ⟨by omega, by omega⟩
      refine Wp.brnT in8 ?_
      refine Wp.again ⟨?_, ?_, rfl, rfl, ?_, ?_⟩ ?_
      ·
       show 0 ≤ (I.add i1 (I.of .i64 1)).val; omega
      ·
       show (I.add i1 (I.of .i64 1)).val ≤ 4; omega
      ·
       show av 8 (Arr.upd 8 p (I.nat (I.add i1 (I.of .i64 4))) c) = U.val a1 % W64 ^ (I.add i1 (I.of .i64 1)).val.toNat * U.val b1
       rw [en, hup, sin, Nat.mul_comm (W64 ^ _) c.nat, hinv, amod, Nat.add_mul]
       congr 1
       simp only [Nat.mul_comm, Nat.mul_left_comm, Nat.mul_assoc]
      ·
       intro j hj1 hj2
       replace hj1 : (I.add i1 (I.of .i64 1)).val.toNat + 4 ≤ j := hj1
       show lb 8 (Arr.upd 8 p (I.nat (I.add i1 (I.of .i64 4))) c) j = 0
       rw [en, e3K 8 p _ j c (by omega)]
       exact hz1 j (by omega) hj2
      ·
       show (4 - (I.add i1 (I.of .i64 1)).val).toNat < (4 - i1.val).toNat
       omega
    ·
     refine ⟨rfl, rfl, by show 0 ≤ (I.of .i64 0).val; decide, by show (I.of .i64 0).val ≤ 4; decide, rfl, rfl, ?_, hz⟩
     show av 8 p0 + (I.of .u64 0).nat * _ = _ + _ * (U.val b' % W64 ^ (I.of .i64 0).val.toNat)
     have e1 : (I.of .u64 0).nat = 0 := rfl
     have e2 : (I.of .i64 0).val.toNat = 0 := rfl
     rw [e1, e2, Nat.zero_mul, Nat.pow_zero, Nat.mod_one, Nat.mul_zero, hp]
    ·
     exact b1S _ (by show (4 - (I.of .i64 0).val).toNat < _; decide)
   ·
    have h := niff_ltb.1 h
    simp only [c4] at h
    have hi : i.val.toNat = 4 := by omega
    rw [hi, e6J, Nat.mod_eq_of_lt (U.lt a')] at hp
    refine Wp.done ?_
    exact ⟨lo4 p0, hi4 p0, rfl, (f9S p0).trans hp⟩
  ·
   refine ⟨by show 0 ≤ (I.of .i64 0).val; decide, by show (I.of .i64 0).val ≤ 4; decide, rfl, rfl, ?_, ?_⟩
   ·
    show av 8 (I.of .u64 0, I.of .u64 0, I.of .u64 0, I.of .u64 0, I.of .u64 0, I.of .u64 0, I.of .u64 0, I.of .u64 0, ()) = (a.val % W64 ^ (I.of .i64 0).val.toNat) * b.val
    have e2 : (I.of .i64 0).val.toNat = 0 := rfl
    rw [e2, Nat.pow_zero, Nat.mod_one, Nat.zero_mul]
    rfl
   ·
    intro j hj1 hj2
    show lb 8 (I.of .u64 0, I.of .u64 0, I.of .u64 0, I.of .u64 0, I.of .u64 0, I.of .u64 0, I.of .u64 0, I.of .u64 0, ()) j = 0
    match j, hj2 with
    | 0, _ => rfl
    | 1, _ => rfl
    | 2, _ => rfl
    | 3, _ => rfl
    | 4, _ => rfl
    | 5, _ => rfl
    | 6, _ => rfl
    | 7, _ => rfl
    | j + 8, h => omega
  ·
   exact b1S _ (by show (4 - (I.of .i64 0).val).toNat < _; decide)
 exact key.out
theorem e1C (a b c : U) (hc : c.val ≠ 0) (hb : b.val ≤ c.val) : a4A ((a, b, c, ()), ()) = some ((U.of (a.val * b.val / c.val), I.of .i64 0, ()), ()) := by
 have key : Wp (fun o => o = some ((U.of (a.val * b.val / c.val), I.of .i64 0, ()), ())) (a4A ((a, b, c, ()), ())) := by
  unfold a4A
  obtain ⟨l, h, hm, hv⟩ := e3V a b
  refine Wp.optF hm ?_
  have hlt : h.val < c.val := by
   have h1 : a.val * b.val ≤ a.val * c.val := Nat.mul_le_mul_left _ hb
   have h2 : a.val * c.val < U.top * c.val := Nat.mul_lt_mul_of_pos_right a.lt (by omega)
   have h3 : U.top * h.val < U.top * c.val := by omega
   exact Nat.lt_of_mul_lt_mul_left h3
  refine Wp.optF (c3T l h c hlt) ?_
  rw [show U.top * h.val + l.val = a.val * b.val by omega]
  rfl
 exact key.out
end Sym

/- Binary heaps in lists. -/
namespace Sym
open Go
structure SOrd {α : Type} (lt : α → α → Bool) : Prop where
 asymm : ∀ a b, lt a b = true → lt b a = false
 trans : ∀ a b c, lt b a = false → lt c b = false → lt c a = false
section
variable {α : Type} {lt : α → α → Bool} (d : α)
theorem SOrd.refl (h : SOrd lt) (a : α) : lt a a = false := by
 cases e : lt a a with
 | false => rfl
 | true => have := h.asymm a a e; rw [e] at this; cases this
def b2T (lt : α → α → Bool) (n : Nat) (e : Nat → Prop) (l : List α) : Prop := ∀ k, 0 < k → k < n → ¬ e k → lt (rdL d l k) (rdL d l ((k - 1) / 2)) = false
def b8R (l : List α) (i j : Nat) : List α := a1N (a1N l i (rdL d l j)) j (rdL d l i)
theorem c4L (l : List α) (i j : Nat) : (b8R d l i j).length = l.length := by simp [b8R, a2J]
theorem c2K {l : List α} {i j : Nat} (hi : i < l.length) (hj : j < l.length) : (b8R d l i j).Perm l := by
 unfold b8R
 simp only [a1N, a2J, a3Z d l i hi, a3Z d l j hj]
 exact List.set_set_perm hi hj
theorem c0F {l : List α} {i j : Nat} (hi : i < l.length) (hj : j < l.length) (k : Nat) : rdL d (b8R d l i j) k = if k = j then rdL d l i else if k = i then rdL d l j else rdL d l k := by
 unfold b8R
 simp only [a1N, b4C]
 have h1 : (setAt l i (rdL d l j)).length = l.length := by simp [a2J]
 rw [h1]
 by_cases h : k = j
 ·
  simp [h, hj]
 ·
  by_cases h2 : k = i
  ·
   subst h2; simp [h, hi]
  ·
   simp [h, h2]
theorem f2E (ho : SOrd lt) {n j : Nat} {l : List α} (hn : n ≤ l.length) (hj : j < n) (h0 : 0 < j)
  (h1 : b2T d lt n (fun k => k = j) l) (h2 : ∀ k, 0 < k → k < n → (k - 1) / 2 = j → lt (rdL d l k) (rdL d l ((j - 1) / 2)) = false)
  (hl : lt (rdL d l j) (rdL d l ((j - 1) / 2)) = true) :
  b2T d lt n (fun k => k = (j - 1) / 2) (b8R d l ((j - 1) / 2) j) ∧
  ∀ k, 0 < k → k < n → (k - 1) / 2 = (j - 1) / 2 → 0 < (j - 1) / 2 → lt (rdL d (b8R d l ((j - 1) / 2) j) k) (rdL d (b8R d l ((j - 1) / 2) j) (((j - 1) / 2 - 1) / 2)) = false := by
 obtain ⟨p, hp⟩ : ∃ p, p = (j - 1) / 2 := ⟨_, rfl⟩
 rw [← hp] at hl h2 ⊢
 have hpj : p < j := by omega
 have ha := c0F d (l := l) (i := p) (j := j) (by omega) (by omega)
 refine ⟨fun k hk hkn he => ?_, fun k hk hkn he hp0 => ?_⟩
 ·
  rw [ha, ha]
  by_cases e1 : k = j
  ·
   rw [if_pos e1, if_neg (by omega), if_pos (by omega)]
   exact ho.asymm _ _ hl
  ·
   rw [if_neg e1, if_neg he]
   by_cases e2 : (k - 1) / 2 = j
   ·
    rw [if_pos e2]
    exact h2 k hk hkn e2
   ·
    rw [if_neg e2]
    by_cases e3 : (k - 1) / 2 = p
    ·
     rw [if_pos e3]
     have := h1 k hk hkn e1
     rw [e3] at this
     exact ho.trans _ _ _ (ho.asymm _ _ hl) this
    ·
     rw [if_neg e3]
     exact h1 k hk hkn e1
 ·
  rw [ha, ha, if_neg (show (p - 1) / 2 ≠ j by omega), if_neg (show (p - 1) / 2 ≠ p by omega)]
  have hpp := h1 p hp0 (by omega) (by omega)
  by_cases e1 : k = j
  ·
   rw [if_pos e1]; exact hpp
  ·
   rw [if_neg e1, if_neg (by omega)]
   have := h1 k hk hkn e1
   rw [he] at this
   exact ho.trans _ _ _ hpp this
theorem e3G {n j : Nat} {l : List α} (h1 : b2T d lt n (fun k => k = j) l) (h : j = 0 ∨ lt (rdL d l j) (rdL d l ((j - 1) / 2)) = false) : b2T d lt n (fun _ => False) l := by
 intro k hk hkn _
 by_cases e : k = j
 ·
  subst e
  exact h.resolve_left (by omega)
 ·
  exact h1 k hk hkn e
theorem e2J (ho : SOrd lt) {n i j : Nat} {l : List α} (hn : n ≤ l.length) (hj : j < n) (hp : (j - 1) / 2 = i) (hj0 : 0 < j)
  (h1 : b2T d lt n (fun k => (k - 1) / 2 = i) l) (h2 : ∀ k, 0 < k → k < n → (k - 1) / 2 = i → 0 < i → lt (rdL d l k) (rdL d l ((i - 1) / 2)) = false)
  (hmin : ∀ k, 0 < k → k < n → (k - 1) / 2 = i → lt (rdL d l k) (rdL d l j) = false) (hl : lt (rdL d l j) (rdL d l i) = true) :
  b2T d lt n (fun k => (k - 1) / 2 = j) (b8R d l i j) ∧
  ∀ k, 0 < k → k < n → (k - 1) / 2 = j → 0 < j → lt (rdL d (b8R d l i j) k) (rdL d (b8R d l i j) ((j - 1) / 2)) = false := by
 have hij : i < j := by omega
 have ha := c0F d (l := l) (i := i) (j := j) (by omega) (by omega)
 refine ⟨fun k hk hkn he => ?_, fun k hk hkn he _ => ?_⟩
 ·
  rw [ha, ha, if_neg he]
  by_cases e1 : k = i
  ·
   subst e1
   rw [if_neg (by omega), if_pos rfl, if_neg (by omega)]
   exact h2 j hj0 hj hp hk
  ·
   by_cases e2 : k = j
   ·
    rw [if_pos e2, if_pos (by rw [e2]; exact hp)]
    exact ho.asymm _ _ hl
   ·
    rw [if_neg e2, if_neg e1]
    by_cases e3 : (k - 1) / 2 = i
    ·
     rw [if_pos e3]
     exact hmin k hk hkn e3
    ·
     rw [if_neg e3]
     exact h1 k hk hkn e3
 ·
  rw [ha, ha, if_neg (show k ≠ j by omega), if_neg (show k ≠ i by omega), if_neg (show (j - 1) / 2 ≠ j by omega), if_pos hp]
  have := h1 k hk hkn (by omega)
  rw [he] at this
  exact this
theorem c0O {n i : Nat} {l : List α} (h1 : b2T d lt n (fun k => (k - 1) / 2 = i) l) (h : ∀ k, 0 < k → k < n → (k - 1) / 2 = i → lt (rdL d l k) (rdL d l i) = false) : b2T d lt n (fun _ => False) l := by
 intro k hk hkn _
 by_cases e : (k - 1) / 2 = i
 ·
  rw [e]; exact h k hk hkn e
 ·
  exact h1 k hk hkn e
theorem e6H (ho : SOrd lt) {n : Nat} {l : List α} (h : b2T d lt n (fun _ => False) l) : ∀ k, k < n → lt (rdL d l k) (rdL d l 0) = false := by
 intro k
 induction k using Nat.strongRecOn with
 | ind k ih =>
  intro hk
  rcases Nat.eq_zero_or_pos k with rfl | h0
  ·
   exact ho.refl _
  ·
   exact ho.trans _ _ _ (ih ((k - 1) / 2) (by omega) (by omega)) (h k h0 hk (fun h => h))
theorem e2Y {n : Nat} {l : List α} (hl : l.length = n + 1) (h : b2T d lt (n + 1) (fun _ => False) l) :
  b2T d lt n (fun k => (k - 1) / 2 = 0) (b8R d l 0 n) := by
 have ha := c0F d (l := l) (i := 0) (j := n) (by omega) (by omega)
 intro k hk hkn he
 rw [ha, ha, if_neg (by omega), if_neg (by omega), if_neg (by omega), if_neg he]
 exact h k hk (by omega) (fun h => h)
theorem e0X {n : Nat} {l : List α} (h : b2T d lt n (fun _ => False) l) : b2T d lt n (fun _ => False) (l.take n) := by
 intro k hk hkn he
 rw [d7V d l n k hkn, d7V d l n _ (by omega)]
 exact h k hk hkn he
theorem d8G {n : Nat} {l : List α} {x : α} (hl : l.length = n) (h : b2T d lt n (fun _ => False) l) :
  b2T d lt (n + 1) (fun k => k = n) (l ++ [x]) := by
 intro k hk hkn he
 rw [e1A, e1A, if_pos (by omega), if_pos (by omega)]
 exact h k hk (by omega) (fun h => h)
structure Queued (lt : α → α → Bool) (h r : List α) : Prop where
 heap : b2T d lt h.length (fun _ => False) h
 perm : h.Perm r
 ord : r.Pairwise fun a b => lt b a = false
 anti : ∀ a ∈ r, ∀ b ∈ r, lt b a = false → lt a b = false → a = b
theorem Queued.len {h r : List α} (q : Queued d lt h r) : h.length = r.length := q.perm.length_eq
theorem Queued.first (ho : SOrd lt) {h r : List α} {m : α} (q : Queued d lt h (m :: r)) : rdL d h 0 = m := by
 have h0 : 0 < h.length := by rw [q.len]; simp
 have hm := b9G d h 0 h0
 have hr := q.perm.mem_iff.1 hm
 obtain ⟨k, hk, e⟩ := b9K d (q.perm.mem_iff.2 (List.mem_cons_self (a := m) (l := r)))
 have h1 := e6H d ho q.heap k hk
 rw [e] at h1
 rcases List.mem_cons.1 hr with h2 | h2
 ·
  exact h2
 ·
  exact q.anti _ hr _ (List.mem_cons_self ..) h1 ((List.pairwise_cons.1 q.ord).1 _ h2)
theorem Queued.next {h r : List α} {m : α} (q : Queued d lt h (m :: r)) {h' : List α} (h1 : b2T d lt h'.length (fun _ => False) h') (hp : h.Perm (h' ++ [m])) : Queued d lt h' r := by
 have hp2 : (m :: h').Perm (m :: r) := (List.perm_append_comm (l₁ := [m]) (l₂ := h')).trans (hp.symm.trans q.perm)
 exact ⟨h1, (List.perm_cons m).1 hp2, (List.pairwise_cons.1 q.ord).2, fun a ha b hb => q.anti a (List.mem_cons_of_mem _ ha) b (List.mem_cons_of_mem _ hb)⟩
end
end Sym

/- The queue of debts: each function. -/
namespace Sym
open Go
abbrev Item : Type := a0C
abbrev Post : Type := a0A
noncomputable abbrev dI : Item := a0L
noncomputable abbrev dP : Post := a0B
abbrev Post.addr (p : Post) : I .u64 := p.1
abbrev Post.due (p : Post) : U := p.2.1
abbrev Post.since (p : Post) : I .u64 := p.2.2.2.2.2.1
def a6M (a b : Item) : Bool :=
 brn (I.neb (Post.since a.1) (Post.since b.1)) (I.ltb (Post.since a.1) (Post.since b.1))
  (brn (I.neb (Post.addr a.1) (Post.addr b.1)) (I.ltb (Post.addr a.1) (Post.addr b.1)) (I.ltb a.2.1 b.2.1))
theorem c3Y (a b : Item) : a6M a b = true ↔ (Post.since a.1).val < (Post.since b.1).val ∨ ((Post.since a.1).val = (Post.since b.1).val ∧ ((Post.addr a.1).val < (Post.addr b.1).val ∨ ((Post.addr a.1).val = (Post.addr b.1).val ∧ a.2.1.val < b.2.1.val))) := by
 unfold a6M
 cases h : I.neb (Post.since a.1) (Post.since b.1) with
 | true =>
  have h := iff_neb.1 h
  show I.ltb _ _ = true ↔ _
  rw [iff_ltb]
  omega
 | false =>
  have h := niff_neb.1 h
  show brn _ _ _ = true ↔ _
  cases h2 : I.neb (Post.addr a.1) (Post.addr b.1) with
  | true =>
   have h2 := iff_neb.1 h2
   show I.ltb _ _ = true ↔ _
   rw [iff_ltb]
   omega
  | false =>
   have h2 := niff_neb.1 h2
   show I.ltb _ _ = true ↔ _
   rw [iff_ltb]
   omega
theorem b3Y (a b : Item) : a6M a b = false ↔ ¬ ((Post.since a.1).val < (Post.since b.1).val ∨ ((Post.since a.1).val = (Post.since b.1).val ∧ ((Post.addr a.1).val < (Post.addr b.1).val ∨ ((Post.addr a.1).val = (Post.addr b.1).val ∧ a.2.1.val < b.2.1.val)))) := by
 rw [← c3Y]
 simp
theorem lessO : SOrd a6M where
 asymm a b h := by
  have h := (c3Y a b).1 h
  rw [b3Y]
  omega
 trans a b c h1 h2 := by
  have h1 := (b3Y _ _).1 h1
  have h2 := (b3Y _ _).1 h2
  rw [b3Y]
  omega
theorem a7U : I.of .i64 0 = i6 0 := rfl
theorem a7Z : I.of .i64 1 = i6 1 := rfl
theorem e8E : I.of .i64 2 = i6 2 := rfl
theorem f1O (j : Nat) (h : j < 9223372036854775808) : I.quo (I.sub (i6 j) (i6 1)) (i6 2) = i6 ((j - 1) / 2) := by
 rcases Nat.eq_zero_or_pos j with rfl | h0
 ·
  apply I.ext'; decide
 ·
  rw [c4V h h0]
  apply I.ext'
  rw [c1C (by rw [a1D (by omega)]; omega) (by rw [a1D (by omega)]; omega), a1D (by omega), a1D (by omega), a1D (by omega)]
  omega
abbrev BIG : Nat := 1073741824
theorem c4W {l : List Item} {i j : Nat} (hi : i < l.length) (hj : j < l.length) (hl : l.length ≤ BIG) :
  a1W ((l, i6 i, i6 j, ()), ()) = some ((a6M (rdL dI l i) (rdL dI l j), ()), ()) := by
 have hl : l.length ≤ 1073741824 := hl
 refine Wp.out (T := fun o => o = some ((a6M (rdL dI l i) (rdL dI l j), ()), ())) ?_
 unfold a1W
 refine Wp.brnT (a3F hi (by omega)) (Wp.brnT (a3F hj (by omega)) ?_)
 simp only [a3H (show i < 9223372036854775808 by omega), a3H (show j < 9223372036854775808 by omega)]
 unfold a6M
 refine Wp.brn (fun h => ?_) (fun h => ?_)
 ·
  rw [show I.neb (Post.since (rdL dI l i).1) (Post.since (rdL dI l j).1) = true from h]
  rfl
 ·
  rw [show I.neb (Post.since (rdL dI l i).1) (Post.since (rdL dI l j).1) = false from h]
  refine Wp.brn (fun h => ?_) (fun h => ?_)
  ·
   rw [show I.neb (Post.addr (rdL dI l i).1) (Post.addr (rdL dI l j).1) = true from h]
   rfl
  ·
   rw [show I.neb (Post.addr (rdL dI l i).1) (Post.addr (rdL dI l j).1) = false from h]
   rfl
theorem f0K {l : List Item} : a4L ((l, ()), ()) = some ((i6 l.length, ()), ()) := rfl
theorem f1K {h : List Item} {x : Item} (hh : b2T dI (lt := a6M) h.length (fun _ => False) h) (hl : h.length + 1 ≤ BIG) :
  ∃ y, a4M (((), ((x, ()))), (((), ()), (h, ()))) = some y ∧ ∃ h', y = ((), (((), ()), (h', ()))) ∧ b2T dI (lt := a6M) h'.length (fun _ => False) h' ∧ h'.Perm (x :: h) := by
 have hl : h.length + 1 ≤ 1073741824 := hl
 refine Wp.out (T := fun o => ∃ y, o = some y ∧ ∃ h', y = ((), (((), ()), (h', ()))) ∧ b2T dI (lt := a6M) h'.length (fun _ => False) h' ∧ h'.Perm (x :: h)) ?_
 unfold a4M
 refine Wp.brnT (a7Y (by show (h ++ [x]).length ≤ _; simp; omega)) ?_
 refine Wp.optF f0K ?_
 have hlen : (a0G h (x :: [])).length = h.length + 1 := by simp [a0G]
 simp only [hlen, a7Z, c4V (show h.length + 1 < 9223372036854775808 by omega) (show 1 ≤ h.length + 1 by omega), Nat.add_sub_cancel]
 refine Wp.iter (fun s => ∃ j l, s = (((), (i6 j, ())), (((), ()), (l, ()))) ∧ j < h.length + 1 ∧ l.length = h.length + 1 ∧ l.Perm (x :: h) ∧ b2T dI (lt := a6M) (h.length + 1) (fun k => k = j) l ∧
   ∀ k, 0 < k → k < h.length + 1 → (k - 1) / 2 = j → 0 < j → a6M (rdL dI l k) (rdL dI l ((j - 1) / 2)) = false) (fun s => s.1.2.1.val.toNat) ?_ ⟨h.length, h ++ [x], rfl, by omega, by simp, (List.perm_append_comm (l₁ := h) (l₂ := [x])), d8G dI rfl hh, fun k h0 hk he _ => by omega⟩ ?_
 ·
  rintro s ⟨j, l, rfl, hj, hll, hp, h1, h2⟩
  simp only [a7Z, e8E, f1O j (by omega), e2M (show (j - 1) / 2 < 9223372036854775808 by omega) (show j < 9223372036854775808 by omega)]
  refine Wp.brn (fun he => ?_) (fun he => ?_)
  ·
   have he := of_decide_eq_true he
   exact Wp.done ⟨_, rfl, l, rfl, by rw [hll]; exact e3G dI h1 (.inl (by omega)), hp⟩
  ·
   have he := of_decide_eq_false he
   refine Wp.optF (c4W (l := l) (by omega) (by omega) (by show l.length ≤ 1073741824; omega)) ?_
   refine Wp.brn (fun hc => ?_) (fun hc => ?_)
   ·
    exact Wp.done ⟨_, rfl, l, rfl, by rw [hll]; exact e3G dI h1 (.inr (by simpa [a2R] using hc)), hp⟩
   ·
    have hc : a6M (rdL dI l j) (rdL dI l ((j - 1) / 2)) = true := by simpa [a2R] using hc
    simp only [a3H (show j < 9223372036854775808 by omega), a3H (show (j - 1) / 2 < 9223372036854775808 by omega)]
    refine Wp.brnT (a3F (by rw [a4W]; omega) (by omega)) (Wp.brnT (a3F (by rw [a4W]; omega) (by omega)) (Wp.brnT (a3F (by rw [a4W]; omega) (by omega)) (Wp.brnT (a3F (by rw [a4W, a1N, a2J, List.length_set]; omega) (by omega)) ?_)))
    have ⟨g1, g2⟩ := f2E dI lessO (by omega) hj (by omega) h1 (fun k a b c => h2 k a b c (by omega)) hc
    refine Wp.again ⟨(j - 1) / 2, b8R dI l ((j - 1) / 2) j, rfl, by omega, by rw [c4L]; exact hll, (c2K dI (by omega) (by omega)).trans hp, g1, g2⟩ ?_
    show (i6 ((j - 1) / 2)).val.toNat < (i6 j).val.toNat
    rw [a1D (by omega), a1D (by omega)]
    omega
 ·
  show (i6 h.length).val.toNat < K0
  rw [a1D (by omega), a5J]
  omega
end Sym

/- The queue of debts: Len, Peek, Pop. -/
namespace Sym
open Go
abbrev QOf (h r : List Item) : Prop := Queued dI a6M h r
theorem f2M (h : List Item) : a8Q ((), (((), ()), (h, ()))) = some ((i6 h.length, ()), (((), ()), (h, ()))) := rfl
theorem QOf.nil {h : List Item} (q : QOf h []) : h = [] := List.eq_nil_of_length_eq_zero q.len
theorem f1Q {h r : List Item} {m : Item} (q : QOf h (m :: r)) (hl : h.length ≤ BIG) : a5B ((), (((), ()), (h, ()))) = some ((m.1, (true, ())), (((), ()), (h, ()))) := by
 have hl : h.length ≤ 1073741824 := hl
 refine Wp.out (T := fun o => o = some ((m.1, (true, ())), (((), ()), (h, ())))) ?_
 have h0 : 0 < h.length := by rw [q.len]; simp
 unfold a5B
 refine Wp.optF (f2M h) ?_
 simp only [a7U, e2M (show h.length < 9223372036854775808 by omega) (show 0 < 9223372036854775808 by omega)]
 refine Wp.brnF (decide_eq_false (by omega)) (Wp.brnT (a3F h0 (by omega)) ?_)
 show some _ = some _
 rw [show rdL a0L h 0 = m from q.first dI lessO]
 rfl
theorem f1N : a2U ((), (((), ()), ([], ()))) = some ((dP, (false, ())), (((), ()), ([], ()))) := rfl
theorem e1O {X : Type} (d : X) {l : List X} {n : Nat} (h : l.length = n + 1) : l = l.take n ++ [rdL d l n] := by
 rw [a3Z d l n (by omega)]
 rw [List.take_append_getElem]
 exact (List.take_of_length_le (by omega)).symm
theorem f7Q {h r : List Item} {m : Item} (q : QOf h (m :: r)) (hl : h.length ≤ BIG) :
  ∃ y, a2U ((), (((), ()), (h, ()))) = some y ∧ ∃ h', y = ((m.1, (true, ())), (((), ()), (h', ()))) ∧ QOf h' r := by
 have hl : h.length ≤ 1073741824 := hl
 obtain ⟨n, hn⟩ : ∃ n, h.length = n + 1 := ⟨r.length, by rw [q.len]; simp⟩
 refine Wp.out (T := fun o => ∃ y, o = some y ∧ ∃ h', y = ((m.1, (true, ())), (((), ()), (h', ()))) ∧ QOf h' r) ?_
 unfold a2U
 refine Wp.optF (f1Q q hl) ?_
 refine Wp.brnT rfl ?_
 refine Wp.optF f0K ?_
 simp only [hn, a4W, a7U, a7Z, c4V (show n + 1 < 9223372036854775808 by omega) (show 1 ≤ n + 1 by omega), Nat.add_sub_cancel, a3H (show n < 9223372036854775808 by omega)]
 refine Wp.brnT (a3F (by omega) (by omega)) (Wp.brnT (a3F (by omega) (by omega)) (Wp.brnT (a3F (by omega) (by omega)) (Wp.brnT (a3F (by rw [a1N, a2J, List.length_set]; omega) (by omega)) ?_)))
 have fin : ∀ l : List Item, l.length = n + 1 → l.Perm h → rdL dI l n = m → b2T dI (lt := a6M) n (fun _ => False) l →
   ∃ h', ((((m.1, (true, ())), (((), ()), (l.take n, ())))) : (a0A × (Bool × Unit)) × ((Unit × Unit) × ((List a0C) × Unit))) = ((m.1, (true, ())), (((), ()), (h', ()))) ∧ QOf h' r := by
  intro l hll hp hm hh
  refine ⟨l.take n, rfl, q.next dI ?_ ?_⟩
  ·
   rw [List.length_take, hll, Nat.min_eq_left (by omega)]
   exact e0X dI hh
  ·
   rw [← hm, ← e1O dI hll]
   exact hp.symm
 refine Wp.iter (fun s => ∃ i l, s = (((), (i6 0, (i6 n, (i6 i, ((), (true, ())))))), (((), ()), (l, (dP, (m.1, ()))))) ∧ i ≤ n ∧ l.length = n + 1 ∧ l.Perm h ∧ rdL dI l n = m ∧ b2T dI (lt := a6M) n (fun k => (k - 1) / 2 = i) l ∧
   ∀ k, 0 < k → k < n → (k - 1) / 2 = i → 0 < i → a6M (rdL dI l k) (rdL dI l ((i - 1) / 2)) = false) (fun s => n - s.1.2.2.2.1.val.toNat) ?_ ⟨0, b8R dI h 0 n, rfl, by omega, by rw [c4L]; exact hn, c2K dI (by omega) (by omega), ?_, ?_, fun k _ _ _ h0 => absurd h0 (by omega)⟩ ?_
 ·
  rintro s ⟨i, l, rfl, hi, hll, hp, hm, h1, h2⟩
  have e1 : I.add (I.mul (i6 2) (i6 i)) (i6 1) = i6 (2 * i + 1) := by
   apply I.ext'
   have e0 : (I.mul (i6 2) (i6 i)).val = 2 * i := by rw [b9M (by rw [a1D (by omega), a1D (by omega)]; omega), a1D (by omega), a1D (by omega)]; rfl
   rw [a3D (by rw [e0, a1D (by omega)]; omega), e0, a1D (by omega), a1D (by omega)]
   omega
  simp only [hll, a4I, a7U, a7Z, e8E, e1, a5W (show 2 * i + 1 + 1 < 9223372036854775808 by omega), c4V (show n + 1 < 9223372036854775808 by omega) (show 1 ≤ n + 1 by omega), Nat.add_sub_cancel, a3H (show n < 9223372036854775808 by omega), a3H (show i < 9223372036854775808 by omega), a3H (show 2 * i + 1 < 9223372036854775808 by omega), a3H (show 2 * i + 1 + 1 < 9223372036854775808 by omega),
   e7V (show n < 9223372036854775808 by omega) (show 2 * i + 1 < 9223372036854775808 by omega), a5U (show 2 * i + 1 < 9223372036854775808 by omega) (show 0 < 9223372036854775808 by omega), a5U (show 2 * i + 1 + 1 < 9223372036854775808 by omega) (show n < 9223372036854775808 by omega), d2W]
  have b1 : inB (i6 n) (n + 1) = true := a3F (by omega) (by omega)
  have b2 : inB' (i6 n) (n + 1) = true := i6_inB' (by omega) (by omega)
  have bi : inB (i6 i) (n + 1) = true := a3F (by omega) (by omega)
  have hset : ∀ (k : Nat) (v : Item), (a1N l k v).length = n + 1 := fun k v => by rw [a1N, a2J, List.length_set]; exact hll
  have step : ∀ j, j < n → (j - 1) / 2 = i → 0 < j → (∀ k, 0 < k → k < n → (k - 1) / 2 = i → a6M (rdL dI l k) (rdL dI l j) = false) → a6M (rdL dI l j) (rdL dI l i) = true →
    (∃ i' l', ((((), (i6 0, (i6 n, (i6 j, ((), (true, ())))))), (((), ()), (a1N (a1N l i (rdL dI l j)) j (rdL dI l i), (dP, (m.1, ()))))) : (Unit × (I .i64 × (I .i64 × (I .i64 × (Unit × (Bool × Unit)))))) × ((Unit × Unit) × (List Item × (Post × (Post × Unit))))) = (((), (i6 0, (i6 n, (i6 i', ((), (true, ())))))), (((), ()), (l', (dP, (m.1, ()))))) ∧ i' ≤ n ∧ l'.length = n + 1 ∧ l'.Perm h ∧ rdL dI l' n = m ∧ b2T dI (lt := a6M) n (fun k => (k - 1) / 2 = i') l' ∧
     ∀ k, 0 < k → k < n → (k - 1) / 2 = i' → 0 < i' → a6M (rdL dI l' k) (rdL dI l' ((i' - 1) / 2)) = false) ∧ n - (i6 j).val.toNat < n - (i6 i).val.toNat := by
   intro j hj hji hj0 hmin hlt
   have ⟨g1, g2⟩ := e2J dI lessO (show n ≤ l.length by omega) hj hji hj0 h1 h2 hmin hlt
   refine ⟨⟨j, b8R dI l i j, rfl, by omega, by rw [c4L]; exact hll, (c2K dI (by omega) (by omega)).trans hp, ?_, g1, g2⟩, ?_⟩
   ·
    rw [c0F dI (by omega) (by omega), if_neg (by omega), if_neg (by omega)]
    exact hm
   ·
    rw [a1D (by omega), a1D (by omega)]
    omega
  refine Wp.brn (fun hc => ?_) (fun hc => ?_)
  ·
   have hc := of_decide_eq_true hc
   refine Wp.done (Wp.brnT b1 (Wp.brnT b2 ?_))
   exact ⟨_, rfl, fin l hll hp hm (c0O dI h1 fun k _ hk e => by omega)⟩
  ·
   have hc := of_decide_eq_false hc
   refine Wp.brnF (decide_eq_false (by omega)) ?_
   refine Wp.brn (fun hc2 => ?_) (fun hc2 => ?_)
   ·
    have hc2 := of_decide_eq_true hc2
    refine Wp.optF (c4W (l := l) (i := 2 * i + 1 + 1) (j := 2 * i + 1) (by omega) (by omega) (by show l.length ≤ 1073741824; omega)) ?_
    refine Wp.brn (fun hs => ?_) (fun hs => ?_)
    ·
     have hs : a6M (rdL dI l (2 * i + 1 + 1)) (rdL dI l (2 * i + 1)) = true := hs
     have hmin : ∀ k, 0 < k → k < n → (k - 1) / 2 = i → a6M (rdL dI l k) (rdL dI l (2 * i + 1 + 1)) = false := by
      intro k hk hkn he
      rcases (by omega : k = 2 * i + 1 ∨ k = 2 * i + 1 + 1) with rfl | rfl
      ·
       exact lessO.asymm _ _ hs
      ·
       exact lessO.refl _
     refine Wp.optF (c4W (l := l) (i := 2 * i + 1 + 1) (j := i) (by omega) (by omega) (by show l.length ≤ 1073741824; omega)) ?_
     refine Wp.brn (fun hd => ?_) (fun hd => ?_)
     ·
      have hd : a6M (rdL dI l (2 * i + 1 + 1)) (rdL dI l i) = false := by simpa [a2R] using hd
      refine Wp.done (Wp.brnT b1 (Wp.brnT b2 ?_))
      exact ⟨_, rfl, fin l hll hp hm (c0O dI h1 fun k hk hkn e => lessO.trans _ _ _ hd (hmin k hk hkn e))⟩
     ·
      have hd : a6M (rdL dI l (2 * i + 1 + 1)) (rdL dI l i) = true := by simpa [a2R] using hd
      have bj : inB (i6 (2 * i + 1 + 1)) (n + 1) = true := a3F (by omega) (by omega)
      refine Wp.brnT bj (Wp.brnT bi (Wp.brnT bi (Wp.brnT (by rw [hset]; exact bj) ?_)))
      have ⟨g1, g2⟩ := step (2 * i + 1 + 1) hc2 (by omega) (by omega) hmin hd
      exact Wp.again g1 g2
    ·
     have hs : a6M (rdL dI l (2 * i + 1 + 1)) (rdL dI l (2 * i + 1)) = false := hs
     have hmin : ∀ k, 0 < k → k < n → (k - 1) / 2 = i → a6M (rdL dI l k) (rdL dI l (2 * i + 1)) = false := by
      intro k hk hkn he
      rcases (by omega : k = 2 * i + 1 ∨ k = 2 * i + 1 + 1) with rfl | rfl
      ·
       exact lessO.refl _
      ·
       exact hs
     refine Wp.optF (c4W (l := l) (i := 2 * i + 1) (j := i) (by omega) (by omega) (by show l.length ≤ 1073741824; omega)) ?_
     refine Wp.brn (fun hd => ?_) (fun hd => ?_)
     ·
      have hd : a6M (rdL dI l (2 * i + 1)) (rdL dI l i) = false := by simpa [a2R] using hd
      refine Wp.done (Wp.brnT b1 (Wp.brnT b2 ?_))
      exact ⟨_, rfl, fin l hll hp hm (c0O dI h1 fun k hk hkn e => lessO.trans _ _ _ hd (hmin k hk hkn e))⟩
     ·
      have hd : a6M (rdL dI l (2 * i + 1)) (rdL dI l i) = true := by simpa [a2R] using hd
      have bj : inB (i6 (2 * i + 1)) (n + 1) = true := a3F (by omega) (by omega)
      refine Wp.brnT bj (Wp.brnT bi (Wp.brnT bi (Wp.brnT (by rw [hset]; exact bj) ?_)))
      have ⟨g1, g2⟩ := step (2 * i + 1) (by omega) (by omega) (by omega) hmin hd
      exact Wp.again g1 g2
   ·
    have hc2 := of_decide_eq_false hc2
    have hmin : ∀ k, 0 < k → k < n → (k - 1) / 2 = i → a6M (rdL dI l k) (rdL dI l (2 * i + 1)) = false := by
     intro k hk hkn he
     rcases (by omega : k = 2 * i + 1) with rfl
     exact lessO.refl _
    refine Wp.optF (c4W (l := l) (i := 2 * i + 1) (j := i) (by omega) (by omega) (by show l.length ≤ 1073741824; omega)) ?_
    refine Wp.brn (fun hd => ?_) (fun hd => ?_)
    ·
     have hd : a6M (rdL dI l (2 * i + 1)) (rdL dI l i) = false := by simpa [a2R] using hd
     refine Wp.done (Wp.brnT b1 (Wp.brnT b2 ?_))
     exact ⟨_, rfl, fin l hll hp hm (c0O dI h1 fun k hk hkn e => lessO.trans _ _ _ hd (hmin k hk hkn e))⟩
    ·
     have hd : a6M (rdL dI l (2 * i + 1)) (rdL dI l i) = true := by simpa [a2R] using hd
     have bj : inB (i6 (2 * i + 1)) (n + 1) = true := a3F (by omega) (by omega)
     refine Wp.brnT bj (Wp.brnT bi (Wp.brnT bi (Wp.brnT (by rw [hset]; exact bj) ?_)))
     have ⟨g1, g2⟩ := step (2 * i + 1) (by omega) (by omega) (by omega) hmin hd
     exact Wp.again g1 g2
 ·
  rw [c0F dI (by omega) (by omega), if_pos rfl]
  exact q.first dI lessO
 ·
  exact e2Y dI hn (by rw [← hn]; exact q.heap)
 ·
  rw [a5J]
  show n - _ < _
  omega
end Sym

/- The queue of debts: New, Order and the reference's order. -/
namespace Sym
open Go
noncomputable def ow (p : Post) : Bool := a2R (Ty.eqb (.arr 4 (.int .u64)) p.2.1 Z_U)
noncomputable def c1Z : Nat → List Post → List Item
 | _, [] => []
 | k, p :: l => (if ow p = true then [(p, (i6 k, ()))] else []) ++ c1Z (k + 1) l
theorem d5W : ∀ (l m : List Post) (k : Nat), c1Z k (l ++ m) = c1Z k l ++ c1Z (k + l.length) m
 | [], m, k => by simp [c1Z]
 | p :: l, m, k => by
  simp only [List.cons_append, c1Z, d5W l m (k + 1), List.append_assoc, List.length_cons]
  rw [show k + 1 + l.length = k + (l.length + 1) by omega]
theorem e5W (p : Post) (k : Nat) : c1Z k [p] = if ow p = true then [(p, (i6 k, ()))] else [] := by simp [c1Z]
theorem c3M : ∀ (l : List Post) (k : Nat), (c1Z k l).length ≤ l.length
 | [], k => Nat.le_refl _
 | p :: l, k => by
  have := c3M l (k + 1)
  simp only [c1Z, List.length_append, List.length_cons]
  split <;> simp <;> omega
theorem c3I : ∀ (l : List Post) (k : Nat) (x : Item), x ∈ c1Z k l → ∃ i, i < l.length ∧ x = (rdL dP l i, (i6 (k + i), ())) ∧ ow x.1 = true
 | [], k, x, h => by cases h
 | p :: l, k, x, h => by
  simp only [c1Z, List.mem_append] at h
  rcases h with h | h
  ·
   split at h
   ·
    rename_i hp
    have h := List.mem_singleton.1 h
    subst h
    exact ⟨0, by simp, rfl, hp⟩
   ·
    cases h
  ·
   obtain ⟨i, hi, e, ho⟩ := c3I l (k + 1) x h
   exact ⟨i + 1, by simpa using hi, by rw [e, show k + 1 + i = k + (i + 1) by omega]; rfl, ho⟩
theorem d2D {a : List Post} {i : Nat} (h : i < a.length) : c1Z 0 (a.take (i + 1)) = c1Z 0 (a.take i) ++ (if ow (rdL dP a i) = true then [(rdL dP a i, (i6 i, ()))] else []) := by
 rw [List.take_succ_eq_append_getElem h, d5W, e5W, List.length_take, Nat.min_eq_left (by omega), Nat.zero_add, a3Z dP a i h]
theorem d1R {a : List Post} (ha : a.length ≤ 1073741824) {x y : Item} (hx : x ∈ c1Z 0 a) (hy : y ∈ c1Z 0 a) (h1 : a6M y x = false) (h2 : a6M x y = false) : x = y := by
 obtain ⟨i, hi, e1, _⟩ := c3I _ _ _ hx
 obtain ⟨j, hj, e2, _⟩ := c3I _ _ _ hy
 have h1 := (b3Y _ _).1 h1
 have h2 := (b3Y _ _).1 h2
 have a1 : x.2.1.val = i := by rw [e1]; show (i6 (0 + i)).val = _; rw [a1D (by omega)]; omega
 have a2 : y.2.1.val = j := by rw [e2]; show (i6 (0 + j)).val = _; rw [a1D (by omega)]; omega
 have : i = j := by omega
 subst this
 rw [e1, e2]
noncomputable def b2X (a : List Post) : List Item := (c1Z 0 a).mergeSort fun x y => !a6M y x
theorem b1X (a : List Post) : (b2X a).Perm (c1Z 0 a) := List.mergeSort_perm _ _
theorem d0S (a : List Post) : (b2X a).Pairwise fun x y => a6M y x = false := by
 have := List.pairwise_mergeSort (le := fun x y => !a6M y x) (fun x y z h1 h2 => by
  simp only [Bool.not_eq_true'] at *
  exact lessO.trans _ _ _ h1 h2) (fun x y => by
  cases h : a6M y x with
  | false => rfl
  | true => rw [lessO.asymm _ _ h]; rfl) (c1Z 0 a)
 exact this.imp (by simp)
theorem d8N {a : List Post} (ha : a.length ≤ 1073741824) {r : List Item} (hp : r.Perm (c1Z 0 a)) (ho : r.Pairwise fun x y => a6M y x = false) : r = b2X a :=
 List.Perm.eq_of_pairwise (le := fun x y => a6M y x = false) (fun x y hx hy h1 h2 => d1R ha (hp.mem_iff.1 hx) ((b1X a).mem_iff.1 hy) h1 h2) ho (d0S a) (hp.trans (b1X a).symm)
theorem d2F {a : List Post} (ha : a.length ≤ 1073741824) {h : List Item} (hh : b2T dI (lt := a6M) h.length (fun _ => False) h) (hp : h.Perm (c1Z 0 a)) : QOf h (b2X a) :=
 ⟨hh, hp.trans (b1X a).symm, d0S a, fun x hx y hy h1 h2 => d1R ha ((b1X a).mem_iff.1 hx) ((b1X a).mem_iff.1 hy) h1 h2⟩
theorem c6D (a : List Post) : (b2X a).length ≤ a.length := by rw [(b1X a).length_eq]; exact c3M a 0
theorem h5H {p : Post} : Ty.eqb (.arr 4 (.int .u64)) p.2.1 Z_U = false → ow p = true := fun h => by unfold ow; rw [h]; rfl
theorem h3C {p : Post} : Ty.eqb (.arr 4 (.int .u64)) p.2.1 Z_U = true → ow p = false := fun h => by unfold ow; rw [h]; rfl
theorem f7Y {a : List Post} (ha : a.length ≤ 1073741824) : ∃ y, a8K ((a, ()), ()) = some y ∧ ∃ h, y = ((), (((), ()), (h, ()))) ∧ QOf h (b2X a) := by
 refine Wp.out (T := fun o => ∃ y, o = some y ∧ ∃ h, y = ((), (((), ()), (h, ()))) ∧ QOf h (b2X a)) ?_
 unfold a8K
 simp only [a4W, a4I, a7U, a7Z]
 refine Wp.iter (fun s => ∃ i h, s = ((a, (i6 a.length, (i6 i, ()))), (((), ()), (h, ()))) ∧ i ≤ a.length ∧ b2T dI (lt := a6M) h.length (fun _ => False) h ∧ h.Perm (c1Z 0 (a.take i))) (fun s => a.length - s.1.2.2.1.val.toNat) ?_ ⟨0, [], rfl, by omega, fun k _ hk => by simp at hk, by simp [c1Z]⟩ ?_
 ·
  rintro s ⟨i, h, rfl, hi, hh, hp⟩
  simp only [a5U (show i < 9223372036854775808 by omega) (show a.length < 9223372036854775808 by omega), a3H (show i < 9223372036854775808 by omega), a5W (show i + 1 < 9223372036854775808 by omega)]
  have hlen : h.length ≤ i := by
   rw [hp.length_eq]
   exact Nat.le_trans (c3M _ _) (by rw [List.length_take]; omega)
  refine Wp.brn (fun hc => ?_) (fun hc => ?_)
  ·
   have hc := of_decide_eq_true hc
   have ht := d2D hc
   refine Wp.brnT (a3F (by omega) (by omega)) ?_
   have hm : a.length - (i6 (i + 1)).val.toNat < a.length - (i6 i).val.toNat := by rw [a1D (by omega), a1D (by omega)]; omega
   refine Wp.brn (fun ho => ?_) (fun ho => ?_)
   ·
    rw [if_pos (show ow (rdL dP a i) = true from ho)] at ht
    refine Wp.call (f1K (x := (rdL dP a i, (i6 i, ()))) hh (by show _ ≤ 1073741824; omega)) ?_
    rintro y ⟨h', rfl, hh', hp'⟩
    refine Wp.again ⟨i + 1, h', rfl, by omega, hh', ?_⟩ hm
    rw [ht]
    exact hp'.trans ((List.Perm.cons _ hp).trans (List.perm_append_comm (l₁ := [_]) (l₂ := _)))
   ·
    rw [if_neg (by rw [show ow (rdL dP a i) = false from ho]; simp), List.append_nil] at ht
    exact Wp.again ⟨i + 1, h, rfl, by omega, hh, by rw [ht]; exact hp⟩ hm
  ·
   have hc := of_decide_eq_false hc
   refine Wp.done ⟨_, rfl, h, rfl, d2F ha hh ?_⟩
   rw [List.take_of_length_le (by omega)] at hp
   exact hp
 ·
  rw [a5J]
  show a.length - _ < _
  omega
noncomputable def hdP : List Item → Post
 | [] => dP
 | m :: _ => m.1
theorem e3C {h r : List Item} (q : QOf h r) (hl : r.length ≤ 1073741824) :
  ∃ y, a2U ((), (((), ()), (h, ()))) = some y ∧ ∃ h', y = ((hdP r, (!r.isEmpty, ())), (((), ()), (h', ()))) ∧ QOf h' r.tail := by
 cases r with
 | nil =>
  have := q.nil
  subst this
  exact ⟨_, f1N, [], rfl, q⟩
 | cons m r => exact f7Q q (by show _ ≤ 1073741824; rw [q.len]; exact hl)
end Sym

/- The queue of debts: the reference, comparisons of lists. -/
namespace Sym
open Go
def gtP (y x : Post) : Prop := (Post.since x).val < (Post.since y).val ∨ ((Post.since y).val = (Post.since x).val ∧ (Post.addr x).val < (Post.addr y).val)
theorem d8D {r : List Item} {x : Item} {k : Nat} (hk : k ≤ r.length) (ho : r.Pairwise fun a b => a6M b a = false) (hat : ∀ y ∈ r, y.2.1.val < x.2.1.val)
  (h1 : ∀ q, k ≤ q → q < r.length → gtP (rdL dI r q).1 x.1) (h2 : k = 0 ∨ ¬ gtP (rdL dI r (k - 1)).1 x.1) :
  (r.take k ++ x :: r.drop k).Pairwise fun a b => a6M b a = false := by
 rw [List.pairwise_append]
 have hd : ∀ y ∈ r.drop k, a6M y x = false := by
  intro y hy
  obtain ⟨q, hq, e⟩ := List.getElem_of_mem hy
  rw [List.getElem_drop] at e
  rw [List.length_drop] at hq
  have := h1 (k + q) (by omega) (by omega)
  rw [a3Z dI r _ (by omega), e] at this
  refine lessO.asymm _ _ ((c3Y _ _).2 ?_)
  rcases this with h | ⟨h, h'⟩
  ·
   exact .inl h
  ·
   exact .inr ⟨h.symm, .inl h'⟩
 have ht : ∀ y ∈ r.take k, a6M x y = false := by
  intro y hy
  obtain ⟨q, hq, e⟩ := List.getElem_of_mem hy
  rw [List.length_take] at hq
  rw [List.getElem_take] at e
  have h2 := h2.resolve_left (by omega)
  have hlast : a6M x (rdL dI r (k - 1)) = false := by
   rw [b3Y]
   have hm := hat _ (b9G dI r (k - 1) (by omega))
   unfold gtP at h2
   omega
  rcases Nat.lt_or_ge q (k - 1) with hc | hc
  ·
   have := List.pairwise_iff_getElem.1 ho q (k - 1) (by omega) (by omega) hc
   rw [e, ← a3Z dI r (k - 1) (by omega)] at this
   exact lessO.trans _ _ _ this hlast
  ·
   have : q = k - 1 := by omega
   subst this
   rw [← e, ← a3Z dI r (k - 1) (by omega)]
   exact hlast
 refine ⟨ho.take, List.pairwise_cons.2 ⟨hd, ho.drop⟩, fun a ha b hb => ?_⟩
 rcases List.mem_cons.1 hb with rfl | hb
 ·
  exact ht a ha
 ·
  exact lessO.trans _ _ _ (ht a ha) (hd b hb)
abbrev pTy : Ty := .cons (.int .u64) tY0
theorem h6E (p : Post) : Ty.eqb pTy p p = true := eqb_self' (t := pTy) rfl p
theorem f7E {n : Nat} (h : n < 9223372036854775808) : eqV (k := .i64) (l := .i64) (i6 n) (i6 n) = true := by simp [eqV]
theorem e2H {a : List Post} (ha : a.length ≤ 1073741824) : a6T ((a, ()), ()) = some (((b2X a).map (·.1), ()), ()) := by
 refine Wp.out (T := fun o => o = some (((b2X a).map (·.1), ()), ())) ?_
 unfold a6T
 simp only [a4W, a4I, a7U, a7Z]
 refine Wp.iter (fun s => ∃ i r, s = ((a, (i6 i, ())), (r.map (·.1), ())) ∧ i ≤ a.length ∧ r.Perm (c1Z 0 (a.take i)) ∧ r.Pairwise fun x y => a6M y x = false) (fun s => a.length - s.1.2.1.val.toNat) ?_ ⟨0, [], rfl, by omega, by simp [c1Z], List.Pairwise.nil⟩ ?_
 ·
  rintro s ⟨i, r, rfl, hi, hp, ho⟩
  simp only [a5U (show i < 9223372036854775808 by omega) (show a.length < 9223372036854775808 by omega), a3H (show i < 9223372036854775808 by omega), a5W (show i + 1 < 9223372036854775808 by omega), List.length_map]
  have hlen : r.length ≤ i := by
   rw [hp.length_eq]
   exact Nat.le_trans (c3M _ _) (by rw [List.length_take]; omega)
  refine Wp.brn (fun hc => ?_) (fun hc => ?_)
  ·
   have hc := of_decide_eq_true hc
   have ht := d2D hc
   have bi : inB (i6 i) a.length = true := a3F (by omega) (by omega)
   have hm : a.length - (i6 (i + 1)).val.toNat < a.length - (i6 i).val.toNat := by rw [a1D (by omega), a1D (by omega)]; omega
   refine Wp.brnT bi ?_
   refine Wp.brn (fun hd => ?_) (fun hd => ?_)
   ·
    rw [if_neg (by rw [show ow (rdL dP a i) = false from h3C hd]; simp), List.append_nil] at ht
    exact Wp.again ⟨i + 1, r, rfl, by omega, by rw [ht]; exact hp, ho⟩ hm
   ·
    rw [if_pos (show ow (rdL dP a i) = true from h5H hd)] at ht
    have hat : ∀ y ∈ r, y.2.1.val < (i6 i).val := by
     intro y hy
     obtain ⟨q, hq, e, _⟩ := c3I _ _ _ (hp.mem_iff.1 hy)
     rw [List.length_take] at hq
     rw [e]
     show (i6 (0 + q)).val < _
     rw [a1D (by omega), a1D (by omega)]
     omega
    have hrm : ∀ q, q < r.length → rdL dP (r.map (·.1)) q = (rdL dI r q).1 := fun q hq => by
     rw [a3Z dP _ q (by simpa using hq), a3Z dI r q hq, List.getElem_map]
    refine Wp.jn (fun s => ∃ k, s = ((a, (i6 i, (i6 k, ()))), (r.map (·.1), ())) ∧ k ≤ r.length ∧ (∀ q, k ≤ q → q < r.length → gtP (rdL dI r q).1 (rdL dP a i)) ∧ (k = 0 ∨ ¬ gtP (rdL dI r (k - 1)).1 (rdL dP a i))) ?_ ?_
    ·
     rintro s ⟨k, rfl, hk, g1, g2⟩
     simp only [a3H (show k < 9223372036854775808 by omega), a3H (show i < 9223372036854775808 by omega), List.length_map, d2W]
     have bk : inB' (i6 k) r.length = true := i6_inB' hk (by omega)
     have esub : a6E (r.map (·.1)) k (r.length - k) = (r.drop k).map (·.1) := by
      have := d9U (r.map (·.1)) k
      rw [List.length_map] at this
      rw [this, List.map_drop]
     refine Wp.brnT bk (Wp.brnT (f7E (by omega)) (Wp.brnT bi (Wp.brnT bk ?_)))
     simp only [esub]
     refine Wp.brnT (a7Y (by show ([rdL dP a i] ++ (r.drop k).map (·.1)).length ≤ _; simp; omega)) (Wp.brnT (a7Y (by show ((r.map (·.1)).take k ++ ([rdL dP a i] ++ (r.drop k).map (·.1))).length ≤ _; simp; omega)) (Wp.brnF rfl ?_))
     simp only [a5W (show i + 1 < 9223372036854775808 by omega)]
     refine Wp.again ⟨i + 1, r.take k ++ (rdL dP a i, (i6 i, ())) :: r.drop k, ?_, by omega, ?_, d8D hk ho hat g1 g2⟩ hm
     ·
      simp [a0G, List.map_take]
     ·
      rw [ht]
      refine (List.perm_middle).trans ?_
      rw [List.take_append_drop]
      exact (List.Perm.cons _ hp).trans (List.perm_append_comm (l₁ := [_]))
    ·
     intro j hj
     refine Wp.iter (fun s => ∃ k, s = ((a, (i6 i, (i6 k, ()))), (r.map (·.1), ())) ∧ k ≤ r.length ∧ (∀ q, k ≤ q → q < r.length → gtP (rdL dI r q).1 (rdL dP a i))) (fun s => s.1.2.2.1.val.toNat) ?_ ⟨r.length, rfl, by omega, fun q h1 h2 => by omega⟩ ?_
     ·
      rintro s ⟨k, rfl, hk, g1⟩
      simp only [a5U (show 0 < 9223372036854775808 by omega) (show k < 9223372036854775808 by omega), a3H (show i < 9223372036854775808 by omega), List.length_map]
      refine Wp.brn (fun hk0 => ?_) (fun hk0 => ?_)
      ·
       have hk0 := of_decide_eq_true hk0
       simp only [c4V (show k < 9223372036854775808 by omega) (show 1 ≤ k by omega), a3H (show k - 1 < 9223372036854775808 by omega), hrm (k - 1) (by omega)]
       have bk : inB (i6 (k - 1)) r.length = true := a3F (by omega) (by omega)
       have again : gtP (rdL dI r (k - 1)).1 (rdL dP a i) → (∃ k', (((a, (i6 i, (i6 (k - 1), ()))), (r.map (·.1), ())) : (List Post × (I .i64 × (I .i64 × Unit))) × (List Post × Unit)) = ((a, (i6 i, (i6 k', ()))), (r.map (·.1), ())) ∧ k' ≤ r.length ∧ (∀ q, k' ≤ q → q < r.length → gtP (rdL dI r q).1 (rdL dP a i))) ∧ (i6 (k - 1)).val.toNat < (i6 k).val.toNat := by
        intro hg
        refine ⟨⟨k - 1, rfl, by omega, fun q h1 h2 => ?_⟩, by rw [a1D (by omega), a1D (by omega)]; omega⟩
        rcases (by omega : q = k - 1 ∨ k ≤ q) with rfl | h
        ·
         exact hg
        ·
         exact g1 q h h2
       have stop : ¬ gtP (rdL dI r (k - 1)).1 (rdL dP a i) → Wp _ (j ((a, (i6 i, (i6 k, ()))), (r.map (·.1), ()))) := fun hg => hj _ ⟨k, rfl, hk, g1, .inr hg⟩
       refine Wp.brnT bk (Wp.brnT bi ?_)
       refine Wp.brn (fun h1 => ?_) (fun h1 => ?_)
       ·
        have h1 := iff_ltb.1 h1
        exact Wp.again (again (.inl h1)).1 (again (.inl h1)).2
       ·
        have h1 := niff_ltb.1 h1
        refine Wp.brnT bk (Wp.brnT bi ?_)
        refine Wp.brn (fun h2 => ?_) (fun h2 => ?_)
        ·
         have h2 := iff_eqb.1 h2
         refine Wp.brnT bk (Wp.brnT bi ?_)
         refine Wp.brn (fun h3 => ?_) (fun h3 => ?_)
         ·
          have h3 := iff_ltb.1 h3
          exact Wp.again (again (.inr ⟨h2, h3⟩)).1 (again (.inr ⟨h2, h3⟩)).2
         ·
          have h3 := niff_ltb.1 h3
          exact Wp.done (stop fun hg => by
           rcases hg with hg | ⟨_, hg⟩
           ·
            exact absurd hg (by show ¬ _ < _; exact Int.not_lt.2 h1)
           ·
            exact absurd hg (Int.not_lt.2 h3))
        ·
         have h2 := niff_eqb.1 h2
         exact Wp.done (stop fun hg => by
          rcases hg with hg | ⟨hg, _⟩
          ·
           exact absurd hg (Int.not_lt.2 h1)
          ·
           exact h2 hg)
      ·
       have hk0 := of_decide_eq_false hk0
       exact Wp.done (hj _ ⟨k, rfl, hk, g1, .inl (by omega)⟩)
     ·
      rw [a5J]
      show (i6 r.length).val.toNat < _
      rw [a1D (by omega)]
      omega
  ·
   have hc := of_decide_eq_false hc
   refine Wp.done ?_
   rw [List.take_of_length_le (by omega)] at hp
   rw [d8N ha hp ho]
   rfl
 ·
  rw [a5J]
  show a.length - _ < _
  omega
theorem c2D (a : List Post) (ha : a.length ≤ 1073741824) : a4P ((a, (a, ())), ()) = some ((true, ()), ()) := by
 refine Wp.out (T := fun o => o = some ((true, ()), ())) ?_
 unfold a4P
 refine Wp.brnF (niff_neb.2 rfl) ?_
 simp only [a4W, a4I, a7U, a7Z]
 refine Wp.iter (fun s => ∃ i, s = ((a, (a, (i6 i, ()))), ()) ∧ i ≤ a.length) (fun s => a.length - s.1.2.2.1.val.toNat) ?_ ⟨0, rfl, by omega⟩ ?_
 ·
  rintro s ⟨i, rfl, hi⟩
  simp only [a5U (show i < 9223372036854775808 by omega) (show a.length < 9223372036854775808 by omega), a3H (show i < 9223372036854775808 by omega), a5W (show i + 1 < 9223372036854775808 by omega)]
  refine Wp.brn (fun hc => ?_) (fun hc => Wp.done rfl)
  have hc := of_decide_eq_true hc
  have bi : inB (i6 i) a.length = true := a3F (by omega) (by omega)
  refine Wp.brnT bi (Wp.brnT bi (Wp.brnF (congrArg a2R (h6E _)) ?_))
  exact Wp.again ⟨i + 1, rfl, by omega⟩ (by show a.length - (i6 (i + 1)).val.toNat < a.length - (i6 i).val.toNat; rw [a1D (by omega), a1D (by omega)]; omega)
 ·
  rw [a5J]
  show a.length - _ < _
  omega
end Sym

/- The laws of the queue of debts. -/
namespace Sym
open Go
end Sym

/- The laws of the queue of debts: complete, empty, any order of the list. -/
namespace Sym
open Go
theorem d6Z : ∀ (l : List Post) (k : Nat), (c1Z k l).map (·.1) = l.filter ow
 | [], k => rfl
 | p :: l, k => by
  simp only [c1Z, List.map_append, d6Z l (k + 1), List.filter_cons]
  split <;> simp
theorem b7I (a : List Post) : ((b2X a).map (·.1)).Perm (a.filter ow) := by
 rw [← d6Z a 0]
 exact (b1X a).map _
end Sym

/- Tables of posters: which are valid, where one stands. -/
namespace Sym
open Go
abbrev A5 : Type := (I .u64) × U
def e9M (s : A5) : Nat := s.1.nat + 18446744073709551616 * U.val s.2
theorem e4Q {s t : A5} (h : e9M s = e9M t) : s = t := by
 unfold e9M at h
 have h1 := a1Q s.1
 have h2 := a1Q t.1
 have h3 : s.1.nat = t.1.nat := by omega
 have h4 : U.val s.2 = U.val t.2 := by omega
 have h5 : s.1 = t.1 := by rw [← d6W s.1, ← d6W t.1, h3]
 exact Prod.ext h5 (U.ext h4)
theorem d7X : ∃ k, K0 = k + 5 := ⟨2 ^ 64 - 5, by rw [a5J]⟩
theorem b9W (a b : U) : ∃ y, b1B ((a, (b, ())), ()) = some y ∧ ∃ s : A5, y = ((s, ()), ()) ∧ e9M s = a.val + b.val := by
 obtain ⟨a0, a1, a2, a3, ⟨⟩⟩ := a
 obtain ⟨b0, b1, b2, b3, ⟨⟩⟩ := b
 refine Wp.out (T := fun o => ∃ y, o = some y ∧ ∃ s : A5, y = ((s, ()), ()) ∧ e9M s = U.val (a0, a1, a2, a3, ()) + U.val (b0, b1, b2, b3, ())) ?_
 unfold b1B
 obtain ⟨k, hk⟩ := d7X
 rw [hk]
 have step : ∀ (x y c : I .u64), c.nat ≤ 1 → ∃ r, b1D ((x, (y, (c, ()))), ()) = some r ∧ ∃ z q : I .u64, r = ((z, (q, ())), ()) ∧ z.nat + 18446744073709551616 * q.nat = x.nat + y.nat + c.nat ∧ q.nat ≤ 1 := fun x y c hc => by
  obtain ⟨z, q, h1, h2, h3⟩ := b0E x y c hc
  exact ⟨_, h1, z, q, rfl, h2, h3⟩
 refine Wp.unroll (Wp.brnT rfl (Wp.brnT rfl (Wp.brnT rfl ?_)))
 refine Wp.call (step a0 b0 (I.of .u64 0) (by decide)) ?_
 rintro _ ⟨z0, q0, rfl, e0, l0⟩
 refine Wp.brnT rfl (Wp.next ?_)
 refine Wp.unroll (Wp.brnT rfl (Wp.brnT rfl (Wp.brnT rfl ?_)))
 refine Wp.call (step a1 b1 q0 l0) ?_
 rintro _ ⟨z1, q1, rfl, e1, l1⟩
 refine Wp.brnT rfl (Wp.next ?_)
 refine Wp.unroll (Wp.brnT rfl (Wp.brnT rfl (Wp.brnT rfl ?_)))
 refine Wp.call (step a2 b2 q1 l1) ?_
 rintro _ ⟨z2, q2, rfl, e2, l2⟩
 refine Wp.brnT rfl (Wp.next ?_)
 refine Wp.unroll (Wp.brnT rfl (Wp.brnT rfl (Wp.brnT rfl ?_)))
 refine Wp.call (step a3 b3 q2 l2) ?_
 rintro _ ⟨z3, q3, rfl, e3, l3⟩
 refine Wp.brnT rfl (Wp.next ?_)
 refine Wp.unroll (Wp.brnF rfl (Wp.stop ?_))
 refine ⟨_, rfl, (z0, (z1, z2, z3, q3, ())), rfl, ?_⟩
 have h0 : (I.of .u64 0).nat = 0 := rfl
 rw [h0] at e0
 simp only [e9M, U.val]
 omega
abbrev Post.costs (p : Post) : U := p.2.2.1
abbrev Post.rewards (p : Post) : U := p.2.2.2.1
abbrev Post.paid (p : Post) : U := p.2.2.2.2.1
def a9Y (p : Post) : Prop := (Post.addr p).val ≠ 0 ∧ (Post.due p).val + (Post.paid p).val = (Post.costs p).val + (Post.rewards p).val ∧ ((Post.since p).val = 0 ↔ (Post.due p).val = 0)
def TableOk (l : List Post) : Prop := l.length ≤ 64 ∧ ∀ i, i < l.length → a9Y (rdL dP l i) ∧ (0 < i → (Post.addr (rdL dP l (i - 1))).val < (Post.addr (rdL dP l i)).val)
open Classical in
noncomputable def b0Q (l : List Post) : Bool := decide (TableOk l)
open Classical in
theorem tabB_t {l : List Post} : b0Q l = true ↔ TableOk l := by unfold b0Q; exact decide_eq_true_iff
open Classical in
theorem tabB_f {l : List Post} : b0Q l = false ↔ ¬ TableOk l := by unfold b0Q; exact decide_eq_false_iff_not
theorem e1V (a : U) : Ty.eqb (.arr 4 (.int .u64)) a Z_U = decide (a.val = 0) := by
 rw [b8L]
 rw [show U.val Z_U = 0 from rfl]
theorem b0P (a : U) : a4T ((a, ()), ()) = some ((decide (a.val = 0), ()), ()) := by
 show some _ = _
 rw [show Ty.eqb (.arr 4 (.int .u64)) ((a, ()), ()).1.1 Z_U = decide (a.val = 0) from e1V a]
 rfl
theorem b8G (a : U) : a3J ((a, ()), ()) = some ((decide (a.val = 0), ()), ()) := by
 show some _ = _
 rw [show Ty.eqb (.arr 4 (.int .u64)) ((a, ()), ()).1.1 ((I.of .u64 0), ((I.of .u64 0), ((I.of .u64 0), ((I.of .u64 0), ())))) = decide (a.val = 0) from e1V a]
 rfl
theorem d6R (a b : Bool) : Ty.eqb .bool a b = true ↔ a = b := d4U .bool rfl a b
theorem c6I (p : Post) : ∃ y, a4R ((p, ()), ()) = some y ∧ ∃ b : Bool, y = ((b, ()), ()) ∧ (b = true ↔ a9Y p) := by
 obtain ⟨ad, due, costs, rewards, paid, since, ⟨⟩⟩ := p
 refine Wp.out (T := fun o => ∃ y, o = some y ∧ ∃ b : Bool, y = ((b, ()), ()) ∧ (b = true ↔ a9Y (ad, due, costs, rewards, paid, since, ()))) ?_
 unfold a4R
 have E : a9Y (ad, due, costs, rewards, paid, since, ()) ↔ (ad.val ≠ 0 ∧ due.val + paid.val = costs.val + rewards.val ∧ (since.val = 0 ↔ due.val = 0)) := Iff.rfl
 have from_ : ∀ a : U, ∃ y, a0K ((a, ()), ()) = some y ∧ ∃ r, y = ((r, ()), ()) ∧ IsB r a.val := fun a => by
  obtain ⟨r, h1, h2⟩ := a7P a
  exact ⟨_, h1, r, rfl, h2⟩
 refine Wp.call (from_ due) ?_
 rintro _ ⟨d, rfl, hd⟩
 refine Wp.call (from_ paid) ?_
 rintro _ ⟨q, rfl, hq⟩
 obtain ⟨r1, g1, k1⟩ := b3I hd hq (b1R hd) (b1R hq)
 refine Wp.optF g1 ?_
 refine Wp.call (from_ costs) ?_
 rintro _ ⟨c, rfl, hc⟩
 refine Wp.call (from_ rewards) ?_
 rintro _ ⟨w, rfl, hw⟩
 obtain ⟨r2, g2, k2⟩ := b3I hc hw (b1R hc) (b1R hw)
 refine Wp.optF g2 ?_
 have t1 := due.lt
 have t2 := paid.lt
 have t3 := costs.lt
 have t4 := rewards.lt
 have hp : U.top + U.top ≤ 65536 ^ 17 := by decide
 refine Wp.brn (fun h => ?_) (fun h => ?_)
 ·
  have h : ad.val ≠ 0 := by have := iff_neb.1 h; exact this
  refine Wp.optF (c7G k1 k2 (a5G k1 17 (by omega) (by decide)) (a5G k2 17 (by omega) (by decide))) ?_
  refine Wp.brn (fun h2 => ?_) (fun h2 => ?_)
  ·
   have h2 : due.val + paid.val = costs.val + rewards.val := by
    have h2 := iff_eqb.1 h2
    revert h2
    show (c1F _ _).val = (0 : Int) → _
    unfold c1F
    split
    ·
     intro h; exact absurd h (by decide)
    ·
     split
     ·
      intro h; exact absurd h (by decide)
     ·
      intro _; omega
   refine Wp.optF (b8G due) ?_
   refine ⟨_, rfl, _, rfl, ?_⟩
   rw [E]
   refine (d6R _ _).trans ?_
   constructor
   ·
    intro hb
    have hb : I.eqb since (I.of .u64 0) = decide (due.val = 0) := hb
    refine ⟨h, h2, ?_⟩
    constructor
    ·
     intro h0
     have : I.eqb since (I.of .u64 0) = true := iff_eqb.2 h0
     exact of_decide_eq_true (hb.symm.trans this)
    ·
     intro h0
     have : I.eqb since (I.of .u64 0) = true := hb.trans (decide_eq_true h0)
     exact iff_eqb.1 this
   ·
    rintro ⟨_, _, h3⟩
    by_cases h0 : due.val = 0
    ·
     exact (iff_eqb.2 (h3.2 h0)).trans (decide_eq_true h0).symm
    ·
     exact (niff_eqb.2 (fun e => h0 (h3.1 e))).trans (decide_eq_false h0).symm
  ·
   have h2 : due.val + paid.val ≠ costs.val + rewards.val := by
    intro e
    refine (niff_eqb.1 h2) ?_
    show (c1F _ _).val = (0 : Int)
    unfold c1F
    rw [if_neg (by omega), if_neg (by omega)]
    rfl
   exact ⟨_, rfl, false, rfl, by rw [E]; simp [h2]⟩
 ·
  have h : ad.val = 0 := niff_neb.1 h
  exact ⟨_, rfl, false, rfl, by rw [E]; simp [h]⟩
end Sym

/- Tables of posters: both programs' Valid and Find. -/
namespace Sym
open Go
def TabTo (l : List Post) (i : Nat) : Prop := ∀ k, k < i → a9Y (rdL dP l k) ∧ (0 < k → (Post.addr (rdL dP l (k - 1))).val < (Post.addr (rdL dP l k)).val)
theorem TabTo.succ {l : List Post} {i : Nat} (h : TabTo l i) (h1 : a9Y (rdL dP l i)) (h2 : 0 < i → (Post.addr (rdL dP l (i - 1))).val < (Post.addr (rdL dP l i)).val) : TabTo l (i + 1) := by
 intro k hk
 rcases (by omega : k < i ∨ k = i) with h3 | rfl
 ·
  exact h k h3
 ·
  exact ⟨h1, h2⟩
theorem c1J {l : List Post} {i : Nat} (hi : i < l.length) (h : ¬ (a9Y (rdL dP l i) ∧ (0 < i → (Post.addr (rdL dP l (i - 1))).val < (Post.addr (rdL dP l i)).val))) : b0Q l = false := tabB_f.2 fun ht => h (ht.2 i hi)
theorem b2V {l : List Post} (hl : l.length ≤ 1073741824) : a2Y ((l, ()), ()) = some ((b0Q l, ()), ()) := by
 refine Wp.out (T := fun o => o = some ((b0Q l, ()), ())) ?_
 unfold a2Y
 simp only [a4W, a4I, a7U, a7Z]
 refine Wp.brn (fun hc => ?_) (fun hc => ?_)
 ·
  have hc := iff_ltb.1 hc
  rw [a1D (by omega), show (I.of .i64 64).val = 64 from rfl] at hc
  have : b0Q l = false := tabB_f.2 fun ht => by have := ht.1; omega
  rw [this]
  rfl
 ·
  have hc := niff_ltb.1 hc
  rw [a1D (by omega), show (I.of .i64 64).val = 64 from rfl] at hc
  have h64 : l.length ≤ 64 := by omega
  refine Wp.iter (fun s => ∃ i, s = ((l, (i6 i, ())), ()) ∧ i ≤ l.length ∧ TabTo l i) (fun s => l.length - s.1.2.1.val.toNat) ?_ ⟨0, rfl, by omega, fun k hk => by omega⟩ ?_
  ·
   rintro s ⟨i, rfl, hi, ht⟩
   simp only [a5U (show i < 9223372036854775808 by omega) (show l.length < 9223372036854775808 by omega), a5U (show 0 < 9223372036854775808 by omega) (show i < 9223372036854775808 by omega), a3H (show i < 9223372036854775808 by omega), a5W (show i + 1 < 9223372036854775808 by omega)]
   refine Wp.brn (fun hc => ?_) (fun hc => ?_)
   ·
    have hc := of_decide_eq_true hc
    have hm : l.length - (i6 (i + 1)).val.toNat < l.length - (i6 i).val.toNat := by rw [a1D (by omega), a1D (by omega)]; omega
    have bi : inB (i6 i) l.length = true := a3F (by omega) (by omega)
    refine Wp.brnT bi ?_
    refine Wp.call (c6I _) ?_
    rintro _ ⟨b, rfl, hb⟩
    refine Wp.brn (fun h => ?_) (fun h => ?_)
    ·
     have hbf : b = false := by cases b with | false => rfl | true => exact absurd h (by decide)
     refine Wp.done ?_
     rw [c1J hc fun h2 => by have := hb.2 h2.1; rw [hbf] at this; cases this]
     rfl
    ·
     have hbt : b = true := by cases b with | true => rfl | false => exact absurd h (by decide)
     have hE := hb.1 hbt
     refine Wp.brn (fun h0 => ?_) (fun h0 => ?_)
     ·
      have h0 := of_decide_eq_true h0
      simp only [c4V (show i < 9223372036854775808 by omega) (show 1 ≤ i by omega), a3H (show i - 1 < 9223372036854775808 by omega)]
      refine Wp.brnT bi (Wp.brnT (a3F (by omega) (by omega)) ?_)
      refine Wp.brn (fun hl => ?_) (fun hl => ?_)
      ·
       have hl := iff_leb.1 hl
       refine Wp.done ?_
       rw [c1J hc fun h2 => by have := h2.2 h0; exact absurd this (Int.not_lt.2 hl)]
       rfl
      ·
       have hl := niff_leb.1 hl
       exact Wp.again ⟨i + 1, rfl, by omega, ht.succ hE fun _ => hl⟩ hm
     ·
      have h0 := of_decide_eq_false h0
      exact Wp.again ⟨i + 1, rfl, by omega, ht.succ hE fun h => by omega⟩ hm
   ·
    have hc := of_decide_eq_false hc
    refine Wp.done ?_
    rw [tabB_t.2 ⟨h64, fun k hk => ht k (by omega)⟩]
    rfl
  ·
   rw [a5J]
   show l.length - _ < _
   omega
theorem b5K {l : List Post} (hl : l.length ≤ 1073741824) : a5C ((l, ()), ()) = some ((b0Q l, ()), ()) := by
 refine Wp.out (T := fun o => o = some ((b0Q l, ()), ())) ?_
 unfold a5C
 simp only [a4W, a4I, a7U, a7Z]
 refine Wp.iter (fun s => ∃ i, s = ((l, (l, (i6 l.length, (i6 i, ())))), ()) ∧ i ≤ l.length ∧ TabTo l i) (fun s => l.length - s.1.2.2.2.1.val.toNat) ?_ ⟨0, rfl, by omega, fun k hk => by omega⟩ ?_
 ·
  rintro s ⟨i, rfl, hi, ht⟩
  simp only [a5U (show i < 9223372036854775808 by omega) (show l.length < 9223372036854775808 by omega), a5U (show 0 < 9223372036854775808 by omega) (show i < 9223372036854775808 by omega), a3H (show i < 9223372036854775808 by omega), a5W (show i + 1 < 9223372036854775808 by omega)]
  refine Wp.brn (fun hc => ?_) (fun hc => ?_)
  ·
   have hc := of_decide_eq_true hc
   have hm : l.length - (i6 (i + 1)).val.toNat < l.length - (i6 i).val.toNat := by rw [a1D (by omega), a1D (by omega)]; omega
   have bi : inB (i6 i) l.length = true := a3F (by omega) (by omega)
   refine Wp.brnT bi ?_
   have hEq : a9Y (rdL dP l i) ↔ ((Post.addr (rdL dP l i)).val ≠ 0 ∧ (Post.due (rdL dP l i)).val + (Post.paid (rdL dP l i)).val = (Post.costs (rdL dP l i)).val + (Post.rewards (rdL dP l i)).val ∧ ((Post.since (rdL dP l i)).val = 0 ↔ (Post.due (rdL dP l i)).val = 0)) := Iff.rfl
   refine Wp.jn (fun s => ∃ b1 b2 b3 n, s = ((l, (l, (i6 l.length, (i6 i, (n, (b1, (b2, (b3, ())))))))), (rdL dP l i, ())) ∧ (Post.addr (rdL dP l i)).val ≠ 0 ∧ (0 < i → (Post.addr (rdL dP l (i - 1))).val < (Post.addr (rdL dP l i)).val)) ?_ ?_
   ·
    rintro s ⟨b1, b2, b3, n, rfl, ha, hlt⟩
    refine Wp.call (b9W _ _) ?_
    rintro _ ⟨s1, rfl, e1⟩
    refine Wp.call (b9W _ _) ?_
    rintro _ ⟨s2, rfl, e2⟩
    have e1 : e9M s1 = (Post.due (rdL dP l i)).val + (Post.paid (rdL dP l i)).val := e1
    have e2 : e9M s2 = (Post.costs (rdL dP l i)).val + (Post.rewards (rdL dP l i)).val := e2
    have hs : Ty.eqb (.arr 5 (.int .u64)) s1 s2 = true ↔ s1 = s2 := d4U (.arr 5 (.int .u64)) rfl s1 s2
    refine Wp.brn (fun h => ?_) (fun h => ?_)
    ·
     have h : ¬ s1 = s2 := fun e => by
      have e3 := hs.2 e
      have : a2R (Ty.eqb (.arr 5 (.int .u64)) s1 s2) = true := h
      rw [e3] at this
      cases this
     refine Wp.done ?_
     rw [c1J hc fun h2 => h (e4Q (by rw [e1, e2]; exact (hEq.1 h2.1).2.1))]
     rfl
    ·
     have h : s1 = s2 := hs.1 (by
      have : a2R (Ty.eqb (.arr 5 (.int .u64)) s1 s2) = false := h
      revert this
      cases Ty.eqb (.arr 5 (.int .u64)) s1 s2 <;> simp [a2R])
     have h5 : (Post.due (rdL dP l i)).val + (Post.paid (rdL dP l i)).val = (Post.costs (rdL dP l i)).val + (Post.rewards (rdL dP l i)).val := by rw [← e1, ← e2, h]
     refine Wp.optF (b0P _) ?_
     have hz : Ty.eqb .bool (I.eqb (Post.since (rdL dP l i)) (I.of .u64 0)) (decide ((Post.due (rdL dP l i)).val = 0)) = true ↔ ((Post.since (rdL dP l i)).val = 0 ↔ (Post.due (rdL dP l i)).val = 0) := by
      rw [d6R]
      constructor
      ·
       intro hb
       constructor
       ·
        intro h0
        exact of_decide_eq_true (hb.symm.trans (iff_eqb.2 h0))
       ·
        intro h0
        exact iff_eqb.1 (hb.trans (decide_eq_true h0))
      ·
       intro h3
       by_cases h0 : (Post.due (rdL dP l i)).val = 0
       ·
        exact (iff_eqb.2 (h3.2 h0)).trans (decide_eq_true h0).symm
       ·
        exact (niff_eqb.2 (fun e => h0 (h3.1 e))).trans (decide_eq_false h0).symm
     refine Wp.brn (fun h => ?_) (fun h => ?_)
     ·
      refine Wp.done ?_
      rw [c1J hc fun h2 => by
       have e3 := hz.2 (hEq.1 h2.1).2.2
       have : a2R (Ty.eqb .bool (I.eqb (Post.since (rdL dP l i)) (I.of .u64 0)) (decide ((Post.due (rdL dP l i)).val = 0))) = true := h
       rw [e3] at this
       cases this]
      rfl
     ·
      have h6 := hz.1 (by
       have : a2R (Ty.eqb .bool (I.eqb (Post.since (rdL dP l i)) (I.of .u64 0)) (decide ((Post.due (rdL dP l i)).val = 0))) = false := h
       revert this
       cases Ty.eqb .bool (I.eqb (Post.since (rdL dP l i)) (I.of .u64 0)) (decide ((Post.due (rdL dP l i)).val = 0)) <;> simp [a2R])
      simp only [a5W (show i + 1 < 9223372036854775808 by omega)]
      exact Wp.again ⟨i + 1, rfl, by omega, ht.succ (hEq.2 ⟨ha, h5, h6⟩) hlt⟩ hm
   ·
    intro j hj
    refine Wp.brn (fun h => ?_) (fun h => ?_)
    ·
     have h := iff_eqb.1 h
     refine Wp.done ?_
     rw [c1J hc fun h2 => (hEq.1 h2.1).1 h]
     rfl
    ·
     have ha := niff_eqb.1 h
     refine Wp.brn (fun h0 => ?_) (fun h0 => ?_)
     ·
      have h0 := of_decide_eq_true h0
      simp only [c4V (show i < 9223372036854775808 by omega) (show 1 ≤ i by omega), a3H (show i - 1 < 9223372036854775808 by omega)]
      refine Wp.brnT (a3F (by omega) (by omega)) ?_
      refine Wp.brn (fun hl => ?_) (fun hl => ?_)
      ·
       have hl := iff_leb.1 hl
       refine Wp.done ?_
       rw [c1J hc fun h2 => by have := h2.2 h0; exact absurd this (Int.not_lt.2 hl)]
       rfl
      ·
       have hl := niff_leb.1 hl
       exact hj _ ⟨_, _, _, _, rfl, ha, fun _ => hl⟩
     ·
      have h0 := of_decide_eq_false h0
      exact hj _ ⟨_, _, _, _, rfl, ha, fun h => by omega⟩
  ·
   have hc := of_decide_eq_false hc
   refine Wp.done ?_
   have e : I.leb (i6 l.length) (I.of .i64 64) = b0Q l := by
    by_cases h64 : l.length ≤ 64
    ·
     rw [tabB_t.2 ⟨h64, fun k hk => ht k (by omega)⟩]
     exact iff_leb.2 (by rw [a1D (by omega), show (I.of .i64 64).val = 64 from rfl]; omega)
    ·
     rw [tabB_f.2 fun h => h64 h.1]
     exact niff_leb.2 (by rw [a1D (by omega), show (I.of .i64 64).val = 64 from rfl]; omega)
   rw [← e]
   rfl
 ·
  rw [a5J]
  show l.length - _ < _
  omega
def atN (l : List Post) (a : I .u64) : Nat := l.findIdx fun p => I.eqb (Post.addr p) a
def atI (l : List Post) (a : I .u64) : I .i64 := if atN l a < l.length then i6 (atN l a) else I.of .i64 (-1)
theorem e3J {l : List Post} {a : I .u64} {i : Nat} (hi : i < l.length) (h1 : I.eqb (Post.addr (rdL dP l i)) a = true) (h2 : ∀ k, k < i → I.eqb (Post.addr (rdL dP l k)) a = false) : atN l a = i := by
 unfold atN
 rw [List.findIdx_eq hi]
 refine ⟨by rw [← a3Z dP l i hi]; exact h1, fun k hk => ?_⟩
 rw [← a3Z dP l k (by omega)]
 exact h2 k hk
theorem d5Q {l : List Post} {a : I .u64} (h2 : ∀ k, k < l.length → I.eqb (Post.addr (rdL dP l k)) a = false) : atN l a = l.length := by
 unfold atN
 rw [List.findIdx_eq_length]
 intro x hx
 obtain ⟨k, hk, rfl⟩ := b9K dP hx
 exact h2 k hk
theorem b6B {l : List Post} (a : I .u64) (hl : l.length ≤ 1073741824) : a3S ((l, (a, ())), ()) = some ((atI l a, ()), ()) := by
 refine Wp.out (T := fun o => o = some ((atI l a, ()), ())) ?_
 unfold a3S
 simp only [a4W, a4I, a7U, a7Z]
 refine Wp.iter (fun s => ∃ i, s = ((l, (a, (i6 i, ()))), ()) ∧ i ≤ l.length ∧ ∀ k, k < i → I.eqb (Post.addr (rdL dP l k)) a = false) (fun s => l.length - s.1.2.2.1.val.toNat) ?_ ⟨0, rfl, by omega, fun k hk => by omega⟩ ?_
 ·
  rintro s ⟨i, rfl, hi, ht⟩
  simp only [a5U (show i < 9223372036854775808 by omega) (show l.length < 9223372036854775808 by omega), a3H (show i < 9223372036854775808 by omega), a5W (show i + 1 < 9223372036854775808 by omega)]
  refine Wp.brn (fun hc => ?_) (fun hc => ?_)
  ·
   have hc := of_decide_eq_true hc
   refine Wp.brnT (a3F (by omega) (by omega)) ?_
   refine Wp.brn (fun h => ?_) (fun h => ?_)
   ·
    refine Wp.done ?_
    have e := e3J hc h ht
    unfold atI
    rw [e, if_pos hc]
    rfl
   ·
    refine Wp.again ⟨i + 1, rfl, by omega, fun k hk => ?_⟩ (by show l.length - (i6 (i + 1)).val.toNat < l.length - (i6 i).val.toNat; rw [a1D (by omega), a1D (by omega)]; omega)
    rcases (by omega : k < i ∨ k = i) with h3 | rfl
    ·
     exact ht k h3
    ·
     exact h
  ·
   have hc := of_decide_eq_false hc
   refine Wp.done ?_
   have e := d5Q fun k hk => ht k (by omega)
   unfold atI
   rw [if_neg (by omega)]
   rfl
 ·
  rw [a5J]
  show l.length - _ < _
  omega
theorem c3H {l : List Post} (a : I .u64) (hl : l.length ≤ 1073741824) : a6Y ((l, (a, ())), ()) = some ((atI l a, ()), ()) := by
 refine Wp.out (T := fun o => o = some ((atI l a, ()), ())) ?_
 unfold a6Y
 simp only [a4W, a4I, a7U, a7Z]
 refine Wp.iter (fun s => ∃ i, s = ((l, (((), ()), (i6 l.length, (i6 i, ())))), (a, ())) ∧ i ≤ l.length ∧ ∀ k, k < i → I.eqb (Post.addr (rdL dP l k)) a = false) (fun s => l.length - s.1.2.2.2.1.val.toNat) ?_ ⟨0, rfl, by omega, fun k hk => by omega⟩ ?_
 ·
  rintro s ⟨i, rfl, hi, ht⟩
  simp only [a5U (show i < 9223372036854775808 by omega) (show l.length < 9223372036854775808 by omega), a3H (show i < 9223372036854775808 by omega), a5W (show i + 1 < 9223372036854775808 by omega)]
  refine Wp.brn (fun hc => ?_) (fun hc => ?_)
  ·
   have hc := of_decide_eq_true hc
   refine Wp.brnT (a3F (by omega) (by omega)) ?_
   refine Wp.brn (fun h => ?_) (fun h => ?_)
   ·
    refine Wp.done ?_
    have e := e3J hc h ht
    unfold atI
    rw [e, if_pos hc]
    rfl
   ·
    refine Wp.again ⟨i + 1, rfl, by omega, fun k hk => ?_⟩ (by show l.length - (i6 (i + 1)).val.toNat < l.length - (i6 i).val.toNat; rw [a1D (by omega), a1D (by omega)]; omega)
    rcases (by omega : k < i ∨ k = i) with h3 | rfl
    ·
     exact ht k h3
    ·
     exact h
  ·
   have hc := of_decide_eq_false hc
   refine Wp.done ?_
   have e := d5Q fun k hk => ht k (by omega)
   unfold atI
   rw [if_neg (by omega)]
   rfl
 ·
  rw [a5J]
  show l.length - _ < _
  omega
end Sym
