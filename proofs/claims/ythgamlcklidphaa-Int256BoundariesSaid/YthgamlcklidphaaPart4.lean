/- Signed numbers: what the reference's functions compute; two laws. -/
import Derived.Test.YthgamlcklidphaaProg
import Derived.Test.YthgamlcklidphaaPart3
import Derived.Test.YthgamlcklidphaaPart2
namespace Sym
open Go

abbrev SB : Type := Bool × List Dg × Unit
/-- s is the whole number z. -/
structure IsSB (s : SB) (z : Int) : Prop where
  neg : s.1 = decide (z < 0)
  abs : IsB s.2.1 z.natAbs

def Bd (n : Nat) : Prop := n < 65536 ^ 64

theorem len_small' {l : List Dg} {n : Nat} (h : IsB l n) (k : Nat) (hn : n < 65536 ^ k) (hk : k ≤ 1000000) : l.length ≤ 1000000 := Nat.le_trans (h.len.2 hn) hk

theorem Bd.len {l : List Dg} {n : Nat} (h : IsB l n) (hb : Bd n) : l.length ≤ 1000000 := len_small' h 64 hb (by decide)
theorem Bd.of_top {n : Nat} (h : n < U.top) : Bd n := Nat.lt_trans h (by decide)
theorem Bd.of_two {n : Nat} (h : n < U.top + U.top) : Bd n := Nat.lt_trans h (by decide)
theorem Bd.of_sq {n : Nat} (h : n < U.top * U.top) : Bd n := Nat.lt_trans h (by decide)

theorem len_pos {l : List Dg} {n : Nat} (h : IsB l n) : 0 < l.length ↔ n ≠ 0 := by
  have := h.len (k := 0)
  rw [Nat.pow_zero] at this
  omega

theorem sign_ok (n : Bool) {l : List Dg} {m : Nat} (h : IsB l m) (hl : l.length ≤ 1000000) : ∃ s : SB, pontageref3_sign ((n, l, ()), ()) = some ((s, ()), ()) ∧ IsSB s (sgn n m) := by
  have key : Wp (fun o => ∃ s : SB, o = some ((s, ()), ()) ∧ IsSB s (sgn n m)) (pontageref3_sign ((n, l, ()), ())) := by
    have hol : (I.ofNat .i64 (lenL l)).val = l.length := ofNat_i64 (by show l.length < _; omega)
    have c0 : (I.of .i64 0).val = 0 := rfl
    have hp := len_pos h
    unfold pontageref3_sign
    cases n with
    | false => exact Wp.brnF rfl ⟨_, rfl, (decide_eq_false (by unfold sgn; simp)).symm, by rw [sgn_abs]; exact h⟩
    | true =>
      refine Wp.brnT rfl ⟨_, rfl, ?_, by rw [sgn_abs]; exact h⟩
      show I.ltb (I.of .i64 0) (I.ofNat .i64 (lenL l)) = decide (sgn true m < 0)
      unfold I.ltb
      rw [c0, hol]
      have : ((0 : Int) < (l.length : Int)) ↔ sgn true m < 0 := by unfold sgn; simp; omega
      simp only [this]
  exact key.out

theorem FromInt_ok (x : S) : ∃ s : SB, pontageref3_FromInt256 ((x, ()), ()) = some ((s, ()), ()) ∧ IsSB s x.int := by
  have key : Wp (fun o => ∃ s : SB, o = some ((s, ()), ()) ∧ IsSB s x.int) (pontageref3_FromInt256 ((x, ()), ())) := by
    unfold pontageref3_FromInt256
    obtain ⟨l, hl, hB⟩ := FromUint256_ok x.2.1
    refine Wp.optF hl ?_
    obtain ⟨s, hs, hS⟩ := sign_ok x.1 hB (Bd.len hB (Bd.of_top (U.lt _)))
    exact Wp.optF hs ⟨s, rfl, hS⟩
  exact key.out

theorem RAdd_ok {s t : SB} {z w : Int} (hs : IsSB s z) (ht : IsSB t w) (hz : Bd z.natAbs) (hw : Bd w.natAbs) (hzw : Bd (z.natAbs + w.natAbs)) : ∃ r : SB, pontageref3_Add ((s, t, ()), ()) = some ((r, ()), ()) ∧ IsSB r (z + w) := by
  have key : Wp (fun o => ∃ r : SB, o = some ((r, ()), ()) ∧ IsSB r (z + w)) (pontageref3_Add ((s, t, ()), ())) := by
    obtain ⟨n, l, ⟨⟩⟩ := s
    obtain ⟨m, l2, ⟨⟩⟩ := t
    obtain ⟨h1, h2⟩ := hs
    obtain ⟨h3, h4⟩ := ht
    simp only at h1 h2 h3 h4
    have len1 := Bd.len h2 hz
    have len2 := Bd.len h4 hw
    unfold pontageref3_Add
    by_cases hnm : n = m
    · refine Wp.brnT (by show (n == m) = true; simp [hnm]) ?_
      obtain ⟨r, hr, hB⟩ := Add_ok h2 h4 len1 len2
      refine Wp.optF hr ?_
      obtain ⟨q, hq, hQ⟩ := sign_ok n hB (Bd.len hB hzw)
      refine Wp.optF hq ⟨q, rfl, ?_⟩
      have : sgn n (z.natAbs + w.natAbs) = z + w := by
        unfold sgn
        subst hnm
        rw [h1] at h3 ⊢
        by_cases hz0 : z < 0
        · have : w < 0 := by simpa [hz0] using h3
          simp [hz0]; omega
        · have : ¬ w < 0 := by simpa [hz0] using h3
          simp [hz0]; omega
      rw [← this]; exact hQ
    · refine Wp.brnF (by show (n == m) = false; simp [hnm]) ?_
      refine Wp.optF (Cmp_ok h2 h4 len1 len2) ?_
      have hne : ¬ (decide (z < 0) = decide (w < 0)) := by rw [← h1, ← h3]; exact hnm
      by_cases hlt : z.natAbs < w.natAbs
      · refine Wp.brnF (by show I.leb (I.of .i64 0) (cmpN _ _) = false; unfold cmpN; rw [if_pos hlt]; rfl) ?_
        obtain ⟨r, hr, hB⟩ := Sub_ok h4 h2 (by omega) len2
        refine Wp.optF hr ?_
        obtain ⟨q, hq, hQ⟩ := sign_ok m hB (Bd.len hB (Nat.lt_of_le_of_lt (Nat.sub_le _ _) hw))
        refine Wp.optF hq ⟨q, rfl, ?_⟩
        have : sgn m (w.natAbs - z.natAbs) = z + w := by
          unfold sgn
          rw [h3]
          by_cases hw0 : w < 0
          · have : ¬ z < 0 := by simpa [hw0] using hne
            simp [hw0]; omega
          · have : z < 0 := by simpa [hw0] using hne
            simp [hw0]; omega
        rw [← this]; exact hQ
      · refine Wp.brnT (by show I.leb (I.of .i64 0) (cmpN _ _) = true; unfold cmpN; rw [if_neg hlt]; split <;> rfl) ?_
        obtain ⟨r, hr, hB⟩ := Sub_ok h2 h4 (by omega) len1
        refine Wp.optF hr ?_
        obtain ⟨q, hq, hQ⟩ := sign_ok n hB (Bd.len hB (Nat.lt_of_le_of_lt (Nat.sub_le _ _) hz))
        refine Wp.optF hq ⟨q, rfl, ?_⟩
        have : sgn n (z.natAbs - w.natAbs) = z + w := by
          unfold sgn
          rw [h1]
          by_cases hz0 : z < 0
          · have : ¬ w < 0 := by simpa [hz0] using hne
            simp [hz0]; omega
          · have : w < 0 := by simpa [hz0] using hne
            simp [hz0]; omega
        rw [← this]; exact hQ
  exact key.out

theorem RNegate_ok {s : SB} {z : Int} (hs : IsSB s z) (hz : Bd z.natAbs) : ∃ r : SB, pontageref3_Negate ((s, ()), ()) = some ((r, ()), ()) ∧ IsSB r (-z) := by
  have key : Wp (fun o => ∃ r : SB, o = some ((r, ()), ()) ∧ IsSB r (-z)) (pontageref3_Negate ((s, ()), ())) := by
    unfold pontageref3_Negate
    obtain ⟨q, hq, hQ⟩ := sign_ok (!s.1) hs.abs (Bd.len hs.abs hz)
    refine Wp.optF hq ⟨q, rfl, ?_⟩
    have : sgn (!s.1) z.natAbs = -z := by
      rw [hs.neg]
      unfold sgn
      by_cases h : z < 0
      · simp [h]; omega
      · simp [h]; omega
    rw [← this]; exact hQ
  exact key.out

theorem RChecked_ok {s : SB} {z : Int} (hs : IsSB s z) (hz : Bd z.natAbs) : pontageref3_Checked ((s, ()), ()) = some (((resS z).1, (resS z).2, ()), ()) := by
  refine Wp.out (T := fun o => o = some (((resS z).1, (resS z).2, ()), ())) ?_
  unfold pontageref3_Checked
  refine Wp.optF (Checked_ok' hs.abs (Bd.len hs.abs hz)) ?_
  unfold errS
  by_cases h : z.natAbs < U.top
  · rw [if_pos h, resS_lt h]
    refine Wp.brnF rfl ?_
    show some (((s.1, U.of z.natAbs, ()), I.of .i64 0, ()), ()) = some ((((decide (z < 0), U.of z.natAbs, ()) : S), I.of .i64 0, ()), ())
    rw [hs.neg]
  · rw [if_neg h, resS_ge (by omega)]
    exact Wp.brnT rfl rfl

theorem IsZero_eq (a : U) : pontageref1_IsZero ((a, ()), ()) = some ((decide (a.val = 0), ()), ()) := by
  refine Wp.out (T := fun o => o = some ((decide (a.val = 0), ()), ())) ?_
  unfold pontageref1_IsZero
  show some ((Ty.eqb (.arr 4 (.int .u64)) a (I.of .u64 0, I.of .u64 0, I.of .u64 0, I.of .u64 0, ()), ()), ()) = _
  rw [eqz]

theorem RValid_eq (x : S) : pontageref3_Valid ((x, ()), ()) = some ((validB x, ()), ()) := by
  obtain ⟨n, a, ⟨⟩⟩ := x
  refine Wp.out (T := fun o => o = some ((validB (n, a, ()), ()), ())) ?_
  unfold pontageref3_Valid
  cases n with
  | false => exact Wp.brnF rfl rfl
  | true => exact Wp.brnT rfl (Wp.optF (IsZero_eq a) rfl)

theorem RDiff_eq (a b : U) : pontageref3_Diff ((a, b, ()), ()) = some ((S.of ((a.val : Int) - b.val), ()), ()) := by
  have ha := a.lt
  have hb := b.lt
  refine Wp.out (T := fun o => o = some ((S.of ((a.val : Int) - b.val), ()), ())) ?_
  unfold pontageref3_Diff
  obtain ⟨l, hl, hB⟩ := FromUint256_ok a
  refine Wp.optF hl ?_
  obtain ⟨s, hs, hS⟩ := sign_ok false hB (Bd.len hB (Bd.of_top ha))
  refine Wp.optF hs ?_
  obtain ⟨l2, hl2, hB2⟩ := FromUint256_ok b
  refine Wp.optF hl2 ?_
  obtain ⟨s2, hs2, hS2⟩ := sign_ok true hB2 (Bd.len hB2 (Bd.of_top hb))
  refine Wp.optF hs2 ?_
  have e1 : sgn false a.val = (a.val : Int) := rfl
  have e2 : sgn true b.val = -(b.val : Int) := rfl
  rw [e1] at hS
  rw [e2] at hS2
  obtain ⟨r, hr, hR⟩ := RAdd_ok hS hS2 (Bd.of_top (by omega)) (Bd.of_top (by omega)) (Bd.of_two (by omega))
  refine Wp.optF hr ?_
  rw [show (a.val : Int) + -(b.val : Int) = (a.val : Int) - b.val by omega] at hR
  refine Wp.optF (RChecked_ok hR (Bd.of_top (by omega))) ?_
  rw [resS_lt (by omega)]
  rfl

theorem RClamp_eq (a : U) (y : S) : pontageref3_AddClamped ((a, y, ()), ()) = some (((clampS a y).1, (clampS a y).2, ()), ()) := by
  have ha := a.lt
  have hy := y.lt
  refine Wp.out (T := fun o => o = some (((clampS a y).1, (clampS a y).2, ()), ())) ?_
  unfold pontageref3_AddClamped clampS
  refine Wp.optF (RValid_eq y) ?_
  cases h1 : validB y with
  | false => exact Wp.brnT rfl rfl
  | true =>
    rw [if_pos rfl]
    refine Wp.brnF rfl ?_
    obtain ⟨l, hl, hB⟩ := FromUint256_ok a
    refine Wp.optF hl ?_
    obtain ⟨s, hs, hS⟩ := sign_ok false hB (Bd.len hB (Bd.of_top ha))
    refine Wp.optF hs ?_
    obtain ⟨s2, hs2, hS2⟩ := FromInt_ok y
    refine Wp.optF hs2 ?_
    have e1 : sgn false a.val = (a.val : Int) := rfl
    rw [e1] at hS
    obtain ⟨r, hr, hR⟩ := RAdd_ok hS hS2 (Bd.of_top (by omega)) (Bd.of_top (by omega)) (Bd.of_two (by omega))
    refine Wp.optF hr ?_
    by_cases hz : (a.val : Int) + y.int < 0
    · rw [if_pos hz]
      refine Wp.brnT (by show r.1 = true; rw [hR.neg]; exact decide_eq_true hz) rfl
    · rw [if_neg hz]
      refine Wp.brnF (by show r.1 = false; rw [hR.neg]; exact decide_eq_false hz) ?_
      have hb : Bd ((a.val : Int) + y.int).natAbs := Bd.of_two (by omega)
      refine Wp.optF (Checked_ok' hR.abs (Bd.len hR.abs hb)) ?_
      rw [show ((a.val : Int) + y.int).natAbs = ((a.val : Int) + y.int).toNat by omega]
      rfl

theorem diff_law (a b : U) (c : S) : pontagelaw3_Int256DiffAddClamped ((a, b, c, ()), ()) = some ((true, ()), ()) := by
  refine Wp.out (T := fun o => o = some ((true, ()), ())) ?_
  unfold pontagelaw3_Int256DiffAddClamped
  refine Wp.optF (AddClamped_eq a c) (Wp.optF (RClamp_eq a c) (Wp.optF (Diff_eq a b) (Wp.optF (RDiff_eq a b) ?_)))
  refine Wp.brnT (eqbS_self _) (Wp.brnT (eqb_self' _) (Wp.brnT (by simp [I.eqb]) ?_))
  exact Wp.optF awake3 rfl
end Sym

/- Signed numbers: the laws of order, negation and algebra. -/
namespace Sym
open Go

theorem cmpZ_t {x y : S} (h1 : validB x = true) (h2 : validB y = true) : cmpZ x y = cmpI x.int y.int := by unfold cmpZ; rw [h1, h2]; rfl

theorem RCmp_eq (x y : S) : pontageref3_Cmp ((x, y, ()), ()) = some ((cmpZ x y, ()), ()) := by
  refine Wp.out (T := fun o => o = some ((cmpZ x y, ()), ())) ?_
  unfold pontageref3_Cmp
  refine Wp.jn (fun s => s.2.1 = x ∧ s.2.2.1 = y ∧ validB x = true ∧ validB y = true) ?_ ?_
  · rintro ⟨⟨⟩, x', y', ⟨⟩⟩ ⟨e1, e2, h1, h2⟩
    simp only at e1 e2
    subst e1 e2
    have hx := S.lt x'
    have hy := S.lt y'
    rw [cmpZ_t h1 h2]
    obtain ⟨s, hs, hS⟩ := FromInt_ok x'
    obtain ⟨t, ht, hT⟩ := FromInt_ok y'
    refine Wp.optF hs (Wp.optF ht ?_)
    obtain ⟨t2, ht2, hT2⟩ := RNegate_ok hT (Bd.of_top hy)
    refine Wp.optF ht2 ?_
    obtain ⟨r, hr, hR⟩ := RAdd_ok hS hT2 (Bd.of_top hx) (Bd.of_top (by omega)) (Bd.of_two (by omega))
    refine Wp.optF hr ?_
    have hb : Bd (S.int x' + -S.int y').natAbs := Bd.of_two (by omega)
    have hlen := Bd.len hR.abs hb
    have hol : (I.ofNat .i64 (lenL r.2.1)).val = r.2.1.length := ofNat_i64 (by show r.2.1.length < _; omega)
    have c0 : (I.of .i64 0).val = 0 := rfl
    have hp := len_pos hR.abs
    unfold cmpI
    by_cases h : S.int x' < S.int y'
    · rw [if_pos h]
      exact Wp.brnT (by show r.1 = true; rw [hR.neg]; exact decide_eq_true (by omega)) rfl
    · rw [if_neg h]
      refine Wp.brnF (by show r.1 = false; rw [hR.neg]; exact decide_eq_false (by omega)) ?_
      by_cases h2 : S.int y' < S.int x'
      · rw [if_pos h2]
        refine Wp.brnT (iff_ltb.2 ?_) rfl
        have : 0 < r.2.1.length := hp.2 (by omega)
        show (I.of .i64 0).val < (I.ofNat .i64 (lenL r.2.1)).val
        omega
      · rw [if_neg h2]
        refine Wp.brnF (niff_ltb.2 ?_) rfl
        have : ¬ 0 < r.2.1.length := fun hh => hp.1 hh (by omega)
        show (I.ofNat .i64 (lenL r.2.1)).val ≤ (I.of .i64 0).val
        omega
  · intro j hj
    refine Wp.optF (RValid_eq x) ?_
    cases h1 : validB x with
    | false => unfold cmpZ; rw [h1]; exact Wp.brnT rfl rfl
    | true =>
      refine Wp.brnF rfl ?_
      refine Wp.optF (RValid_eq y) ?_
      cases h2 : validB y with
      | false => unfold cmpZ; rw [h2]; refine Wp.brnT rfl ?_; rw [Bool.and_false]; rfl
      | true => exact Wp.brnF rfl (hj _ ⟨rfl, rfl, h1, h2⟩)

theorem RFrom_eq (n : I .i64) : pontageref3_FromInt64 ((n, ()), ()) = some ((S.of n.val, ()), ()) := by
  refine Wp.out (T := fun o => o = some ((S.of n.val, ()), ())) ?_
  unfold pontageref3_FromInt64
  have c0 : (I.of .i64 0).val = 0 := rfl
  refine Wp.brn (fun h => ?_) (fun h => ?_)
  · have h := iff_ltb.1 h
    have h : n.val < (I.of .i64 0).val := h
    have := u64U_of _ _ (abs64 n (by omega))
    refine (congrArg (fun z : U => some (((true, z, ()), ()), ())) this).trans ?_
    unfold S.of
    rw [decide_eq_true (show n.val < 0 by omega)]
  · have h := niff_ltb.1 h
    have h : (I.of .i64 0).val ≤ n.val := h
    have := u64U_of _ _ (conv64 n (by omega))
    refine (congrArg (fun z : U => some (((false, z, ()), ()), ())) this).trans ?_
    unfold S.of
    rw [decide_eq_false (show ¬ n.val < 0 by omega)]

theorem sof_abs (n : Bool) (b : U) : (S.of (sgn n b.val)).2.1 = b := by
  unfold S.of
  show U.of (sgn n b.val).natAbs = b
  rw [sgn_abs]; exact U.of_val b

theorem order_law (a b : S) (n : I .i64) (d : Bool) : pontagelaw3_Int256Order ((a, b, n, d, ()), ()) = some ((true, ()), ()) := by
  refine Wp.out (T := fun o => o = some ((true, ()), ())) ?_
  unfold pontagelaw3_Int256Order
  refine Wp.optF (Neg_eq a) ?_
  refine Wp.jn (fun s => s.1.1 = n ∧ s.1.2.1 = d ∧ s.2.1 = a ∧ s.2.2.1 = b) ?_ ?_
  · rintro ⟨⟨n', d', ⟨⟩⟩, a', b', ⟨⟩⟩ ⟨e1, e2, e3, e4⟩
    simp only at e1 e2 e3 e4
    subst e1 e2 e3 e4
    have hb := U.lt b'.2.1
    have hsb : (sgn d' (U.val b'.2.1)).natAbs < U.top := by rw [sgn_abs]; exact hb
    refine Wp.optF (New_eq d' b'.2.1) ?_
    refine Wp.optF (Valid_eq a') (Wp.optF (RValid_eq a') ?_)
    refine Wp.brnT (by show (validB a' == validB a') = true; simp) ?_
    refine Wp.optF (SCmp_eq a' b') (Wp.optF (RCmp_eq a' b') (Wp.brnT (by simp [I.eqb]) ?_))
    refine Wp.optF (SFrom_eq n') (Wp.optF (RFrom_eq n') (Wp.brnT (eqbS_self _) ?_))
    refine Wp.optF (Valid_eq (S.of (sgn d' (U.val b'.2.1)))) (Wp.brnT (S.of_valid hsb) ?_)
    refine Wp.brnT ?_ ?_
    · show Ty.eqb (.arr 4 (.int .u64)) (S.of (sgn d' (U.val b'.2.1))).2.1 b'.2.1 = true
      rw [sof_abs]; exact eqb_self' _
    cases d' with
    | true =>
      refine Wp.brnT rfl (Wp.brnT ?_ (Wp.optF awake3 rfl))
      show (decide (sgn true (U.val b'.2.1) < 0) == !(Ty.eqb (.arr 4 (.int .u64)) b'.2.1 (I.of .u64 0, I.of .u64 0, I.of .u64 0, I.of .u64 0, ()))) = true
      rw [eqz]
      by_cases h : U.val b'.2.1 = 0
      · rw [h]; rfl
      · rw [decide_eq_false h, decide_eq_true (show sgn true (U.val b'.2.1) < 0 by unfold sgn; simp; omega)]; rfl
    | false =>
      refine Wp.brnF rfl (Wp.brnT ?_ (Wp.optF awake3 rfl))
      show (decide (sgn false (U.val b'.2.1) < 0) == false) = true
      rw [decide_eq_false (show ¬ sgn false (U.val b'.2.1) < 0 by unfold sgn; simp)]; rfl
  · intro j1 hj1
    refine Wp.optF (RValid_eq a) ?_
    unfold negS
    cases hv : validB a with
    | true =>
      refine Wp.brnT rfl ?_
      rw [if_pos rfl]
      refine Wp.jn (fun s => s.1.1 = n ∧ s.1.2.1 = d ∧ s.1.2.2.1 = I.of .i64 0 ∧ s.2.1 = a ∧ s.2.2.1 = b ∧ s.2.2.2.1 = S.of (-a.int) ∧ s.2.2.2.2.1 = S.of (-a.int)) ?_ ?_
      · rintro ⟨⟨n', d', e, ⟨⟩⟩, a', b', x, w, ⟨⟩⟩ ⟨e1, e2, e3, e4, e5, e6, e7⟩
        simp only at e1 e2 e3 e4 e5 e6 e7
        subst e1 e2 e3 e4 e5 e6 e7
        refine Wp.brnF ?_ (Wp.brnF rfl (hj1 _ ⟨rfl, rfl, rfl, rfl⟩))
        show (!(Ty.eqb (.cons .bool (.cons (.arr 4 (.int .u64)) .nil)) (S.of (-S.int a')) (S.of (-S.int a')))) = false
        rw [eqbS_self]; rfl
      · intro j3 hj3
        obtain ⟨m, c, ⟨⟩⟩ := a
        have hwant : (((!m) && !decide (U.val c = 0)), c, ()) = S.of (-S.int (m, c, ())) := by
          have e : S.of (-S.int (m, c, ())) = S.of (sgn (!m) (U.val c)) := by congr 1; unfold S.int sgn; cases m <;> simp
          rw [e]
          unfold S.of
          rw [sgn_abs, U.of_val]
          cases m with
          | true => simp [sgn]
          | false =>
            by_cases h : U.val c = 0
            · rw [h]; rfl
            · rw [decide_eq_false h, decide_eq_true (show sgn (!false) (U.val c) < 0 by unfold sgn; simp; omega)]; rfl
        cases m with
        | false =>
          refine Wp.brnT rfl (hj3 _ ⟨rfl, rfl, rfl, rfl, rfl, rfl, ?_⟩)
          show ((!(Ty.eqb (.arr 4 (.int .u64)) c (I.of .u64 0, I.of .u64 0, I.of .u64 0, I.of .u64 0, ()))), c, ()) = _
          rw [← hwant, eqz]; rfl
        | true =>
          refine Wp.brnF rfl (hj3 _ ⟨rfl, rfl, rfl, rfl, rfl, rfl, ?_⟩)
          show ((false, c, ()) : S) = _
          rw [← hwant]; rfl
    | false =>
      exact Wp.brnF rfl (Wp.brnF rfl (Wp.brnF rfl (hj1 _ ⟨rfl, rfl, rfl, rfl⟩)))

theorem Neg_t {x : S} (h : validB x = true) : int256_Neg ((x, ()), ()) = some ((S.of (-x.int), I.of .i64 0, ()), ()) := by
  have := Neg_eq x
  unfold negS at this
  rw [h] at this
  exact this
theorem SAdd_t {x y : S} (h1 : validB x = true) (h2 : validB y = true) : int256_Add ((x, y, ()), ()) = some (((resS (x.int + y.int)).1, (resS (x.int + y.int)).2, ()), ()) := by
  have := SAdd_eq x y
  rw [binS_t h1 h2] at this
  exact this
theorem SSub_t {x y : S} (h1 : validB x = true) (h2 : validB y = true) : int256_Sub ((x, y, ()), ()) = some (((resS (x.int - y.int)).1, (resS (x.int - y.int)).2, ()), ()) := by
  have := SSub_eq x y
  rw [binS_t h1 h2] at this
  exact this
theorem SMul_t {x y : S} (h1 : validB x = true) (h2 : validB y = true) : int256_Mul ((x, y, ()), ()) = some (((resS (x.int * y.int)).1, (resS (x.int * y.int)).2, ()), ()) := by
  have := SMul_eq x y
  rw [binS_t h1 h2] at this
  exact this
theorem SCmp_t {x y : S} (h1 : validB x = true) (h2 : validB y = true) : int256_Cmp ((x, y, ()), ()) = some ((cmpI x.int y.int, ()), ()) := by
  have := SCmp_eq x y
  rw [cmpZ_t h1 h2] at this
  exact this

theorem resS_valid (z : Int) : validB (resS z).1 = true := by
  unfold resS
  split
  · rename_i h; exact S.of_valid h
  · rfl

theorem cmpI_neg (x y : Int) : cmpI (-x) (-y) = cmpI y x := by
  unfold cmpI
  rcases Int.lt_trichotomy x y with h | h | h
  · rw [if_neg (show ¬ -x < -y by omega), if_pos (show -y < -x by omega), if_neg (show ¬ y < x by omega), if_pos h]
  · rw [if_neg (show ¬ -x < -y by omega), if_neg (show ¬ -y < -x by omega), if_neg (show ¬ y < x by omega), if_neg (show ¬ x < y by omega)]
  · rw [if_pos (show -x < -y by omega), if_pos h]

theorem resS_code (z : Int) : (resS (-z)).2 = (resS z).2 := by
  unfold resS
  rw [Int.natAbs_neg]
  split <;> rfl

theorem negation_law (a b : S) : pontagelaw3_Int256Negation ((a, b, ()), ()) = some ((true, ()), ()) := by
  refine Wp.out (T := fun o => o = some ((true, ()), ())) ?_
  unfold pontagelaw3_Int256Negation
  refine Wp.jn (fun s => s.2.1 = a ∧ s.2.2.1 = b ∧ validB a = true ∧ validB b = true) ?_ ?_
  · rintro ⟨⟨⟩, x, y, ⟨⟩⟩ ⟨e1, e2, h1, h2⟩
    simp only at e1 e2
    subst e1 e2
    have hx := S.lt x
    have hy := S.lt y
    have vx : validB (S.of (-S.int x)) = true := S.of_valid (by omega)
    have vy : validB (S.of (-S.int y)) = true := S.of_valid (by omega)
    have ix : S.int (S.of (-S.int x)) = -S.int x := S.int_of (by omega)
    have iy : S.int (S.of (-S.int y)) = -S.int y := S.int_of (by omega)
    refine Wp.optF (Neg_t h1) (Wp.optF (Neg_t h2) (Wp.optF (SAdd_t h1 h2) ?_))
    have a4 := SAdd_t vx vy
    rw [ix, iy, show -S.int x + -S.int y = -(S.int x + S.int y) by omega] at a4
    refine Wp.optF a4 (Wp.optF (SMul_t h1 h2) ?_)
    have a6 := SMul_t vx h2
    rw [ix, Int.neg_mul] at a6
    refine Wp.optF a6 ?_
    refine Wp.optF (Neg_t (resS_valid _)) (Wp.optF (Neg_t (resS_valid _)) ?_)
    have hc := SCmp_t vx vy
    rw [ix, iy, cmpI_neg] at hc
    have hc2 := SCmp_t h2 h1
    generalize hzz : S.int x + S.int y = z
    generalize hww : S.int x * S.int y = w
    refine Wp.brnT rfl (Wp.brnT rfl ?_)
    refine Wp.brnT (by show I.eqb (resS z).2 (resS (-z)).2 = true; rw [resS_code]; simp [I.eqb]) ?_
    refine Wp.brnT (by show I.eqb (resS w).2 (resS (-w)).2 = true; rw [resS_code]; simp [I.eqb]) ?_
    have eqn : ∀ q : Int, q.natAbs < U.top → Ty.eqb (.cons .bool (.cons (.arr 4 (.int .u64)) .nil)) (resS (-q)).1 (S.of (-S.int (resS q).1)) = true := by
      intro q hq
      rw [resS_lt (show (-q).natAbs < U.top by omega), resS_lt hq]
      show Ty.eqb (.cons .bool (.cons (.arr 4 (.int .u64)) .nil)) (S.of (-q)) (S.of (-S.int (S.of q))) = true
      rw [S.int_of hq]; exact eqbS_self _
    have code : ∀ q : Int, q.natAbs < U.top → I.neb (resS q).2 (I.of .i64 0) = false := fun q hq => by rw [resS_lt hq]; rfl
    have code2 : ∀ q : Int, ¬ q.natAbs < U.top → I.neb (resS q).2 (I.of .i64 0) = true := fun q hq => by rw [resS_ge (by omega)]; rfl
    by_cases hz : z.natAbs < U.top
    · refine Wp.brnF (code z hz) (Wp.brnT (eqn z hz) ?_)
      by_cases hw : w.natAbs < U.top
      · exact Wp.brnF (code w hw) (Wp.brnT (eqn w hw) (Wp.optF hc (Wp.optF hc2 (Wp.brnT (by simp [I.eqb]) (Wp.optF awake3 rfl)))))
      · exact Wp.brnT (code2 w hw) (Wp.optF hc (Wp.optF hc2 (Wp.brnT (by simp [I.eqb]) (Wp.optF awake3 rfl))))
    · refine Wp.brnT (code2 z hz) ?_
      by_cases hw : w.natAbs < U.top
      · exact Wp.brnF (code w hw) (Wp.brnT (eqn w hw) (Wp.optF hc (Wp.optF hc2 (Wp.brnT (by simp [I.eqb]) (Wp.optF awake3 rfl)))))
      · exact Wp.brnT (code2 w hw) (Wp.optF hc (Wp.optF hc2 (Wp.brnT (by simp [I.eqb]) (Wp.optF awake3 rfl))))
  · intro j0 hj0
    refine Wp.jn (fun s => s.1.1 = (!(validB a && validB b)) ∧ s.2.1 = a ∧ s.2.2.1 = b) ?_ ?_
    · rintro ⟨⟨v, ⟨⟩⟩, x, y, ⟨⟩⟩ ⟨e1, e2, e3⟩
      simp only at e1 e2 e3
      subst e1 e2 e3
      cases h1 : validB x <;> cases h2 : validB y
      · exact Wp.brnT rfl (Wp.optF awake3 rfl)
      · exact Wp.brnT rfl (Wp.optF awake3 rfl)
      · exact Wp.brnT rfl (Wp.optF awake3 rfl)
      · exact Wp.brnF rfl (hj0 _ ⟨rfl, rfl, h1, h2⟩)
    · intro j1 hj1
      refine Wp.optF (Valid_eq a) ?_
      cases h1 : validB a with
      | false => exact Wp.brnT rfl (hj1 _ ⟨by rw [h1]; rfl, rfl, rfl⟩)
      | true => exact Wp.brnF rfl (Wp.optF (Valid_eq b) (hj1 _ ⟨by rw [h1]; rfl, rfl, rfl⟩))
end Sym

/- Signed numbers: the law of algebra. -/
namespace Sym
open Go

theorem top_u64 (c : I .u64) : c.nat < U.top := by
  have := nat_lt c
  have : U.top = 115792089237316195423570985008687907853269984665640564039457584007913129639936 := rfl
  omega

theorem DivFloor_t {x : S} (c : I .u64) (h : validB x = true) (hc : c.nat ≠ 0) : int256_DivFloor ((x, u64U c, ()), ()) = some ((S.of (x.int / (c.nat : Int)), I.of .i64 0, ()), ()) := by
  have := DivFloor_eq x (u64U c)
  unfold divFS at this
  rw [h, u64U_val, if_pos rfl, if_neg hc] at this
  exact this

theorem floor_abs (z : Int) (d : Nat) (hd : d ≠ 0) : (z / (d : Int)).natAbs ≤ z.natAbs := by
  have h1 := Int.mul_ediv_add_emod z d
  have h2 := Int.emod_nonneg z (b := (d : Int)) (by omega)
  have h3 := Int.emod_lt_of_pos z (b := (d : Int)) (by omega)
  rcases Int.lt_or_le z 0 with h | h
  · have h4 : z / (d : Int) < 0 := by
      rcases Int.lt_or_le (z / (d : Int)) 0 with h7 | h7
      · exact h7
      · have := Int.mul_nonneg (show (0 : Int) ≤ (d : Int) by omega) h7
        omega
    have h5 : z ≤ z / (d : Int) := by
      have : (d : Int) * (z / (d : Int)) ≤ 1 * (z / (d : Int)) := Int.mul_le_mul_of_nonpos_right (by omega) (by omega)
      have h6 : z - (z % d) = (d : Int) * (z / (d : Int)) := by omega
      rcases Int.lt_or_le (z / (d : Int)) z with h7 | h7
      · exfalso
        have : (d : Int) * (z / (d : Int) + 1) ≤ (d : Int) * z := Int.mul_le_mul_of_nonneg_left (by omega) (by omega)
        rw [Int.mul_add, Int.mul_one] at this
        have h8 : (d : Int) * z ≤ 1 * z := Int.mul_le_mul_of_nonpos_right (by omega) (by omega)
        omega
      · exact h7
    omega
  · have h4 : 0 ≤ z / (d : Int) := Int.ediv_nonneg h (by omega)
    have h5 : z / (d : Int) ≤ z := Int.ediv_le_self _ h
    omega

theorem algebra_law (a b : S) (c : I .u64) : pontagelaw3_Int256Algebra ((a, b, c, ()), ()) = some ((true, ()), ()) := by
  refine Wp.out (T := fun o => o = some ((true, ()), ())) ?_
  unfold pontagelaw3_Int256Algebra
  refine Wp.jn (fun s => s.1.1 = c ∧ s.2.1 = a ∧ s.2.2.1 = b ∧ validB a = true ∧ validB b = true) ?_ ?_
  · rintro ⟨⟨c', ⟨⟩⟩, x, y, ⟨⟩⟩ ⟨e0, e1, e2, h1, h2⟩
    simp only at e0 e1 e2
    subst e0 e1 e2
    have hx := S.lt x
    have hy := S.lt y
    refine Wp.optF (SSub_t h1 h2) ?_
    refine Wp.jn (fun s => s.1.1 = c' ∧ s.2.1 = x) ?_ ?_
    · rintro ⟨⟨c2, ⟨⟩⟩, x2, ⟨⟩⟩ ⟨e1, e2⟩
      simp only at e1 e2
      subst e1 e2
      have hcn := nat_val c2
      have z0 : (I.of .u64 0).val = 0 := rfl
      refine Wp.brn (fun _ => Wp.optF awake3 rfl) (fun hc => ?_)
      have hc := niff_eqb.1 hc
      have hc : c2.val ≠ (I.of .u64 0).val := hc
      have hc : c2.nat ≠ 0 := by omega
      refine Wp.optF (DivFloor_t c2 h1 hc) (Wp.brnF rfl ?_)
      refine Wp.optF (New_eq false (u64U c2)) ?_
      have eN : sgn false (u64U c2).val = (c2.nat : Int) := by rw [u64U_val]; rfl
      rw [eN]
      have hct := top_u64 c2
      have hq := floor_abs (S.int x2) c2.nat hc
      have vq : validB (S.of (S.int x2 / (c2.nat : Int))) = true := S.of_valid (by omega)
      have vc : validB (S.of (c2.nat : Int)) = true := S.of_valid (by omega)
      have hm := SMul_t vq vc
      rw [S.int_of (by omega), S.int_of (by omega)] at hm
      refine Wp.optF hm ?_
      have d1 := Int.mul_ediv_add_emod (S.int x2) (c2.nat : Int)
      have d2 := Int.emod_nonneg (S.int x2) (b := (c2.nat : Int)) (by omega)
      have d3 := Int.emod_lt_of_pos (S.int x2) (b := (c2.nat : Int)) (by omega)
      rw [Int.mul_comm] at d1
      by_cases ho : (S.int x2 / (c2.nat : Int) * (c2.nat : Int)).natAbs < U.top
      · rw [resS_lt ho]
        refine Wp.brnF rfl ?_
        have vp : validB (S.of (S.int x2 / (c2.nat : Int) * (c2.nat : Int))) = true := S.of_valid ho
        have hs := SSub_t h1 vp
        rw [S.int_of ho, show S.int x2 - S.int x2 / (c2.nat : Int) * (c2.nat : Int) = S.int x2 % (c2.nat : Int) by omega, resS_lt (by omega)] at hs
        refine Wp.optF hs (Wp.brnT rfl ?_)
        refine Wp.brnT ?_ ?_
        · show (!(decide (S.int x2 % (c2.nat : Int) < 0))) = true
          rw [decide_eq_false (by omega)]; rfl
        refine Wp.optF (New_eq false (u64U c2)) ?_
        rw [eN]
        have hcm := SCmp_t (S.of_valid (show (S.int x2 % (c2.nat : Int)).natAbs < U.top by omega)) vc
        rw [S.int_of (by omega), S.int_of (by omega)] at hcm
        refine Wp.optF hcm (Wp.brnT ?_ (Wp.optF awake3 rfl))
        show I.ltb (cmpI _ _) (I.of .i64 0) = true
        unfold cmpI
        rw [if_pos d3]; rfl
      · rw [resS_ge (by omega)]
        refine Wp.brnT rfl (Wp.brnT ?_ (Wp.optF awake3 rfl))
        show x2.1 = true
        have hneg : S.int x2 < 0 := by omega
        have : S.of (S.int x2) = x2 := S.of_int h1
        rw [← this]
        exact decide_eq_true hneg
    · intro j2 hj2
      by_cases hd : (S.int x - S.int y).natAbs < U.top
      · rw [resS_lt hd]
        refine Wp.brnT rfl ?_
        have vd : validB (S.of (S.int x - S.int y)) = true := S.of_valid hd
        have ha := SAdd_t vd h2
        rw [S.int_of hd, show S.int x - S.int y + S.int y = S.int x by omega, resS_lt hx, S.of_int h1] at ha
        refine Wp.optF ha (Wp.brnF rfl ?_)
        refine Wp.brnF ?_ ?_
        · show (!(Ty.eqb (.cons .bool (.cons (.arr 4 (.int .u64)) .nil)) x x)) = false
          rw [eqbS_self]; rfl
        refine Wp.optF (SCmp_t h1 h2) ?_
        refine Wp.brnF ?_ (hj2 _ ⟨rfl, rfl⟩)
        show (!(I.ltb (cmpI (S.int x) (S.int y)) (I.of .i64 0) == decide (S.int x - S.int y < 0))) = false
        unfold cmpI
        rcases Int.lt_trichotomy (S.int x) (S.int y) with h | h | h
        · rw [if_pos h, decide_eq_true (show S.int x - S.int y < 0 by omega)]; rfl
        · rw [if_neg (show ¬ S.int x < S.int y by omega), if_neg (show ¬ S.int y < S.int x by omega), decide_eq_false (show ¬ S.int x - S.int y < 0 by omega)]; rfl
        · rw [if_neg (show ¬ S.int x < S.int y by omega), if_pos h, decide_eq_false (show ¬ S.int x - S.int y < 0 by omega)]; rfl
      · rw [resS_ge (z := S.int x - S.int y) (by omega)]
        exact Wp.brnF rfl (hj2 _ ⟨rfl, rfl⟩)
  · intro j0 hj0
    refine Wp.jn (fun s => s.1.1 = c ∧ s.1.2.1 = (!(validB a && validB b)) ∧ s.2.1 = a ∧ s.2.2.1 = b) ?_ ?_
    · rintro ⟨⟨c', v, ⟨⟩⟩, x, y, ⟨⟩⟩ ⟨e0, e1, e2, e3⟩
      simp only at e0 e1 e2 e3
      subst e0 e1 e2 e3
      cases h1 : validB x <;> cases h2 : validB y
      · exact Wp.brnT rfl (Wp.optF awake3 rfl)
      · exact Wp.brnT rfl (Wp.optF awake3 rfl)
      · exact Wp.brnT rfl (Wp.optF awake3 rfl)
      · exact Wp.brnF rfl (hj0 _ ⟨rfl, rfl, rfl, h1, h2⟩)
    · intro j1 hj1
      refine Wp.optF (Valid_eq a) ?_
      cases h1 : validB a with
      | false => exact Wp.brnT rfl (hj1 _ ⟨rfl, by rw [h1]; rfl, rfl, rfl⟩)
      | true => exact Wp.brnF rfl (Wp.optF (Valid_eq b) (hj1 _ ⟨rfl, by rw [h1]; rfl, rfl, rfl⟩))
end Sym

/- Natural numbers by digits of 65536: products, and quotients by one digit. -/
namespace Sym
open Go

theorem bv_set : ∀ (l : List Dg) (i : Nat) (d : Dg), i < l.length → bv (l.set i d) + 65536 ^ i * (rd0 l i).nat = bv l + 65536 ^ i * d.nat
  | [], _, _, h => by simp at h
  | x :: l, 0, d, _ => by simp [bv, rd0, rdL]; omega
  | x :: l, i + 1, d, h => by
    have ih := bv_set l i d (by simpa using h)
    simp only [List.set_cons_succ, bv, Nat.pow_succ, rd0, rdL] at *
    have e1 : 65536 ^ i * 65536 * (rdL (I.of .i64 0) l i).nat = 65536 * (65536 ^ i * (rdL (I.of .i64 0) l i).nat) := by rw [Nat.mul_comm (65536 ^ i) 65536, Nat.mul_assoc]
    have e2 : 65536 ^ i * 65536 * d.nat = 65536 * (65536 ^ i * d.nat) := by rw [Nat.mul_comm (65536 ^ i) 65536, Nat.mul_assoc]
    rw [e1, e2]
    omega

theorem rd0_set_ne (l : List Dg) (i j : Nat) (d : Dg) (h : i ≠ j) : rd0 (l.set i d) j = rd0 l j := by
  unfold rd0
  rcases Nat.lt_or_ge j l.length with hj | hj
  · rw [rdL_eq _ _ _ (by simpa using hj), rdL_eq _ _ _ hj, List.getElem_set_ne h]
  · rw [rdL_out _ _ _ (by simpa using hj), rdL_out _ _ _ hj]

theorem rd0_repL : ∀ (n i : Nat), (rd0 (repL n (I.of .i64 0)) i).nat = 0
  | 0, i => rfl
  | n + 1, 0 => rfl
  | n + 1, i + 1 => rd0_repL n i

theorem bv_repL : ∀ (n : Nat), bv (repL n (I.of .i64 0)) = 0
  | 0 => rfl
  | n + 1 => by simp [repL, bv, bv_repL n]; rfl

structure MulInv (a b : List Dg) (i k : Nat) (over : Nat) (out : List Dg) : Prop where
  len : out.length = a.length + b.length
  dig : Digs out
  zero : ∀ j, i + b.length ≤ j → (rd0 out j).nat = 0
  eq : bv out + 65536 ^ (i + k) * over = bv (a.take i) * bv b + (rd0 a i).nat * 65536 ^ i * bv (b.take k)

theorem mul_step {a b : List Dg} {i k over : Nat} {out : List Dg} (h : MulInv a b i k over out) (hi : i < a.length) (hk : k < b.length) (d : Dg) (ov : Nat) (hd : DigOk d)
    (hs : d.nat + 65536 * ov = over + (rd0 out (i + k)).nat + (rd0 a i).nat * (rd0 b k).nat) : MulInv a b i (k + 1) ov (out.set (i + k) d) := by
  refine ⟨by simpa using h.len, digs_set h.dig _ hd, fun j hj => ?_, ?_⟩
  · rw [rd0_set_ne _ _ _ _ (by omega)]; exact h.zero j hj
  · have hset := bv_set out (i + k) d (by rw [h.len]; omega)
    have heq := h.eq
    rw [bv_take1 b k]
    have e1 : (rd0 a i).nat * 65536 ^ i * (bv (b.take k) + 65536 ^ k * (rd0 b k).nat) = (rd0 a i).nat * 65536 ^ i * bv (b.take k) + 65536 ^ (i + k) * ((rd0 a i).nat * (rd0 b k).nat) := by
      rw [Nat.mul_add, Nat.pow_add]
      congr 1
      simp only [Nat.mul_comm, Nat.mul_left_comm, Nat.mul_assoc]
    have e2 : 65536 ^ (i + (k + 1)) * ov = 65536 ^ (i + k) * (65536 * ov) := by rw [← Nat.add_assoc, Nat.pow_succ, Nat.mul_assoc]
    have e3 := congrArg (fun t => 65536 ^ (i + k) * t) hs
    simp only [Nat.mul_add] at e3
    rw [e1, e2]
    omega

theorem mul_exit {a b : List Dg} {i over : Nat} {out : List Dg} (h : MulInv a b i b.length over out) (hi : i < a.length) (d : Dg) (hd : DigOk d) (hv : d.nat = over) : MulInv a b (i + 1) 0 0 (out.set (i + b.length) d) := by
  refine ⟨by simpa using h.len, digs_set h.dig _ hd, fun j hj => ?_, ?_⟩
  · rw [rd0_set_ne _ _ _ _ (by omega)]; exact h.zero j (by omega)
  · have hset := bv_set out (i + b.length) d (by rw [h.len]; omega)
    have hz := h.zero (i + b.length) (Nat.le_refl _)
    have heq := h.eq
    rw [hz, Nat.mul_zero, Nat.add_zero, hv] at hset
    rw [List.take_length] at heq
    rw [bv_take1 a i, Nat.add_mul]
    have e : 65536 ^ i * (rd0 a i).nat * bv b = (rd0 a i).nat * 65536 ^ i * bv b := by rw [Nat.mul_comm (65536 ^ i)]
    simp only [List.take_zero, bv, Nat.mul_zero, Nat.add_zero]
    rw [e]
    omega

theorem BMul_ok {a b : List Dg} {m n : Nat} (ha : IsB a m) (hb : IsB b n) (hal : a.length ≤ 1000000) (hbl : b.length ≤ 1000000) : ∃ r, pontageref1_Mul ((a, b, ()), ()) = some ((r, ()), ()) ∧ IsB r (m * n) := by
  have hol : (I.ofNat .i64 (lenL a)).val = a.length := ofNat_i64 (by show a.length < _; omega)
  have hol2 : (I.ofNat .i64 (lenL b)).val = b.length := ofNat_i64 (by show b.length < _; omega)
  have c0 : (I.of .i64 0).val = 0 := rfl
  have c1 : (I.of .i64 1).val = 1 := rfl
  have hadd : (I.add (I.ofNat .i64 (lenL a)) (I.ofNat .i64 (lenL b))).val = a.length + b.length := by rw [add_i64 (by omega), hol, hol2]
  have hn : I.nat (I.add (I.ofNat .i64 (lenL a)) (I.ofNat .i64 (lenL b))) = a.length + b.length := by unfold I.nat; omega
  have key : Wp (fun o => ∃ r, o = some ((r, ()), ()) ∧ IsB r (m * n)) (pontageref1_Mul ((a, b, ()), ())) := by
    unfold pontageref1_Mul
    refine Wp.brnT ?_ (Wp.brnT ?_ ?_)
    · show (decide (0 ≤ (I.add (I.ofNat .i64 (lenL a)) (I.ofNat .i64 (lenL b))).val) && decide ((I.add (I.ofNat .i64 (lenL a)) (I.ofNat .i64 (lenL b))).val ≤ ((I.nat (I.add (I.ofNat .i64 (lenL a)) (I.ofNat .i64 (lenL b))) : Nat) : Int))) = true
      rw [hn, hadd]; simp; omega
    · show (decide (0 ≤ (I.add (I.ofNat .i64 (lenL a)) (I.ofNat .i64 (lenL b))).val) && decide ((I.add (I.ofNat .i64 (lenL a)) (I.ofNat .i64 (lenL b))).val ≤ ((1073741824 : Nat) : Int))) = true
      rw [hadd]; simp; omega
    refine Wp.iter (fun x => x.1.1 = a ∧ x.1.2.1 = b ∧ 0 ≤ x.1.2.2.1.val ∧ x.1.2.2.1.val ≤ (a.length : Int) ∧ MulInv a b x.1.2.2.1.val.toNat 0 0 x.2.1) (fun x => ((a.length : Int) - x.1.2.2.1.val).toNat) ?_ ?_ ?_
    · rintro ⟨⟨a', b', i, ⟨⟩⟩, out0, ⟨⟩⟩ ⟨e1, e2, hi0, hi1, hI⟩
      simp only at e1 e2 hi0 hi1 hI
      subst e1 e2
      refine Wp.brn (fun h => ?_) (fun h => ?_)
      · have hlt := iff_ltb.1 h
        simp only [hol] at hlt
        clear h
        have si : (I.add i (I.of .i64 1)).val = i.val + 1 := by rw [add_i64 (by omega)]; omega
        have sin : (I.add i (I.of .i64 1)).val.toNat = i.val.toNat + 1 := by omega
        have hmi : ((a'.length : Int) - (I.add i (I.of .i64 1)).val).toNat < ((a'.length : Int) - i.val).toNat := by omega
        refine Wp.iter (fun x => x.1.1 = a' ∧ x.1.2.1 = b' ∧ x.1.2.2.1 = i ∧ 0 ≤ x.1.2.2.2.1.val ∧ x.1.2.2.2.1.val < 65536 ∧ 0 ≤ x.1.2.2.2.2.1.val ∧ x.1.2.2.2.2.1.val ≤ (b'.length : Int) ∧ MulInv a' b' i.val.toNat x.1.2.2.2.2.1.val.toNat (I.nat (k := .i64) x.1.2.2.2.1) x.2.1) (fun x => ((b'.length : Int) - x.1.2.2.2.2.1.val).toNat) ?_ ?_ ?_
        · rintro ⟨⟨a2, b2, i2, over, k, ⟨⟩⟩, out, ⟨⟩⟩ ⟨e1, e2, e3, ho0, ho1, hk0, hk1, hinv⟩
          simp only at e1 e2 e3 ho0 ho1 hk0 hk1 hinv
          subst e1 e2 e3
          have hlen := hinv.len
          refine Wp.brn (fun h => ?_) (fun h => ?_)
          · have hkl := iff_ltb.1 h
            simp only [hol2] at hkl
            clear h
            have sk : (I.add k (I.of .i64 1)).val = k.val + 1 := by rw [add_i64 (by omega)]; omega
            have skn : (I.add k (I.of .i64 1)).val.toNat = k.val.toNat + 1 := by omega
            have sik : (I.add i2 k).val = i2.val + k.val := add_i64 (by omega)
            have nik : I.nat (I.add i2 k) = i2.val.toNat + k.val.toNat := by unfold I.nat; omega
            have hmk : ((b2.length : Int) - (I.add k (I.of .i64 1)).val).toNat < ((b2.length : Int) - k.val).toNat := by omega
            have bik : inB (I.add i2 k) (lenL out) = true := iff_inB.2 ⟨by omega, by show (I.add i2 k).val < ((out.length : Nat) : Int); omega⟩
            refine Wp.brnT bik (Wp.brnT (iff_inB.2 ⟨hi0, by show i2.val < ((a2.length : Nat) : Int); omega⟩) (Wp.brnT (iff_inB.2 ⟨hk0, by show k.val < ((b2.length : Nat) : Int); omega⟩) (Wp.brnT bik ?_)))
            have da := rd0_ok ha.dig i2.val.toNat
            have db := rd0_ok hb.dig k.val.toNat
            have dq := rd0_ok hinv.dig (i2.val.toNat + k.val.toNat)
            have na := da.nat
            have nb := db.nat
            have nq := dq.nat
            unfold DigOk at da db dq
            have hprod : (rd0 a2 i2.val.toNat).val * (rd0 b2 k.val.toNat).val = (((rd0 a2 i2.val.toNat).nat * (rd0 b2 k.val.toNat).nat : Nat) : Int) := by rw [Int.natCast_mul, na.1, nb.1]
            have hple : (rd0 a2 i2.val.toNat).nat * (rd0 b2 k.val.toNat).nat ≤ 65535 * 65535 := Nat.mul_le_mul (by omega) (by omega)
            have hm1 : (I.mul (rd0 a2 i2.val.toNat) (rd0 b2 k.val.toNat)).val = (((rd0 a2 i2.val.toNat).nat * (rd0 b2 k.val.toNat).nat : Nat) : Int) := by rw [mul_i64 (by rw [hprod]; omega), hprod]
            have hs1 : (I.add over (rd0 out (i2.val.toNat + k.val.toNat))).val = over.val + (rd0 out (i2.val.toNat + k.val.toNat)).val := add_i64 (by omega)
            have hs2 : (I.add (I.add over (rd0 out (i2.val.toNat + k.val.toNat))) (I.mul (rd0 a2 i2.val.toNat) (rd0 b2 k.val.toNat))).val = over.val + (rd0 out (i2.val.toNat + k.val.toNat)).val + (((rd0 a2 i2.val.toNat).nat * (rd0 b2 k.val.toNat).nat : Nat) : Int) := by rw [add_i64 (by rw [hs1, hm1]; omega), hs1, hm1]
            generalize hS : I.add (I.add over (rd0 out (i2.val.toNat + k.val.toNat))) (I.mul (rd0 a2 i2.val.toNat) (rd0 b2 k.val.toNat)) = s at hs2
            have hsh := shr_i64_16 s (by omega)
            have han := and_i64 s (by omega)
            have hdig : DigOk (I.and s (I.of .i64 65535)) := by unfold DigOk; omega
            have hon : (over.nat : Int) = over.val := by unfold I.nat; omega
            have st := mul_step hinv (by omega) (by omega) (I.and s (I.of .i64 65535)) (I.shr s (I.of .u64 16)).nat hdig (by
              have h1 := hdig.nat
              have h2 : ((I.shr s (I.of .u64 16)).nat : Int) = (I.shr s (I.of .u64 16)).val := by unfold I.nat; omega
              omega)
            refine Wp.again ⟨rfl, rfl, rfl, ?_, ?_, ?_, ?_, ?_⟩ hmk
            · show 0 ≤ (I.shr (I.add (I.add over (rd0 out (I.nat (I.add i2 k)))) (I.mul (rd0 a2 (I.nat i2)) (rd0 b2 (I.nat k)))) (I.of .u64 16)).val
              rw [nik]
              show 0 ≤ (I.shr (I.add (I.add over (rd0 out (i2.val.toNat + k.val.toNat))) (I.mul (rd0 a2 i2.val.toNat) (rd0 b2 k.val.toNat))) (I.of .u64 16)).val
              rw [hS]; omega
            · show (I.shr (I.add (I.add over (rd0 out (I.nat (I.add i2 k)))) (I.mul (rd0 a2 (I.nat i2)) (rd0 b2 (I.nat k)))) (I.of .u64 16)).val < 65536
              rw [nik]
              show (I.shr (I.add (I.add over (rd0 out (i2.val.toNat + k.val.toNat))) (I.mul (rd0 a2 i2.val.toNat) (rd0 b2 k.val.toNat))) (I.of .u64 16)).val < 65536
              rw [hS]; omega
            · show 0 ≤ (I.add k (I.of .i64 1)).val; omega
            · show (I.add k (I.of .i64 1)).val ≤ _; omega
            · show MulInv a2 b2 i2.val.toNat (I.add k (I.of .i64 1)).val.toNat (I.nat (I.shr (I.add (I.add over (rd0 out (I.nat (I.add i2 k)))) (I.mul (rd0 a2 (I.nat i2)) (rd0 b2 (I.nat k)))) (I.of .u64 16))) (setAt out (I.nat (I.add i2 k)) (I.and (I.add (I.add over (rd0 out (I.nat (I.add i2 k)))) (I.mul (rd0 a2 (I.nat i2)) (rd0 b2 (I.nat k)))) (I.of .i64 65535)))
              rw [nik, skn, setAt_eq]
              show MulInv a2 b2 i2.val.toNat (k.val.toNat + 1) (I.nat (I.shr (I.add (I.add over (rd0 out (i2.val.toNat + k.val.toNat))) (I.mul (rd0 a2 i2.val.toNat) (rd0 b2 k.val.toNat))) (I.of .u64 16))) (out.set (i2.val.toNat + k.val.toNat) (I.and (I.add (I.add over (rd0 out (i2.val.toNat + k.val.toNat))) (I.mul (rd0 a2 i2.val.toNat) (rd0 b2 k.val.toNat))) (I.of .i64 65535)))
              rw [hS]; exact st
          · have h := niff_ltb.1 h
            simp only [hol2] at h
            have hk : k.val.toNat = b2.length := by omega
            rw [hk] at hinv
            have sib : (I.add i2 (I.ofNat .i64 (lenL b2))).val = i2.val + b2.length := by rw [add_i64 (by omega), hol2]
            have nib : I.nat (I.add i2 (I.ofNat .i64 (lenL b2))) = i2.val.toNat + b2.length := by unfold I.nat; omega
            refine Wp.done (Wp.brnT (iff_inB.2 ⟨by show 0 ≤ (I.add i2 (I.ofNat .i64 (lenL b2))).val; omega, by show (I.add i2 (I.ofNat .i64 (lenL b2))).val < ((out.length : Nat) : Int); omega⟩) ?_)
            have st := mul_exit hinv (by omega) over ⟨ho0, ho1⟩ rfl
            refine Wp.again ⟨rfl, rfl, ?_, ?_, ?_⟩ hmi
            · show 0 ≤ (I.add i2 (I.of .i64 1)).val; omega
            · show (I.add i2 (I.of .i64 1)).val ≤ _; omega
            · show MulInv a2 b2 (I.add i2 (I.of .i64 1)).val.toNat 0 0 (setAt out (I.nat (I.add i2 (I.ofNat .i64 (lenL b2)))) over)
              rw [sin, nib, setAt_eq]
              exact st
        · refine ⟨rfl, rfl, rfl, by show 0 ≤ (I.of .i64 0).val; decide, by show (I.of .i64 0).val < 65536; decide, by show 0 ≤ (I.of .i64 0).val; decide, by show (I.of .i64 0).val ≤ (b'.length : Int); omega, ?_⟩
          exact hI
        · exact K0_ge _ (by show ((b'.length : Int) - (I.of .i64 0).val).toNat < _; omega)
      · have h := niff_ltb.1 h
        simp only [hol] at h
        have hi : i.val.toNat = a'.length := by omega
        rw [hi] at hI
        have heq := hI.eq
        rw [List.take_length, Nat.mul_zero, Nat.add_zero, List.take_zero] at heq
        have hlen := hI.len
        obtain ⟨r, hr, hB⟩ := norm_ok out0 hI.dig (by omega)
        refine Wp.done (Wp.optF hr ⟨r, rfl, hB.dig, hB.lead, ?_⟩)
        rw [hB.val, heq, ha.val, hb.val]
        simp [bv]
    · refine ⟨rfl, rfl, by show 0 ≤ (I.of .i64 0).val; decide, by show (I.of .i64 0).val ≤ (a.length : Int); omega, ?_⟩
      show MulInv a b (I.of .i64 0).val.toNat 0 0 (repL (I.nat (I.add (I.ofNat .i64 (lenL a)) (I.ofNat .i64 (lenL b)))) (I.of .i64 0))
      rw [hn]
      refine ⟨repL_length _ _, repL_digs _, fun j _ => rd0_repL _ _, ?_⟩
      have e : (I.of .i64 0).val.toNat = 0 := rfl
      rw [bv_repL, e]
      simp [bv]
    · exact K0_ge _ (by show ((a.length : Int) - (I.of .i64 0).val).toNat < _; omega)
  exact key.out
end Sym

/- Signed numbers: the laws of arithmetic. -/
namespace Sym
open Go

theorem RMul_ok {s t : SB} {z w : Int} (hs : IsSB s z) (ht : IsSB t w) (hz : Bd z.natAbs) (hw : Bd w.natAbs) (hzw : Bd (z.natAbs * w.natAbs)) : ∃ r : SB, pontageref3_Mul ((s, t, ()), ()) = some ((r, ()), ()) ∧ IsSB r (z * w) := by
  have key : Wp (fun o => ∃ r : SB, o = some ((r, ()), ()) ∧ IsSB r (z * w)) (pontageref3_Mul ((s, t, ()), ())) := by
    unfold pontageref3_Mul
    obtain ⟨l, hl, hB⟩ := BMul_ok hs.abs ht.abs (Bd.len hs.abs hz) (Bd.len ht.abs hw)
    refine Wp.optF hl ?_
    obtain ⟨r, hr, hR⟩ := sign_ok (!(s.1 == t.1)) hB (Bd.len hB hzw)
    refine Wp.optF hr ⟨r, rfl, ?_⟩
    have e1 : sgn s.1 z.natAbs = z := by rw [hs.neg]; unfold sgn; by_cases h : z < 0 <;> simp [h] <;> omega
    have e2 : sgn t.1 w.natAbs = w := by rw [ht.neg]; unfold sgn; by_cases h : w < 0 <;> simp [h] <;> omega
    rw [← sgn_mul, e1, e2] at hR
    exact hR
  exact key.out

def opZ (op : I .i64) (x y : Int) : Int := if op.val = 3 then x * y else if op.val = 2 then x - y else x + y

theorem mul_top {x y : Nat} (hx : x < U.top) (hy : y < U.top) : x * y < U.top * U.top := by
  have h1 : x * y ≤ (U.top - 1) * (U.top - 1) := Nat.mul_le_mul (by omega) (by omega)
  exact Nat.lt_of_le_of_lt h1 (by decide)

theorem RBinary_eq (op : I .i64) (x y : S) : pontageref3_Binary ((op, x, y, ()), ()) = some (((binS x y (opZ op x.int y.int)).1, (binS x y (opZ op x.int y.int)).2, ()), ()) := by
  refine Wp.out (T := fun o => o = some (((binS x y (opZ op x.int y.int)).1, (binS x y (opZ op x.int y.int)).2, ()), ())) ?_
  unfold pontageref3_Binary
  refine Wp.jn (fun s => s.1.1 = op ∧ s.2.1 = x ∧ s.2.2.1 = y ∧ validB x = true ∧ validB y = true) ?_ ?_
  · rintro ⟨⟨o, ⟨⟩⟩, x', y', r0, ⟨⟩⟩ ⟨e0, e1, e2, h1, h2⟩
    simp only at e0 e1 e2
    subst e0 e1 e2
    have hx := S.lt x'
    have hy := S.lt y'
    rw [binS_t h1 h2]
    have c3 : (I.of .i64 3).val = 3 := rfl
    have c2 : (I.of .i64 2).val = 2 := rfl
    obtain ⟨s, hs, hS⟩ := FromInt_ok x'
    obtain ⟨t, ht, hT⟩ := FromInt_ok y'
    refine Wp.optF hs (Wp.optF ht ?_)
    refine Wp.brn (fun h => ?_) (fun h => ?_)
    · have h := iff_eqb.1 h
      have h : o.val = (I.of .i64 3).val := h
      have e : opZ o (S.int x') (S.int y') = S.int x' * S.int y' := if_pos (by omega)
      rw [e]
      have hb : Bd ((S.int x').natAbs * (S.int y').natAbs) := Bd.of_sq (mul_top hx hy)
      obtain ⟨r, hr, hR⟩ := RMul_ok hS hT (Bd.of_top hx) (Bd.of_top hy) hb
      exact Wp.optF hr (Wp.optF (RChecked_ok hR (by rw [Int.natAbs_mul]; exact hb)) rfl)
    · have h := niff_eqb.1 h
      have h : o.val ≠ (I.of .i64 3).val := h
      refine Wp.jn (fun q => IsSB q.2.2.1 (S.int x') ∧ IsSB q.2.2.2.1 (opZ o (S.int x') (S.int y') - S.int x') ∧ (opZ o (S.int x') (S.int y') - S.int x').natAbs < U.top) ?_ ?_
      · rintro ⟨⟨⟩, r1, s', t', ⟨⟩⟩ ⟨e1, e2, e3⟩
        simp only at e1 e2 e3
        obtain ⟨r, hr, hR⟩ := RAdd_ok e1 e2 (Bd.of_top hx) (Bd.of_top e3) (Bd.of_two (by omega))
        rw [show S.int x' + (opZ o (S.int x') (S.int y') - S.int x') = opZ o (S.int x') (S.int y') by omega] at hR
        exact Wp.optF hr (Wp.optF (RChecked_ok hR (Bd.of_two (by omega))) rfl)
      · intro j hj
        refine Wp.brn (fun h2 => ?_) (fun h2 => ?_)
        · have h2 := iff_eqb.1 h2
          have h2 : o.val = (I.of .i64 2).val := h2
          obtain ⟨t2, ht2, hT2⟩ := RNegate_ok hT (Bd.of_top hy)
          have e : opZ o (S.int x') (S.int y') = S.int x' - S.int y' := by unfold opZ; rw [if_neg (by omega), if_pos (by omega)]
          refine Wp.optF ht2 (hj _ ⟨hS, ?_, ?_⟩)
          · rw [e, show S.int x' - S.int y' - S.int x' = -S.int y' by omega]; exact hT2
          · rw [e]; omega
        · have h2 := niff_eqb.1 h2
          have h2 : o.val ≠ (I.of .i64 2).val := h2
          have e : opZ o (S.int x') (S.int y') = S.int x' + S.int y' := by unfold opZ; rw [if_neg (by omega), if_neg (by omega)]
          refine hj _ ⟨hS, ?_, ?_⟩
          · rw [e, show S.int x' + S.int y' - S.int x' = S.int y' by omega]; exact hT
          · rw [e]; omega
  · intro j hj
    refine Wp.optF (RValid_eq x) ?_
    cases h1 : validB x with
    | false =>
      rw [binS_f1 h1]
      exact Wp.brnT rfl rfl
    | true =>
      refine Wp.brnF rfl (Wp.optF (RValid_eq y) ?_)
      cases h2 : validB y with
      | false =>
        rw [binS_f2 h2]
        exact Wp.brnT rfl rfl
      | true => exact Wp.brnF rfl (hj _ ⟨rfl, rfl, rfl, h1, h2⟩)

theorem ieqb {k : IntKind} (a : I k) : I.eqb a a = true := by simp [I.eqb]

theorem arith_law (a b : S) : pontagelaw3_Int256Arithmetic ((a, b, ()), ()) = some ((true, ()), ()) := by
  refine Wp.out (T := fun o => o = some ((true, ()), ())) ?_
  unfold pontagelaw3_Int256Arithmetic
  refine Wp.optF (SAdd_eq a b) (Wp.optF (RBinary_eq (I.of .i64 1) a b) (Wp.optF (SSub_eq a b) (Wp.optF (RBinary_eq (I.of .i64 2) a b) (Wp.optF (SMul_eq a b) (Wp.optF (RBinary_eq (I.of .i64 3) a b) ?_)))))
  refine Wp.brnT (eqbS_self _) (Wp.brnT (ieqb _) (Wp.brnT (eqbS_self _) (Wp.brnT (ieqb _) (Wp.brnT (eqbS_self _) (Wp.brnT (ieqb _) ?_)))))
  exact Wp.optF awake3 rfl

theorem Mod_ok (x n : I .i64) (h : 0 < n.val) : ∃ y : I .i64, pontagelaw0_Mod ((x, n, ()), ()) = some ((y, ()), ()) ∧ 0 ≤ y.val ∧ y.val < n.val := by
  have hn := i64_range n
  have e : (I.conv .u64 n).val = n.val := of_u64 ⟨by omega, by omega⟩
  have hx := u64_range (I.conv .u64 x)
  have er : (I.rem (I.conv .u64 x) (I.conv .u64 n)).val = (I.conv .u64 x).val % n.val := by rw [rem_u64 (by omega), e]
  have h3 := Int.emod_nonneg (I.conv .u64 x).val (b := n.val) (by omega)
  have h4 := Int.emod_lt_of_pos (I.conv .u64 x).val (b := n.val) (by omega)
  have ec : (I.conv .i64 (I.rem (I.conv .u64 x) (I.conv .u64 n))).val = (I.conv .u64 x).val % n.val := by
    show (I.of .i64 _).val = _
    rw [er]
    exact of_i64 ⟨by omega, by omega⟩
  refine ⟨I.conv .i64 (I.rem (I.conv .u64 x) (I.conv .u64 n)), ?_, by omega, by omega⟩
  refine Wp.out (T := fun o => o = _) ?_
  unfold pontagelaw0_Mod
  refine Wp.brnT (iff_nz.2 ?_) rfl
  show (I.conv .u64 n).val ≠ 0
  omega

theorem Edge_ok (a b : I .u64) (c : I .i64) : ∃ y : U, pontagelaw0_EdgeUint256 ((a, b, c, ()), ()) = some ((y, ()), ()) := by
  have key : Wp (fun o => ∃ y : U, o = some ((y, ()), ())) (pontagelaw0_EdgeUint256 ((a, b, c, ()), ())) := by
    unfold pontagelaw0_EdgeUint256
    obtain ⟨y, hy, _⟩ := Mod_ok c (I.of .i64 9) (by decide)
    refine Wp.optF hy ?_
    repeat' (first | exact ⟨_, rfl⟩ | refine Wp.brn (fun _ => ?_) (fun _ => ?_))
    · rename_i h
      have h2 := nn_u64 (I.rem b (I.of .u64 64))
      exact absurd (h2.symm.trans h) (by decide)
  exact key.out

theorem bound_law (a b : I .u64) (s t : I .i64) (n m : Bool) : pontagelaw3_Int256Boundaries ((a, b, s, t, n, m, ()), ()) = some ((true, ()), ()) := by
  refine Wp.out (T := fun o => o = some ((true, ()), ())) ?_
  unfold pontagelaw3_Int256Boundaries
  obtain ⟨u, hu⟩ := Edge_ok a b s
  obtain ⟨v, hv⟩ := Edge_ok b a t
  obtain ⟨w, hw⟩ := Edge_ok a a t
  refine Wp.optF hu (Wp.optF (New_eq n u) (Wp.optF hv (Wp.optF (New_eq m v) ?_)))
  generalize S.of (sgn n u.val) = x
  generalize S.of (sgn m v.val) = y
  refine Wp.optF (SAdd_eq x y) (Wp.optF (RBinary_eq (I.of .i64 1) x y) (Wp.optF (SSub_eq x y) (Wp.optF (RBinary_eq (I.of .i64 2) x y) (Wp.optF (SMul_eq x y) (Wp.optF (RBinary_eq (I.of .i64 3) x y) ?_)))))
  refine Wp.optF hw (Wp.optF (AddClamped_eq w y) (Wp.optF hw (Wp.optF (RClamp_eq w y) ?_)))
  refine Wp.brnT (eqbS_self _) (Wp.brnT (ieqb _) (Wp.brnT (eqbS_self _) (Wp.brnT (ieqb _) (Wp.brnT (eqbS_self _) (Wp.brnT (ieqb _) (Wp.brnT (eqb_self' _) (Wp.brnT (ieqb _) ?_)))))))
  exact Wp.optF awake3 rfl
end Sym

/- The contracts of the given functions. -/
namespace Sym
open Go Go.Proofs
set_option maxRecDepth 100000

def tys : List (Nat × Ty) := [(2, (.int .i64)), (3, (.int .i64)), (4, .bool), (22, (.int .u64)), (24, (.arr 4 (.int .u64))), (26, (.cons .bool (.cons (.arr 4 (.int .u64)) .nil))), (27, (.int .i64)), (55, (.sl (.int .i64))), (57, (.cons .bool (.cons (.sl (.int .i64)) .nil))), (75, (.int .u64))]
def eqs : List (Nat × Ty) := [(2, (.int .i64)), (3, (.int .i64)), (4, .bool), (22, (.int .u64)), (24, (.arr 4 (.int .u64))), (26, (.cons .bool (.cons (.arr 4 (.int .u64)) .nil))), (27, (.int .i64)), (75, (.int .u64))]
theorem tysOk : tys.all (fun x => tiB Try.prog x.1 x.2) = true := by kernel_rfl
theorem eqsOk : eqs.all (fun x => eqiB Try.prog x.1 x.2) = true := by kernel_rfl
theorem follows : Try.prog.follows .mixedOrders = true := by kernel_rfl
theorem noOddP : noOdd Try.prog := noOdd_of (by kernel_rfl)
/-- pontage/int256.New -/
noncomputable def int256_NewC : Con := ⟨_, _, int256_New⟩
noncomputable def env19 : Env := mkEnv Try.prog tys eqs []
def ann19 : Anns := fun _ _ => none
theorem ev19 : ∀ x, evalFn env19 ann19 19 ⟨[.pl .bool, .pl (.arr 4 (.int .u64))], []⟩ ⟨[.pl (.cons .bool (.cons (.arr 4 (.int .u64)) .nil))], []⟩ 60 K0 x = int256_New x := by intro x; kernel_rfl
theorem ok19 : ConOk Try.prog 19 int256_NewC := con_of_ev (E := env19) (envOk tysOk eqsOk (show HowsOk Try.prog [] from trivial) follows) noOddP fun x y h => ⟨ann19, 60, K0, (ev19 x).trans h⟩
/-- pontage/int256.Valid -/
noncomputable def int256_ValidC : Con := ⟨_, _, int256_Valid⟩
noncomputable def env20 : Env := mkEnv Try.prog tys eqs []
def ann20 : Anns := fun _ _ => none
theorem ev20 : ∀ x, evalFn env20 ann20 20 ⟨[.pl (.cons .bool (.cons (.arr 4 (.int .u64)) .nil))], []⟩ ⟨[.pl .bool], []⟩ 60 K0 x = int256_Valid x := by intro x; kernel_rfl
theorem ok20 : ConOk Try.prog 20 int256_ValidC := con_of_ev (E := env20) (envOk tysOk eqsOk (show HowsOk Try.prog [] from trivial) follows) noOddP fun x y h => ⟨ann20, 60, K0, (ev20 x).trans h⟩
/-- pontage/uint256.Cmp -/
noncomputable def uint256_CmpC : Con := ⟨_, _, uint256_Cmp⟩
noncomputable def env42 : Env := mkEnv Try.prog tys eqs []
def ann42 : Anns := fun p _ => match p with | 1000000 :: _ => none | _ => some (.unroll 6)
theorem ev42 : ∀ x, evalFn env42 ann42 42 ⟨[.pl (.arr 4 (.int .u64)), .pl (.arr 4 (.int .u64))], []⟩ ⟨[.pl (.int .i64)], []⟩ 60 K0 x = uint256_Cmp x := by intro x; kernel_rfl
theorem ok42 : ConOk Try.prog 42 uint256_CmpC := con_of_ev (E := env42) (envOk tysOk eqsOk (show HowsOk Try.prog [] from trivial) follows) noOddP fun x y h => ⟨ann42, 60, K0, (ev42 x).trans h⟩
/-- pontage/muldiv.shiftLeft -/
noncomputable def muldiv_shiftLeftC : Con := ⟨_, _, muldiv_shiftLeft⟩
noncomputable def env60 : Env := mkEnv Try.prog tys eqs []
def ann60 : Anns := fun p c => match p, c with | [60], 0 => some (.tmpl ⟨[.dead, .pl (.int .u64), .ptr 0 [], .dead, .ptr 1 [], .dead, .pl (.int .u64), .pl (.int .i64), .dead, .dead, .dead, .dead, .dead, .dead, .dead, .dead, .dead, .dead, .dead, .dead, .dead, .dead, .dead, .dead, .dead, .dead, .dead, .dead, .dead, .dead, .dead, .dead, .dead, .dead, .dead], [.box (.arr 4 (.int .u64)) (.pl (.arr 4 (.int .u64))), .box (.arr 4 (.int .u64)) (.pl (.arr 4 (.int .u64)))]⟩) | _, _ => none
theorem ev60 : ∀ x, evalFn env60 ann60 60 ⟨[.pl (.arr 4 (.int .u64)), .pl (.int .u64)], []⟩ ⟨[.pl (.arr 4 (.int .u64)), .pl (.int .u64)], []⟩ 60 K0 x = muldiv_shiftLeft x := by intro x; kernel_rfl
theorem ok60 : ConOk Try.prog 60 muldiv_shiftLeftC := con_of_ev (E := env60) (envOk tysOk eqsOk (show HowsOk Try.prog [] from trivial) follows) noOddP fun x y h => ⟨ann60, 60, K0, (ev60 x).trans h⟩
theorem ok63 : ConOk Try.prog 63 sub64C := sub64_ok (fn := Try.f63) (by kernel_rfl) (by kernel_rfl) (by kernel_rfl) (by kernel_rfl) (by kernel_rfl)
/-- pontage/muldiv.subWrap -/
noncomputable def muldiv_subWrapC : Con := ⟨_, _, muldiv_subWrap⟩
noncomputable def env61 : Env := mkEnv Try.prog tys eqs [(63, .con sub64C)]
def ann61 : Anns := fun p c => match p, c with | [61], 0 => some (.tmpl ⟨[.dead, .dead, .ptr 0 [], .ptr 1 [], .ptr 2 [], .pl (.int .u64), .dead, .pl (.int .i64), .dead, .dead, .dead, .dead, .dead, .dead, .dead, .dead, .dead, .dead, .dead, .dead, .dead, .dead, .dead, .dead, .dead], [.box (.arr 4 (.int .u64)) (.pl (.arr 4 (.int .u64))), .box (.arr 4 (.int .u64)) (.pl (.arr 4 (.int .u64))), .box (.arr 4 (.int .u64)) (.pl (.arr 4 (.int .u64)))]⟩) | _, _ => none
theorem ev61 : ∀ x, evalFn env61 ann61 61 ⟨[.pl (.arr 4 (.int .u64)), .pl (.arr 4 (.int .u64))], []⟩ ⟨[.pl (.arr 4 (.int .u64))], []⟩ 60 K0 x = muldiv_subWrap x := by intro x; kernel_rfl
theorem ok61 : ConOk Try.prog 61 muldiv_subWrapC := con_of_ev (E := env61) (envOk tysOk eqsOk (show HowsOk Try.prog [(63, .con sub64C)] from (And.intro ok63 trivial)) follows) noOddP fun x y h => ⟨ann61, 60, K0, (ev61 x).trans h⟩
/-- pontage/muldiv.Div512 -/
noncomputable def muldiv_Div512C : Con := ⟨_, _, muldiv_Div512⟩
noncomputable def env47 : Env := mkEnv Try.prog tys eqs [(42, .con uint256_CmpC), (60, .con muldiv_shiftLeftC), (61, .con muldiv_subWrapC)]
def ann47 : Anns := fun p c => match p, c with | [47], 0 => some (.tmpl ⟨[.dead, .dead, .dead, .ptr 0 [], .dead, .ptr 1 [], .ptr 2 [], .ptr 3 [], .dead, .pl (.int .i64), .dead, .dead, .dead, .dead, .dead, .dead, .dead, .dead, .dead, .dead, .dead, .dead, .dead, .dead, .dead, .dead, .dead, .dead, .dead, .dead, .dead, .dead, .dead, .dead, .dead, .dead, .dead, .dead, .dead, .dead, .dead, .dead, .dead, .dead, .dead, .dead, .dead, .dead, .dead, .dead, .dead, .dead, .dead, .dead, .dead, .dead, .dead, .dead, .dead, .dead, .dead, .dead], [.box (.arr 4 (.int .u64)) (.pl (.arr 4 (.int .u64))), .box (.arr 4 (.int .u64)) (.pl (.arr 4 (.int .u64))), .box (.arr 4 (.int .u64)) (.pl (.arr 4 (.int .u64))), .box (.arr 4 (.int .u64)) (.pl (.arr 4 (.int .u64)))]⟩) | _, _ => none
theorem ev47 : ∀ x, evalFn env47 ann47 47 ⟨[.pl (.arr 4 (.int .u64)), .pl (.arr 4 (.int .u64)), .pl (.arr 4 (.int .u64))], []⟩ ⟨[.pl (.arr 4 (.int .u64)), .pl (.arr 4 (.int .u64)), .pl (.int .i64)], []⟩ 60 K0 x = muldiv_Div512 x := by intro x; kernel_rfl
theorem ok47 : ConOk Try.prog 47 muldiv_Div512C := con_of_ev (E := env47) (envOk tysOk eqsOk (show HowsOk Try.prog [(42, .con uint256_CmpC), (60, .con muldiv_shiftLeftC), (61, .con muldiv_subWrapC)] from (And.intro ok42 (And.intro ok60 (And.intro ok61 trivial)))) follows) noOddP fun x y h => ⟨ann47, 60, K0, (ev47 x).trans h⟩
/-- pontage/muldiv.DivMod -/
noncomputable def muldiv_DivModC : Con := ⟨_, _, muldiv_DivMod⟩
noncomputable def env30 : Env := mkEnv Try.prog tys eqs [(47, .con muldiv_Div512C)]
def ann30 : Anns := fun _ _ => none
theorem ev30 : ∀ x, evalFn env30 ann30 30 ⟨[.pl (.arr 4 (.int .u64)), .pl (.arr 4 (.int .u64))], []⟩ ⟨[.pl (.arr 4 (.int .u64)), .pl (.arr 4 (.int .u64)), .pl (.int .i64)], []⟩ 60 K0 x = muldiv_DivMod x := by intro x; kernel_rfl
theorem ok30 : ConOk Try.prog 30 muldiv_DivModC := con_of_ev (E := env30) (envOk tysOk eqsOk (show HowsOk Try.prog [(47, .con muldiv_Div512C)] from (And.intro ok47 trivial)) follows) noOddP fun x y h => ⟨ann30, 60, K0, (ev30 x).trans h⟩
theorem ok48 : ConOk Try.prog 48 add64C := add64_ok (fn := Try.f48) (by kernel_rfl) (by kernel_rfl) (by kernel_rfl) (by kernel_rfl) (by kernel_rfl)
/-- pontage/uint256.Add -/
noncomputable def uint256_AddC : Con := ⟨_, _, uint256_Add⟩
noncomputable def env31 : Env := mkEnv Try.prog tys eqs [(48, .con add64C)]
def ann31 : Anns := fun p _ => match p with | 1000000 :: _ => none | _ => some (.unroll 6)
theorem ev31 : ∀ x, evalFn env31 ann31 31 ⟨[.pl (.arr 4 (.int .u64)), .pl (.arr 4 (.int .u64))], []⟩ ⟨[.pl (.arr 4 (.int .u64)), .pl (.int .i64)], []⟩ 60 K0 x = uint256_Add x := by intro x; kernel_rfl
theorem ok31 : ConOk Try.prog 31 uint256_AddC := con_of_ev (E := env31) (envOk tysOk eqsOk (show HowsOk Try.prog [(48, .con add64C)] from (And.intro ok48 trivial)) follows) noOddP fun x y h => ⟨ann31, 60, K0, (ev31 x).trans h⟩
/-- pontage/uint256.FromUint64 -/
noncomputable def uint256_FromUint64C : Con := ⟨_, _, uint256_FromUint64⟩
noncomputable def env32 : Env := mkEnv Try.prog tys eqs []
def ann32 : Anns := fun _ _ => none
theorem ev32 : ∀ x, evalFn env32 ann32 32 ⟨[.pl (.int .u64)], []⟩ ⟨[.pl (.arr 4 (.int .u64))], []⟩ 60 K0 x = uint256_FromUint64 x := by intro x; kernel_rfl
theorem ok32 : ConOk Try.prog 32 uint256_FromUint64C := con_of_ev (E := env32) (envOk tysOk eqsOk (show HowsOk Try.prog [] from trivial) follows) noOddP fun x y h => ⟨ann32, 60, K0, (ev32 x).trans h⟩
/-- pontage/int256.DivFloor -/
noncomputable def int256_DivFloorC : Con := ⟨_, _, int256_DivFloor⟩
noncomputable def env10 : Env := mkEnv Try.prog tys eqs [(19, .con int256_NewC), (20, .con int256_ValidC), (30, .con muldiv_DivModC), (31, .con uint256_AddC), (32, .con uint256_FromUint64C)]
def ann10 : Anns := fun p c => match p, c with | [1000000, 10], 8 => some (.join ⟨[.dead, .dead, .ptr 0 [], .dead, .ptr 1 [], .dead, .ptr 2 [], .dead, .dead, .dead, .dead, .dead, .dead, .dead, .dead, .dead, .dead, .dead, .dead, .dead, .dead, .dead, .dead, .dead, .dead, .dead, .dead, .dead, .dead, .dead, .dead, .pl .bool, .dead, .dead, .dead, .dead, .dead, .dead, .dead, .dead, .dead, .dead], [.box (.cons .bool (.cons (.arr 4 (.int .u64)) .nil)) (.pl (.cons .bool (.cons (.arr 4 (.int .u64)) .nil))), .box (.cons .bool (.cons (.arr 4 (.int .u64)) .nil)) (.pl (.cons .bool (.cons (.arr 4 (.int .u64)) .nil))), .box (.arr 4 (.int .u64)) (.pl (.arr 4 (.int .u64)))]⟩) | _, _ => none
theorem ev10 : ∀ x, evalFn env10 ann10 10 ⟨[.pl (.cons .bool (.cons (.arr 4 (.int .u64)) .nil)), .pl (.arr 4 (.int .u64))], []⟩ ⟨[.pl (.cons .bool (.cons (.arr 4 (.int .u64)) .nil)), .pl (.int .i64)], []⟩ 60 K0 x = int256_DivFloor x := by intro x; kernel_rfl
theorem ok10 : ConOk Try.prog 10 int256_DivFloorC := con_of_ev (E := env10) (envOk tysOk eqsOk (show HowsOk Try.prog [(19, .con int256_NewC), (20, .con int256_ValidC), (30, .con muldiv_DivModC), (31, .con uint256_AddC), (32, .con uint256_FromUint64C)] from (And.intro ok19 (And.intro ok20 (And.intro ok30 (And.intro ok31 (And.intro ok32 trivial)))))) follows) noOddP fun x y h => ⟨ann10, 60, K0, (ev10 x).trans h⟩
/-- pontage/pontageref1.IsZero -/
noncomputable def pontageref1_IsZeroC : Con := ⟨_, _, pontageref1_IsZero⟩
noncomputable def env33 : Env := mkEnv Try.prog tys eqs []
def ann33 : Anns := fun _ _ => none
theorem ev33 : ∀ x, evalFn env33 ann33 33 ⟨[.pl (.arr 4 (.int .u64))], []⟩ ⟨[.pl .bool], []⟩ 60 K0 x = pontageref1_IsZero x := by intro x; kernel_rfl
theorem ok33 : ConOk Try.prog 33 pontageref1_IsZeroC := con_of_ev (E := env33) (envOk tysOk eqsOk (show HowsOk Try.prog [] from trivial) follows) noOddP fun x y h => ⟨ann33, 60, K0, (ev33 x).trans h⟩
/-- pontage/pontageref3.Valid -/
noncomputable def pontageref3_ValidC : Con := ⟨_, _, pontageref3_Valid⟩
noncomputable def env18 : Env := mkEnv Try.prog tys eqs [(33, .con pontageref1_IsZeroC)]
def ann18 : Anns := fun _ _ => none
theorem ev18 : ∀ x, evalFn env18 ann18 18 ⟨[.pl (.cons .bool (.cons (.arr 4 (.int .u64)) .nil))], []⟩ ⟨[.pl .bool], []⟩ 60 K0 x = pontageref3_Valid x := by intro x; kernel_rfl
theorem ok18 : ConOk Try.prog 18 pontageref3_ValidC := con_of_ev (E := env18) (envOk tysOk eqsOk (show HowsOk Try.prog [(33, .con pontageref1_IsZeroC)] from (And.intro ok33 trivial)) follows) noOddP fun x y h => ⟨ann18, 60, K0, (ev18 x).trans h⟩
/-- pontage/pontageref1.Fits -/
noncomputable def pontageref1_FitsC : Con := ⟨_, _, pontageref1_Fits⟩
noncomputable def env56 : Env := mkEnv Try.prog tys eqs []
def ann56 : Anns := fun _ _ => none
theorem ev56 : ∀ x, evalFn env56 ann56 56 ⟨[.pl (.sl (.int .i64))], []⟩ ⟨[.pl .bool], []⟩ 60 K0 x = pontageref1_Fits x := by intro x; kernel_rfl
theorem ok56 : ConOk Try.prog 56 pontageref1_FitsC := con_of_ev (E := env56) (envOk tysOk eqsOk (show HowsOk Try.prog [] from trivial) follows) noOddP fun x y h => ⟨ann56, 60, K0, (ev56 x).trans h⟩
/-- pontage/pontageref1.ToUint256 -/
noncomputable def pontageref1_ToUint256C : Con := ⟨_, _, pontageref1_ToUint256⟩
noncomputable def env57 : Env := mkEnv Try.prog tys eqs []
def ann57 : Anns := fun p c => match p, c with | [1000000, 57], 6 => some (.join ⟨[.pl (.sl (.int .i64)), .dead, .ptr 0 [], .ptr 1 [], .pl (.int .i64), .dead, .dead, .dead, .dead, .dead, .pl (.int .i64), .pl .bool, .dead, .dead, .dead, .dead, .dead, .dead, .dead, .dead, .dead, .dead, .dead, .dead, .dead, .dead, .dead, .dead, .dead, .dead, .dead, .dead, .dead, .dead], [.box (.arr 4 (.int .u64)) (.pl (.arr 4 (.int .u64))), .box (.arr 4 (.int .u64)) (.pl (.arr 4 (.int .u64)))]⟩) | [57], 0 => some (.tmpl ⟨[.pl (.sl (.int .i64)), .dead, .ptr 0 [], .ptr 1 [], .pl (.int .i64), .dead, .dead, .dead, .dead, .dead, .dead, .dead, .dead, .dead, .dead, .dead, .dead, .dead, .dead, .dead, .dead, .dead, .dead, .dead, .dead, .dead, .dead, .dead, .dead, .dead, .dead, .dead, .dead, .dead], [.box (.arr 4 (.int .u64)) (.pl (.arr 4 (.int .u64))), .box (.arr 4 (.int .u64)) (.pl (.arr 4 (.int .u64)))]⟩) | _, _ => none
theorem ev57 : ∀ x, evalFn env57 ann57 57 ⟨[.pl (.sl (.int .i64))], []⟩ ⟨[.pl (.arr 4 (.int .u64))], []⟩ 60 K0 x = pontageref1_ToUint256 x := by intro x; kernel_rfl
theorem ok57 : ConOk Try.prog 57 pontageref1_ToUint256C := con_of_ev (E := env57) (envOk tysOk eqsOk (show HowsOk Try.prog [] from trivial) follows) noOddP fun x y h => ⟨ann57, 60, K0, (ev57 x).trans h⟩
/-- pontage/pontageref1.Checked -/
noncomputable def pontageref1_CheckedC : Con := ⟨_, _, pontageref1_Checked⟩
noncomputable def env41 : Env := mkEnv Try.prog tys eqs [(56, .con pontageref1_FitsC), (57, .con pontageref1_ToUint256C)]
def ann41 : Anns := fun _ _ => none
theorem ev41 : ∀ x, evalFn env41 ann41 41 ⟨[.pl (.sl (.int .i64))], []⟩ ⟨[.pl (.arr 4 (.int .u64)), .pl (.int .i64)], []⟩ 60 K0 x = pontageref1_Checked x := by intro x; kernel_rfl
theorem ok41 : ConOk Try.prog 41 pontageref1_CheckedC := con_of_ev (E := env41) (envOk tysOk eqsOk (show HowsOk Try.prog [(56, .con pontageref1_FitsC), (57, .con pontageref1_ToUint256C)] from (And.intro ok56 (And.intro ok57 trivial))) follows) noOddP fun x y h => ⟨ann41, 60, K0, (ev41 x).trans h⟩
/-- pontage/pontageref3.Checked -/
noncomputable def pontageref3_CheckedC : Con := ⟨_, _, pontageref3_Checked⟩
noncomputable def env34 : Env := mkEnv Try.prog tys eqs [(41, .con pontageref1_CheckedC)]
def ann34 : Anns := fun _ _ => none
theorem ev34 : ∀ x, evalFn env34 ann34 34 ⟨[.pl (.cons .bool (.cons (.sl (.int .i64)) .nil))], []⟩ ⟨[.pl (.cons .bool (.cons (.arr 4 (.int .u64)) .nil)), .pl (.int .i64)], []⟩ 60 K0 x = pontageref3_Checked x := by intro x; kernel_rfl
theorem ok34 : ConOk Try.prog 34 pontageref3_CheckedC := con_of_ev (E := env34) (envOk tysOk eqsOk (show HowsOk Try.prog [(41, .con pontageref1_CheckedC)] from (And.intro ok41 trivial)) follows) noOddP fun x y h => ⟨ann34, 60, K0, (ev34 x).trans h⟩
/-- pontage/pontageref3.sign -/
noncomputable def pontageref3_signC : Con := ⟨_, _, pontageref3_sign⟩
noncomputable def env40 : Env := mkEnv Try.prog tys eqs []
def ann40 : Anns := fun _ _ => none
theorem ev40 : ∀ x, evalFn env40 ann40 40 ⟨[.pl .bool, .pl (.sl (.int .i64))], []⟩ ⟨[.pl (.cons .bool (.cons (.sl (.int .i64)) .nil))], []⟩ 60 K0 x = pontageref3_sign x := by intro x; kernel_rfl
theorem ok40 : ConOk Try.prog 40 pontageref3_signC := con_of_ev (E := env40) (envOk tysOk eqsOk (show HowsOk Try.prog [] from trivial) follows) noOddP fun x y h => ⟨ann40, 60, K0, (ev40 x).trans h⟩
/-- pontage/pontageref1.norm -/
noncomputable def pontageref1_normC : Con := ⟨_, _, pontageref1_norm⟩
noncomputable def env52 : Env := mkEnv Try.prog tys eqs []
def ann52 : Anns := fun p c => match p, c with | [52], 0 => some (.tmpl ⟨[.pl (.sl (.int .i64)), .dead, .dead, .pl (.int .i64), .dead, .dead, .dead, .dead, .dead, .dead, .dead, .dead, .dead, .dead, .dead, .dead, .dead, .dead, .dead, .dead, .dead], []⟩) | _, _ => none
theorem ev52 : ∀ x, evalFn env52 ann52 52 ⟨[.pl (.sl (.int .i64))], []⟩ ⟨[.pl (.sl (.int .i64))], []⟩ 60 K0 x = pontageref1_norm x := by intro x; kernel_rfl
theorem ok52 : ConOk Try.prog 52 pontageref1_normC := con_of_ev (E := env52) (envOk tysOk eqsOk (show HowsOk Try.prog [] from trivial) follows) noOddP fun x y h => ⟨ann52, 60, K0, (ev52 x).trans h⟩
/-- pontage/pontageref1.Cmp -/
noncomputable def pontageref1_CmpC : Con := ⟨_, _, pontageref1_Cmp⟩
noncomputable def env54 : Env := mkEnv Try.prog tys eqs []
def ann54 : Anns := fun p c => match p, c with | [54], 0 => some (.tmpl ⟨[.pl (.sl (.int .i64)), .pl (.sl (.int .i64)), .dead, .dead, .dead, .pl (.int .i64), .dead, .dead, .dead, .dead, .dead, .dead, .dead, .dead, .dead, .dead, .dead, .dead, .dead, .dead, .dead, .dead, .dead, .dead, .dead, .dead, .dead, .dead, .dead, .dead, .dead, .dead, .dead, .dead, .dead, .dead, .dead, .dead, .dead, .dead, .dead], []⟩) | _, _ => none
theorem ev54 : ∀ x, evalFn env54 ann54 54 ⟨[.pl (.sl (.int .i64)), .pl (.sl (.int .i64))], []⟩ ⟨[.pl (.int .i64)], []⟩ 60 K0 x = pontageref1_Cmp x := by intro x; kernel_rfl
theorem ok54 : ConOk Try.prog 54 pontageref1_CmpC := con_of_ev (E := env54) (envOk tysOk eqsOk (show HowsOk Try.prog [] from trivial) follows) noOddP fun x y h => ⟨ann54, 60, K0, (ev54 x).trans h⟩
/-- pontage/pontageref1.Sub -/
noncomputable def pontageref1_SubC : Con := ⟨_, _, pontageref1_Sub⟩
noncomputable def env55 : Env := mkEnv Try.prog tys eqs [(52, .con pontageref1_normC)]
def ann55 : Anns := fun p c => match p, c with | [1000000, 55], 10 => some (.join ⟨[.pl (.sl (.int .i64)), .pl (.sl (.int .i64)), .dead, .dead, .dead, .whole 0, .dead, .pl (.int .i64), .pl (.int .i64), .dead, .dead, .dead, .dead, .dead, .dead, .dead, .dead, .dead, .dead, .dead, .dead, .dead, .dead, .dead, .dead, .dead, .dead, .dead, .dead, .dead, .dead, .dead, .dead, .dead, .dead, .dead, .dead, .dead, .dead, .dead, .dead, .dead, .dead, .dead], [.row (.int .i64)]⟩) | [55], 0 => some (.tmpl ⟨[.pl (.sl (.int .i64)), .pl (.sl (.int .i64)), .dead, .dead, .dead, .whole 0, .pl (.int .i64), .pl (.int .i64), .dead, .dead, .dead, .dead, .dead, .dead, .dead, .dead, .dead, .dead, .dead, .dead, .dead, .dead, .dead, .dead, .dead, .dead, .dead, .dead, .dead, .dead, .dead, .dead, .dead, .dead, .dead, .dead, .dead, .dead, .dead, .dead, .dead, .dead, .dead, .dead], [.row (.int .i64)]⟩) | _, _ => none
theorem ev55 : ∀ x, evalFn env55 ann55 55 ⟨[.pl (.sl (.int .i64)), .pl (.sl (.int .i64))], []⟩ ⟨[.pl (.sl (.int .i64))], []⟩ 60 K0 x = pontageref1_Sub x := by intro x; kernel_rfl
theorem ok55 : ConOk Try.prog 55 pontageref1_SubC := con_of_ev (E := env55) (envOk tysOk eqsOk (show HowsOk Try.prog [(52, .con pontageref1_normC)] from (And.intro ok52 trivial)) follows) noOddP fun x y h => ⟨ann55, 60, K0, (ev55 x).trans h⟩
/-- pontage/pontageref1.short -/
noncomputable def pontageref1_shortC : Con := ⟨_, _, pontageref1_short⟩
noncomputable def env62 : Env := mkEnv Try.prog tys eqs [(52, .con pontageref1_normC)]
def ann62 : Anns := fun p c => match p, c with | [62], 0 => some (.tmpl ⟨[.pl (.sl (.int .i64)), .pl (.int .i64), .dead, .dead, .dead, .dead, .whole 0, .pl (.int .i64), .pl (.int .i64), .dead, .dead, .dead, .dead, .dead, .dead, .dead, .dead, .dead, .dead, .dead, .dead, .dead, .dead, .dead, .dead, .dead, .dead, .dead, .dead, .dead, .dead, .dead, .dead, .dead, .dead, .dead, .dead, .dead, .dead, .dead, .dead], [.row (.int .i64)]⟩) | _, _ => none
theorem ev62 : ∀ x, evalFn env62 ann62 62 ⟨[.pl (.sl (.int .i64)), .pl (.int .i64)], []⟩ ⟨[.pl (.sl (.int .i64)), .pl (.sl (.int .i64))], []⟩ 60 K0 x = pontageref1_short x := by intro x; kernel_rfl
theorem ok62 : ConOk Try.prog 62 pontageref1_shortC := con_of_ev (E := env62) (envOk tysOk eqsOk (show HowsOk Try.prog [(52, .con pontageref1_normC)] from (And.intro ok52 trivial)) follows) noOddP fun x y h => ⟨ann62, 60, K0, (ev62 x).trans h⟩
/-- pontage/pontageref1.Div -/
noncomputable def pontageref1_DivC : Con := ⟨_, _, pontageref1_Div⟩
noncomputable def env49 : Env := mkEnv Try.prog tys eqs [(52, .con pontageref1_normC), (54, .con pontageref1_CmpC), (55, .con pontageref1_SubC), (62, .con pontageref1_shortC)]
def ann49 : Anns := fun p c => match p, c with | [49], 0 => some (.tmpl ⟨[.pl (.sl (.int .i64)), .pl (.sl (.int .i64)), .dead, .dead, .dead, .dead, .whole 0, .whole 1, .pl (.int .i64), .dead, .dead, .dead, .dead, .dead, .dead, .dead, .dead, .dead, .dead, .dead, .dead, .dead, .dead, .dead, .dead, .dead, .dead, .dead, .dead, .dead, .dead, .dead, .dead, .dead, .dead, .dead, .dead, .dead, .dead, .dead, .dead, .dead, .dead, .dead, .dead, .dead, .dead, .dead, .dead, .dead, .dead, .dead, .dead, .dead, .dead, .dead, .dead, .dead, .dead, .dead, .dead, .dead, .dead, .dead, .dead, .dead, .dead, .dead, .dead, .dead, .dead, .dead, .dead, .dead, .dead, .dead, .dead, .dead, .dead, .dead, .dead, .dead, .dead, .dead, .dead, .dead, .dead, .dead, .dead, .dead, .dead, .dead, .dead, .dead, .dead, .dead, .dead, .dead, .dead, .dead, .dead, .dead, .dead, .dead, .dead, .dead, .dead, .dead, .dead, .dead, .dead, .dead, .dead, .dead], [.row (.int .i64), .row (.int .i64)]⟩) | [49], 2 => some (.tmpl ⟨[.pl (.sl (.int .i64)), .pl (.sl (.int .i64)), .dead, .dead, .dead, .dead, .whole 0, .whole 1, .pl (.int .i64), .pl (.int .i64), .dead, .dead, .dead, .dead, .dead, .dead, .dead, .dead, .dead, .dead, .dead, .dead, .dead, .dead, .dead, .dead, .dead, .dead, .dead, .dead, .dead, .dead, .dead, .dead, .dead, .dead, .dead, .dead, .dead, .dead, .dead, .dead, .dead, .dead, .dead, .dead, .dead, .dead, .dead, .dead, .dead, .dead, .dead, .dead, .dead, .dead, .dead, .dead, .dead, .dead, .dead, .dead, .dead, .dead, .dead, .dead, .dead, .dead, .dead, .dead, .dead, .dead, .dead, .dead, .dead, .dead, .dead, .dead, .dead, .dead, .dead, .dead, .dead, .dead, .dead, .dead, .dead, .dead, .dead, .dead, .dead, .dead, .dead, .dead, .dead, .dead, .dead, .dead, .dead, .dead, .dead, .dead, .dead, .dead, .dead, .dead, .dead, .dead, .dead, .dead, .dead, .dead, .dead, .dead], [.row (.int .i64), .row (.int .i64)]⟩) | [49], 4 => some (.tmpl ⟨[.pl (.sl (.int .i64)), .pl (.sl (.int .i64)), .dead, .dead, .dead, .dead, .whole 0, .whole 1, .pl (.int .i64), .pl (.int .i64), .pl (.int .i64), .pl (.int .i64), .dead, .dead, .dead, .dead, .dead, .dead, .dead, .dead, .dead, .dead, .dead, .dead, .dead, .dead, .dead, .dead, .dead, .dead, .dead, .dead, .dead, .dead, .dead, .dead, .dead, .dead, .dead, .dead, .dead, .dead, .dead, .dead, .dead, .dead, .dead, .dead, .dead, .dead, .dead, .dead, .dead, .dead, .dead, .dead, .dead, .dead, .dead, .dead, .dead, .dead, .dead, .dead, .dead, .dead, .dead, .dead, .dead, .dead, .dead, .dead, .dead, .dead, .dead, .dead, .dead, .dead, .dead, .dead, .dead, .dead, .dead, .dead, .dead, .dead, .dead, .dead, .dead, .dead, .dead, .dead, .dead, .dead, .dead, .dead, .dead, .dead, .dead, .dead, .dead, .dead, .dead, .dead, .dead, .dead, .dead, .dead, .dead, .dead, .dead, .dead, .dead, .dead], [.row (.int .i64), .row (.int .i64)]⟩) | _, _ => none
theorem ev49 : ∀ x, evalFn env49 ann49 49 ⟨[.pl (.sl (.int .i64)), .pl (.sl (.int .i64))], []⟩ ⟨[.pl (.sl (.int .i64)), .pl (.sl (.int .i64))], []⟩ 60 K0 x = pontageref1_Div x := by intro x; kernel_rfl
theorem ok49 : ConOk Try.prog 49 pontageref1_DivC := con_of_ev (E := env49) (envOk tysOk eqsOk (show HowsOk Try.prog [(52, .con pontageref1_normC), (54, .con pontageref1_CmpC), (55, .con pontageref1_SubC), (62, .con pontageref1_shortC)] from (And.intro ok52 (And.intro ok54 (And.intro ok55 (And.intro ok62 trivial))))) follows) noOddP fun x y h => ⟨ann49, 60, K0, (ev49 x).trans h⟩
/-- pontage/pontageref1.Add -/
noncomputable def pontageref1_AddC : Con := ⟨_, _, pontageref1_Add⟩
noncomputable def env50 : Env := mkEnv Try.prog tys eqs []
def ann50 : Anns := fun p c => match p, c with | [1000000, 50], 7 => some (.join ⟨[.pl (.sl (.int .i64)), .pl (.sl (.int .i64)), .dead, .dead, .dead, .whole 0, .pl (.int .i64), .pl (.int .i64), .dead, .dead, .dead, .dead, .dead, .dead, .dead, .dead, .dead, .dead, .dead, .dead, .dead, .dead, .dead, .dead, .dead, .dead, .dead, .dead, .dead, .dead, .dead, .dead, .dead, .dead, .dead, .dead, .dead, .dead, .dead, .dead, .dead, .dead, .dead, .dead, .dead, .dead, .dead, .dead, .dead, .dead, .dead, .dead], [.row (.int .i64)]⟩) | [1000000, 50], 9 => some (.join ⟨[.pl (.sl (.int .i64)), .pl (.sl (.int .i64)), .dead, .dead, .dead, .whole 0, .pl (.int .i64), .pl (.int .i64), .dead, .dead, .dead, .dead, .dead, .dead, .dead, .dead, .dead, .dead, .dead, .dead, .dead, .dead, .dead, .dead, .dead, .dead, .dead, .dead, .dead, .dead, .dead, .dead, .dead, .dead, .dead, .dead, .dead, .dead, .dead, .dead, .dead, .dead, .dead, .dead, .dead, .dead, .dead, .dead, .dead, .dead, .dead, .dead], [.row (.int .i64)]⟩) | [50], 0 => some (.tmpl ⟨[.pl (.sl (.int .i64)), .pl (.sl (.int .i64)), .dead, .dead, .dead, .whole 0, .pl (.int .i64), .pl (.int .i64), .dead, .dead, .dead, .dead, .dead, .dead, .dead, .dead, .dead, .dead, .dead, .dead, .dead, .dead, .dead, .dead, .dead, .dead, .dead, .dead, .dead, .dead, .dead, .dead, .dead, .dead, .dead, .dead, .dead, .dead, .dead, .dead, .dead, .dead, .dead, .dead, .dead, .dead, .dead, .dead, .dead, .dead, .dead, .dead], [.row (.int .i64)]⟩) | _, _ => none
theorem ev50 : ∀ x, evalFn env50 ann50 50 ⟨[.pl (.sl (.int .i64)), .pl (.sl (.int .i64))], []⟩ ⟨[.pl (.sl (.int .i64))], []⟩ 60 K0 x = pontageref1_Add x := by intro x; kernel_rfl
theorem ok50 : ConOk Try.prog 50 pontageref1_AddC := con_of_ev (E := env50) (envOk tysOk eqsOk (show HowsOk Try.prog [] from trivial) follows) noOddP fun x y h => ⟨ann50, 60, K0, (ev50 x).trans h⟩
/-- pontage/pontageref1.FromUint256 -/
noncomputable def pontageref1_FromUint256C : Con := ⟨_, _, pontageref1_FromUint256⟩
noncomputable def env37 : Env := mkEnv Try.prog tys eqs [(52, .con pontageref1_normC)]
def ann37 : Anns := fun p c => match p, c with | [37], 0 => some (.tmpl ⟨[.dead, .ptr 0 [], .dead, .whole 1, .pl (.int .i64), .dead, .dead, .dead, .dead, .dead, .dead, .dead, .dead, .dead, .dead, .dead, .dead, .dead, .dead, .dead, .dead, .dead, .dead, .dead, .dead, .dead], [.box (.arr 4 (.int .u64)) (.pl (.arr 4 (.int .u64))), .row (.int .i64)]⟩) | _, _ => none
theorem ev37 : ∀ x, evalFn env37 ann37 37 ⟨[.pl (.arr 4 (.int .u64))], []⟩ ⟨[.pl (.sl (.int .i64))], []⟩ 60 K0 x = pontageref1_FromUint256 x := by intro x; kernel_rfl
theorem ok37 : ConOk Try.prog 37 pontageref1_FromUint256C := con_of_ev (E := env37) (envOk tysOk eqsOk (show HowsOk Try.prog [(52, .con pontageref1_normC)] from (And.intro ok52 trivial)) follows) noOddP fun x y h => ⟨ann37, 60, K0, (ev37 x).trans h⟩
/-- pontage/pontageref1.FromUint64 -/
noncomputable def pontageref1_FromUint64C : Con := ⟨_, _, pontageref1_FromUint64⟩
noncomputable def env51 : Env := mkEnv Try.prog tys eqs [(37, .con pontageref1_FromUint256C)]
def ann51 : Anns := fun _ _ => none
theorem ev51 : ∀ x, evalFn env51 ann51 51 ⟨[.pl (.int .u64)], []⟩ ⟨[.pl (.sl (.int .i64))], []⟩ 60 K0 x = pontageref1_FromUint64 x := by intro x; kernel_rfl
theorem ok51 : ConOk Try.prog 51 pontageref1_FromUint64C := con_of_ev (E := env51) (envOk tysOk eqsOk (show HowsOk Try.prog [(37, .con pontageref1_FromUint256C)] from (And.intro ok37 trivial)) follows) noOddP fun x y h => ⟨ann51, 60, K0, (ev51 x).trans h⟩
/-- pontage/pontageref3.DivFloor -/
noncomputable def pontageref3_DivFloorC : Con := ⟨_, _, pontageref3_DivFloor⟩
noncomputable def env35 : Env := mkEnv Try.prog tys eqs [(40, .con pontageref3_signC), (49, .con pontageref1_DivC), (50, .con pontageref1_AddC), (51, .con pontageref1_FromUint64C)]
def ann35 : Anns := fun p c => match p, c with | [1000000, 35], 4 => some (.join ⟨[.dead, .dead, .ptr 0 [], .dead, .ptr 1 [], .pl (.sl (.int .i64)), .dead, .dead, .dead, .dead, .dead, .dead, .dead, .dead, .dead, .dead, .dead, .dead, .dead, .dead, .pl .bool, .dead, .dead, .dead, .dead, .dead, .dead, .dead], [.box (.cons .bool (.cons (.sl (.int .i64)) .nil)) (.pl (.cons .bool (.cons (.sl (.int .i64)) .nil))), .box (.cons .bool (.cons (.sl (.int .i64)) .nil)) (.pl (.cons .bool (.cons (.sl (.int .i64)) .nil)))]⟩) | _, _ => none
theorem ev35 : ∀ x, evalFn env35 ann35 35 ⟨[.pl (.cons .bool (.cons (.sl (.int .i64)) .nil)), .pl (.sl (.int .i64))], []⟩ ⟨[.pl (.cons .bool (.cons (.sl (.int .i64)) .nil))], []⟩ 60 K0 x = pontageref3_DivFloor x := by intro x; kernel_rfl
theorem ok35 : ConOk Try.prog 35 pontageref3_DivFloorC := con_of_ev (E := env35) (envOk tysOk eqsOk (show HowsOk Try.prog [(40, .con pontageref3_signC), (49, .con pontageref1_DivC), (50, .con pontageref1_AddC), (51, .con pontageref1_FromUint64C)] from (And.intro ok40 (And.intro ok49 (And.intro ok50 (And.intro ok51 trivial))))) follows) noOddP fun x y h => ⟨ann35, 60, K0, (ev35 x).trans h⟩
/-- pontage/pontageref3.FromInt256 -/
noncomputable def pontageref3_FromInt256C : Con := ⟨_, _, pontageref3_FromInt256⟩
noncomputable def env36 : Env := mkEnv Try.prog tys eqs [(37, .con pontageref1_FromUint256C), (40, .con pontageref3_signC)]
def ann36 : Anns := fun _ _ => none
theorem ev36 : ∀ x, evalFn env36 ann36 36 ⟨[.pl (.cons .bool (.cons (.arr 4 (.int .u64)) .nil))], []⟩ ⟨[.pl (.cons .bool (.cons (.sl (.int .i64)) .nil))], []⟩ 60 K0 x = pontageref3_FromInt256 x := by intro x; kernel_rfl
theorem ok36 : ConOk Try.prog 36 pontageref3_FromInt256C := con_of_ev (E := env36) (envOk tysOk eqsOk (show HowsOk Try.prog [(37, .con pontageref1_FromUint256C), (40, .con pontageref3_signC)] from (And.intro ok37 (And.intro ok40 trivial))) follows) noOddP fun x y h => ⟨ann36, 60, K0, (ev36 x).trans h⟩
/-- pontage/pontageref3.DivFloor256 -/
noncomputable def pontageref3_DivFloor256C : Con := ⟨_, _, pontageref3_DivFloor256⟩
noncomputable def env11 : Env := mkEnv Try.prog tys eqs [(18, .con pontageref3_ValidC), (33, .con pontageref1_IsZeroC), (34, .con pontageref3_CheckedC), (35, .con pontageref3_DivFloorC), (36, .con pontageref3_FromInt256C), (37, .con pontageref1_FromUint256C)]
def ann11 : Anns := fun _ _ => none
theorem ev11 : ∀ x, evalFn env11 ann11 11 ⟨[.pl (.cons .bool (.cons (.arr 4 (.int .u64)) .nil)), .pl (.arr 4 (.int .u64))], []⟩ ⟨[.pl (.cons .bool (.cons (.arr 4 (.int .u64)) .nil)), .pl (.int .i64)], []⟩ 60 K0 x = pontageref3_DivFloor256 x := by intro x; kernel_rfl
theorem ok11 : ConOk Try.prog 11 pontageref3_DivFloor256C := con_of_ev (E := env11) (envOk tysOk eqsOk (show HowsOk Try.prog [(18, .con pontageref3_ValidC), (33, .con pontageref1_IsZeroC), (34, .con pontageref3_CheckedC), (35, .con pontageref3_DivFloorC), (36, .con pontageref3_FromInt256C), (37, .con pontageref1_FromUint256C)] from (And.intro ok18 (And.intro ok33 (And.intro ok34 (And.intro ok35 (And.intro ok36 (And.intro ok37 trivial))))))) follows) noOddP fun x y h => ⟨ann11, 60, K0, (ev11 x).trans h⟩
/-- pontage/uint256.Sub -/
noncomputable def uint256_SubC : Con := ⟨_, _, uint256_Sub⟩
noncomputable def env53 : Env := mkEnv Try.prog tys eqs [(63, .con sub64C)]
def ann53 : Anns := fun p _ => match p with | 1000000 :: _ => none | _ => some (.unroll 6)
theorem ev53 : ∀ x, evalFn env53 ann53 53 ⟨[.pl (.arr 4 (.int .u64)), .pl (.arr 4 (.int .u64))], []⟩ ⟨[.pl (.arr 4 (.int .u64)), .pl (.int .i64)], []⟩ 60 K0 x = uint256_Sub x := by intro x; kernel_rfl
theorem ok53 : ConOk Try.prog 53 uint256_SubC := con_of_ev (E := env53) (envOk tysOk eqsOk (show HowsOk Try.prog [(63, .con sub64C)] from (And.intro ok63 trivial)) follows) noOddP fun x y h => ⟨ann53, 60, K0, (ev53 x).trans h⟩
/-- pontage/uint256.SaturatingSub -/
noncomputable def uint256_SaturatingSubC : Con := ⟨_, _, uint256_SaturatingSub⟩
noncomputable def env38 : Env := mkEnv Try.prog tys eqs [(53, .con uint256_SubC)]
def ann38 : Anns := fun _ _ => none
theorem ev38 : ∀ x, evalFn env38 ann38 38 ⟨[.pl (.arr 4 (.int .u64)), .pl (.arr 4 (.int .u64))], []⟩ ⟨[.pl (.arr 4 (.int .u64))], []⟩ 60 K0 x = uint256_SaturatingSub x := by intro x; kernel_rfl
theorem ok38 : ConOk Try.prog 38 uint256_SaturatingSubC := con_of_ev (E := env38) (envOk tysOk eqsOk (show HowsOk Try.prog [(53, .con uint256_SubC)] from (And.intro ok53 trivial)) follows) noOddP fun x y h => ⟨ann38, 60, K0, (ev38 x).trans h⟩
/-- pontage/int256.AddClamped -/
noncomputable def int256_AddClampedC : Con := ⟨_, _, int256_AddClamped⟩
noncomputable def env13 : Env := mkEnv Try.prog tys eqs [(20, .con int256_ValidC), (31, .con uint256_AddC), (38, .con uint256_SaturatingSubC)]
def ann13 : Anns := fun _ _ => none
theorem ev13 : ∀ x, evalFn env13 ann13 13 ⟨[.pl (.arr 4 (.int .u64)), .pl (.cons .bool (.cons (.arr 4 (.int .u64)) .nil))], []⟩ ⟨[.pl (.arr 4 (.int .u64)), .pl (.int .i64)], []⟩ 60 K0 x = int256_AddClamped x := by intro x; kernel_rfl
theorem ok13 : ConOk Try.prog 13 int256_AddClampedC := con_of_ev (E := env13) (envOk tysOk eqsOk (show HowsOk Try.prog [(20, .con int256_ValidC), (31, .con uint256_AddC), (38, .con uint256_SaturatingSubC)] from (And.intro ok20 (And.intro ok31 (And.intro ok38 trivial)))) follows) noOddP fun x y h => ⟨ann13, 60, K0, (ev13 x).trans h⟩
/-- pontage/int256.FromInt64 -/
noncomputable def int256_FromInt64C : Con := ⟨_, _, int256_FromInt64⟩
noncomputable def env23 : Env := mkEnv Try.prog tys eqs [(32, .con uint256_FromUint64C)]
def ann23 : Anns := fun _ _ => none
theorem ev23 : ∀ x, evalFn env23 ann23 23 ⟨[.pl (.int .i64)], []⟩ ⟨[.pl (.cons .bool (.cons (.arr 4 (.int .u64)) .nil))], []⟩ 60 K0 x = int256_FromInt64 x := by intro x; kernel_rfl
theorem ok23 : ConOk Try.prog 23 int256_FromInt64C := con_of_ev (E := env23) (envOk tysOk eqsOk (show HowsOk Try.prog [(32, .con uint256_FromUint64C)] from (And.intro ok32 trivial)) follows) noOddP fun x y h => ⟨ann23, 60, K0, (ev23 x).trans h⟩
/-- pontage/pontagelaw3.awake -/
noncomputable def pontagelaw3_awakeC : Con := ⟨_, _, pontagelaw3_awake⟩
noncomputable def env12 : Env := mkEnv Try.prog tys eqs [(10, .con int256_DivFloorC), (13, .con int256_AddClampedC), (20, .con int256_ValidC), (23, .con int256_FromInt64C)]
def ann12 : Anns := fun _ _ => none
theorem ev12 : ∀ x, evalFn env12 ann12 12 ⟨[], []⟩ ⟨[.pl .bool], []⟩ 60 K0 x = pontagelaw3_awake x := by intro x; kernel_rfl
theorem ok12 : ConOk Try.prog 12 pontagelaw3_awakeC := con_of_ev (E := env12) (envOk tysOk eqsOk (show HowsOk Try.prog [(10, .con int256_DivFloorC), (13, .con int256_AddClampedC), (20, .con int256_ValidC), (23, .con int256_FromInt64C)] from (And.intro ok10 (And.intro ok13 (And.intro ok20 (And.intro ok23 trivial))))) follows) noOddP fun x y h => ⟨ann12, 60, K0, (ev12 x).trans h⟩
/-- pontage/pontagelaw3.Int256DivFloor -/
noncomputable def pontagelaw3_Int256DivFloorC : Con := ⟨_, _, pontagelaw3_Int256DivFloor⟩
noncomputable def env3 : Env := mkEnv Try.prog tys eqs [(10, .con int256_DivFloorC), (11, .con pontageref3_DivFloor256C), (12, .con pontagelaw3_awakeC)]
def ann3 : Anns := fun _ _ => none
theorem ev3 : ∀ x, evalFn env3 ann3 3 ⟨[.pl (.cons .bool (.cons (.arr 4 (.int .u64)) .nil)), .pl (.arr 4 (.int .u64)), .pl (.int .u64)], []⟩ ⟨[.pl .bool], []⟩ 60 K0 x = pontagelaw3_Int256DivFloor x := by intro x; kernel_rfl
theorem ok3 : ConOk Try.prog 3 pontagelaw3_Int256DivFloorC := con_of_ev (E := env3) (envOk tysOk eqsOk (show HowsOk Try.prog [(10, .con int256_DivFloorC), (11, .con pontageref3_DivFloor256C), (12, .con pontagelaw3_awakeC)] from (And.intro ok10 (And.intro ok11 (And.intro ok12 trivial)))) follows) noOddP fun x y h => ⟨ann3, 60, K0, (ev3 x).trans h⟩
/-- pontage/pontageref3.Add -/
noncomputable def pontageref3_AddC : Con := ⟨_, _, pontageref3_Add⟩
noncomputable def env39 : Env := mkEnv Try.prog tys eqs [(40, .con pontageref3_signC), (50, .con pontageref1_AddC), (54, .con pontageref1_CmpC), (55, .con pontageref1_SubC)]
def ann39 : Anns := fun _ _ => none
theorem ev39 : ∀ x, evalFn env39 ann39 39 ⟨[.pl (.cons .bool (.cons (.sl (.int .i64)) .nil)), .pl (.cons .bool (.cons (.sl (.int .i64)) .nil))], []⟩ ⟨[.pl (.cons .bool (.cons (.sl (.int .i64)) .nil))], []⟩ 60 K0 x = pontageref3_Add x := by intro x; kernel_rfl
theorem ok39 : ConOk Try.prog 39 pontageref3_AddC := con_of_ev (E := env39) (envOk tysOk eqsOk (show HowsOk Try.prog [(40, .con pontageref3_signC), (50, .con pontageref1_AddC), (54, .con pontageref1_CmpC), (55, .con pontageref1_SubC)] from (And.intro ok40 (And.intro ok50 (And.intro ok54 (And.intro ok55 trivial))))) follows) noOddP fun x y h => ⟨ann39, 60, K0, (ev39 x).trans h⟩
/-- pontage/pontageref3.AddClamped -/
noncomputable def pontageref3_AddClampedC : Con := ⟨_, _, pontageref3_AddClamped⟩
noncomputable def env14 : Env := mkEnv Try.prog tys eqs [(18, .con pontageref3_ValidC), (36, .con pontageref3_FromInt256C), (37, .con pontageref1_FromUint256C), (39, .con pontageref3_AddC), (40, .con pontageref3_signC), (41, .con pontageref1_CheckedC)]
def ann14 : Anns := fun _ _ => none
theorem ev14 : ∀ x, evalFn env14 ann14 14 ⟨[.pl (.arr 4 (.int .u64)), .pl (.cons .bool (.cons (.arr 4 (.int .u64)) .nil))], []⟩ ⟨[.pl (.arr 4 (.int .u64)), .pl (.int .i64)], []⟩ 60 K0 x = pontageref3_AddClamped x := by intro x; kernel_rfl
theorem ok14 : ConOk Try.prog 14 pontageref3_AddClampedC := con_of_ev (E := env14) (envOk tysOk eqsOk (show HowsOk Try.prog [(18, .con pontageref3_ValidC), (36, .con pontageref3_FromInt256C), (37, .con pontageref1_FromUint256C), (39, .con pontageref3_AddC), (40, .con pontageref3_signC), (41, .con pontageref1_CheckedC)] from (And.intro ok18 (And.intro ok36 (And.intro ok37 (And.intro ok39 (And.intro ok40 (And.intro ok41 trivial))))))) follows) noOddP fun x y h => ⟨ann14, 60, K0, (ev14 x).trans h⟩
/-- pontage/int256.Diff -/
noncomputable def int256_DiffC : Con := ⟨_, _, int256_Diff⟩
noncomputable def env15 : Env := mkEnv Try.prog tys eqs [(19, .con int256_NewC), (38, .con uint256_SaturatingSubC), (42, .con uint256_CmpC)]
def ann15 : Anns := fun _ _ => none
theorem ev15 : ∀ x, evalFn env15 ann15 15 ⟨[.pl (.arr 4 (.int .u64)), .pl (.arr 4 (.int .u64))], []⟩ ⟨[.pl (.cons .bool (.cons (.arr 4 (.int .u64)) .nil))], []⟩ 60 K0 x = int256_Diff x := by intro x; kernel_rfl
theorem ok15 : ConOk Try.prog 15 int256_DiffC := con_of_ev (E := env15) (envOk tysOk eqsOk (show HowsOk Try.prog [(19, .con int256_NewC), (38, .con uint256_SaturatingSubC), (42, .con uint256_CmpC)] from (And.intro ok19 (And.intro ok38 (And.intro ok42 trivial)))) follows) noOddP fun x y h => ⟨ann15, 60, K0, (ev15 x).trans h⟩
/-- pontage/pontageref3.Diff -/
noncomputable def pontageref3_DiffC : Con := ⟨_, _, pontageref3_Diff⟩
noncomputable def env16 : Env := mkEnv Try.prog tys eqs [(34, .con pontageref3_CheckedC), (37, .con pontageref1_FromUint256C), (39, .con pontageref3_AddC), (40, .con pontageref3_signC)]
def ann16 : Anns := fun _ _ => none
theorem ev16 : ∀ x, evalFn env16 ann16 16 ⟨[.pl (.arr 4 (.int .u64)), .pl (.arr 4 (.int .u64))], []⟩ ⟨[.pl (.cons .bool (.cons (.arr 4 (.int .u64)) .nil))], []⟩ 60 K0 x = pontageref3_Diff x := by intro x; kernel_rfl
theorem ok16 : ConOk Try.prog 16 pontageref3_DiffC := con_of_ev (E := env16) (envOk tysOk eqsOk (show HowsOk Try.prog [(34, .con pontageref3_CheckedC), (37, .con pontageref1_FromUint256C), (39, .con pontageref3_AddC), (40, .con pontageref3_signC)] from (And.intro ok34 (And.intro ok37 (And.intro ok39 (And.intro ok40 trivial))))) follows) noOddP fun x y h => ⟨ann16, 60, K0, (ev16 x).trans h⟩
/-- pontage/pontagelaw3.Int256DiffAddClamped -/
noncomputable def pontagelaw3_Int256DiffAddClampedC : Con := ⟨_, _, pontagelaw3_Int256DiffAddClamped⟩
noncomputable def env4 : Env := mkEnv Try.prog tys eqs [(12, .con pontagelaw3_awakeC), (13, .con int256_AddClampedC), (14, .con pontageref3_AddClampedC), (15, .con int256_DiffC), (16, .con pontageref3_DiffC)]
def ann4 : Anns := fun _ _ => none
theorem ev4 : ∀ x, evalFn env4 ann4 4 ⟨[.pl (.arr 4 (.int .u64)), .pl (.arr 4 (.int .u64)), .pl (.cons .bool (.cons (.arr 4 (.int .u64)) .nil))], []⟩ ⟨[.pl .bool], []⟩ 60 K0 x = pontagelaw3_Int256DiffAddClamped x := by intro x; kernel_rfl
theorem ok4 : ConOk Try.prog 4 pontagelaw3_Int256DiffAddClampedC := con_of_ev (E := env4) (envOk tysOk eqsOk (show HowsOk Try.prog [(12, .con pontagelaw3_awakeC), (13, .con int256_AddClampedC), (14, .con pontageref3_AddClampedC), (15, .con int256_DiffC), (16, .con pontageref3_DiffC)] from (And.intro ok12 (And.intro ok13 (And.intro ok14 (And.intro ok15 (And.intro ok16 trivial)))))) follows) noOddP fun x y h => ⟨ann4, 60, K0, (ev4 x).trans h⟩
/-- pontage/int256.Neg -/
noncomputable def int256_NegC : Con := ⟨_, _, int256_Neg⟩
noncomputable def env17 : Env := mkEnv Try.prog tys eqs [(19, .con int256_NewC), (20, .con int256_ValidC)]
def ann17 : Anns := fun _ _ => none
theorem ev17 : ∀ x, evalFn env17 ann17 17 ⟨[.pl (.cons .bool (.cons (.arr 4 (.int .u64)) .nil))], []⟩ ⟨[.pl (.cons .bool (.cons (.arr 4 (.int .u64)) .nil)), .pl (.int .i64)], []⟩ 60 K0 x = int256_Neg x := by intro x; kernel_rfl
theorem ok17 : ConOk Try.prog 17 int256_NegC := con_of_ev (E := env17) (envOk tysOk eqsOk (show HowsOk Try.prog [(19, .con int256_NewC), (20, .con int256_ValidC)] from (And.intro ok19 (And.intro ok20 trivial))) follows) noOddP fun x y h => ⟨ann17, 60, K0, (ev17 x).trans h⟩
/-- pontage/int256.Cmp -/
noncomputable def int256_CmpC : Con := ⟨_, _, int256_Cmp⟩
noncomputable def env21 : Env := mkEnv Try.prog tys eqs [(20, .con int256_ValidC), (42, .con uint256_CmpC)]
def ann21 : Anns := fun p c => match p, c with | [1000000, 21], 3 => some (.join ⟨[.dead, .dead, .ptr 0 [], .ptr 1 [], .dead, .pl .bool, .dead, .dead, .dead, .dead, .dead, .dead, .dead, .dead, .dead, .dead, .dead, .dead, .dead, .dead, .dead, .dead, .dead, .dead, .dead, .dead, .dead, .dead, .dead, .dead, .dead, .dead, .dead, .dead, .dead, .dead, .dead], [.box (.cons .bool (.cons (.arr 4 (.int .u64)) .nil)) (.pl (.cons .bool (.cons (.arr 4 (.int .u64)) .nil))), .box (.cons .bool (.cons (.arr 4 (.int .u64)) .nil)) (.pl (.cons .bool (.cons (.arr 4 (.int .u64)) .nil)))]⟩) | [1000000, 21], 5 => some (.join ⟨[.dead, .dead, .ptr 0 [], .ptr 1 [], .dead, .dead, .dead, .dead, .dead, .dead, .dead, .dead, .dead, .dead, .pl .bool, .dead, .dead, .dead, .dead, .dead, .dead, .dead, .dead, .dead, .dead, .dead, .dead, .dead, .dead, .dead, .dead, .dead, .dead, .dead, .dead, .dead, .dead], [.box (.cons .bool (.cons (.arr 4 (.int .u64)) .nil)) (.pl (.cons .bool (.cons (.arr 4 (.int .u64)) .nil))), .box (.cons .bool (.cons (.arr 4 (.int .u64)) .nil)) (.pl (.cons .bool (.cons (.arr 4 (.int .u64)) .nil)))]⟩) | _, _ => none
theorem ev21 : ∀ x, evalFn env21 ann21 21 ⟨[.pl (.cons .bool (.cons (.arr 4 (.int .u64)) .nil)), .pl (.cons .bool (.cons (.arr 4 (.int .u64)) .nil))], []⟩ ⟨[.pl (.int .i64)], []⟩ 60 K0 x = int256_Cmp x := by intro x; kernel_rfl
theorem ok21 : ConOk Try.prog 21 int256_CmpC := con_of_ev (E := env21) (envOk tysOk eqsOk (show HowsOk Try.prog [(20, .con int256_ValidC), (42, .con uint256_CmpC)] from (And.intro ok20 (And.intro ok42 trivial))) follows) noOddP fun x y h => ⟨ann21, 60, K0, (ev21 x).trans h⟩
/-- pontage/pontageref3.Negate -/
noncomputable def pontageref3_NegateC : Con := ⟨_, _, pontageref3_Negate⟩
noncomputable def env43 : Env := mkEnv Try.prog tys eqs [(40, .con pontageref3_signC)]
def ann43 : Anns := fun _ _ => none
theorem ev43 : ∀ x, evalFn env43 ann43 43 ⟨[.pl (.cons .bool (.cons (.sl (.int .i64)) .nil))], []⟩ ⟨[.pl (.cons .bool (.cons (.sl (.int .i64)) .nil))], []⟩ 60 K0 x = pontageref3_Negate x := by intro x; kernel_rfl
theorem ok43 : ConOk Try.prog 43 pontageref3_NegateC := con_of_ev (E := env43) (envOk tysOk eqsOk (show HowsOk Try.prog [(40, .con pontageref3_signC)] from (And.intro ok40 trivial)) follows) noOddP fun x y h => ⟨ann43, 60, K0, (ev43 x).trans h⟩
/-- pontage/pontageref3.Cmp -/
noncomputable def pontageref3_CmpC : Con := ⟨_, _, pontageref3_Cmp⟩
noncomputable def env22 : Env := mkEnv Try.prog tys eqs [(18, .con pontageref3_ValidC), (36, .con pontageref3_FromInt256C), (39, .con pontageref3_AddC), (43, .con pontageref3_NegateC)]
def ann22 : Anns := fun p c => match p, c with | [1000000, 22], 4 => some (.join ⟨[.dead, .dead, .ptr 0 [], .ptr 1 [], .dead, .dead, .dead, .dead, .dead, .dead, .dead, .dead, .dead, .dead, .dead, .dead, .dead, .dead, .dead, .dead, .dead, .dead, .dead, .dead, .dead, .dead], [.box (.cons .bool (.cons (.arr 4 (.int .u64)) .nil)) (.pl (.cons .bool (.cons (.arr 4 (.int .u64)) .nil))), .box (.cons .bool (.cons (.arr 4 (.int .u64)) .nil)) (.pl (.cons .bool (.cons (.arr 4 (.int .u64)) .nil)))]⟩) | _, _ => none
theorem ev22 : ∀ x, evalFn env22 ann22 22 ⟨[.pl (.cons .bool (.cons (.arr 4 (.int .u64)) .nil)), .pl (.cons .bool (.cons (.arr 4 (.int .u64)) .nil))], []⟩ ⟨[.pl (.int .i64)], []⟩ 60 K0 x = pontageref3_Cmp x := by intro x; kernel_rfl
theorem ok22 : ConOk Try.prog 22 pontageref3_CmpC := con_of_ev (E := env22) (envOk tysOk eqsOk (show HowsOk Try.prog [(18, .con pontageref3_ValidC), (36, .con pontageref3_FromInt256C), (39, .con pontageref3_AddC), (43, .con pontageref3_NegateC)] from (And.intro ok18 (And.intro ok36 (And.intro ok39 (And.intro ok43 trivial))))) follows) noOddP fun x y h => ⟨ann22, 60, K0, (ev22 x).trans h⟩
/-- pontage/pontageref3.FromInt64 -/
noncomputable def pontageref3_FromInt64C : Con := ⟨_, _, pontageref3_FromInt64⟩
noncomputable def env24 : Env := mkEnv Try.prog tys eqs []
def ann24 : Anns := fun _ _ => none
theorem ev24 : ∀ x, evalFn env24 ann24 24 ⟨[.pl (.int .i64)], []⟩ ⟨[.pl (.cons .bool (.cons (.arr 4 (.int .u64)) .nil))], []⟩ 60 K0 x = pontageref3_FromInt64 x := by intro x; kernel_rfl
theorem ok24 : ConOk Try.prog 24 pontageref3_FromInt64C := con_of_ev (E := env24) (envOk tysOk eqsOk (show HowsOk Try.prog [] from trivial) follows) noOddP fun x y h => ⟨ann24, 60, K0, (ev24 x).trans h⟩
/-- pontage/pontagelaw3.Int256Order -/
noncomputable def pontagelaw3_Int256OrderC : Con := ⟨_, _, pontagelaw3_Int256Order⟩
noncomputable def env5 : Env := mkEnv Try.prog tys eqs [(12, .con pontagelaw3_awakeC), (17, .con int256_NegC), (18, .con pontageref3_ValidC), (19, .con int256_NewC), (20, .con int256_ValidC), (21, .con int256_CmpC), (22, .con pontageref3_CmpC), (23, .con int256_FromInt64C), (24, .con pontageref3_FromInt64C)]
def ann5 : Anns := fun p c => match p, c with | [1000000, 5], 5 => some (.join ⟨[.dead, .dead, .pl (.int .i64), .pl .bool, .ptr 0 [], .ptr 1 [], .dead, .dead, .dead, .ptr 2 [], .pl (.int .i64), .ptr 3 [], .dead, .dead, .dead, .dead, .dead, .dead, .dead, .dead, .dead, .dead, .dead, .dead, .dead, .dead, .dead, .dead, .dead, .dead, .dead, .dead, .dead, .dead, .dead, .dead, .dead, .dead, .dead, .dead, .dead, .dead, .dead, .dead, .dead, .dead, .dead, .dead, .dead, .dead, .dead, .dead, .dead, .dead, .dead, .dead, .dead, .dead, .dead, .dead, .dead, .dead, .dead, .dead, .dead, .dead, .dead, .dead, .dead, .dead, .dead, .dead, .dead, .dead, .dead, .dead, .dead, .dead, .dead, .dead, .dead, .dead, .dead, .dead, .dead, .dead, .dead, .dead, .dead, .dead, .dead, .dead, .dead, .dead, .dead, .dead, .dead], [.box (.cons .bool (.cons (.arr 4 (.int .u64)) .nil)) (.pl (.cons .bool (.cons (.arr 4 (.int .u64)) .nil))), .box (.cons .bool (.cons (.arr 4 (.int .u64)) .nil)) (.pl (.cons .bool (.cons (.arr 4 (.int .u64)) .nil))), .box (.cons .bool (.cons (.arr 4 (.int .u64)) .nil)) (.pl (.cons .bool (.cons (.arr 4 (.int .u64)) .nil))), .box (.cons .bool (.cons (.arr 4 (.int .u64)) .nil)) (.pl (.cons .bool (.cons (.arr 4 (.int .u64)) .nil)))]⟩) | [1000000, 5], 9 => some (.join ⟨[.dead, .dead, .pl (.int .i64), .pl .bool, .ptr 0 [], .ptr 1 [], .dead, .dead, .dead, .dead, .dead, .dead, .dead, .dead, .dead, .dead, .dead, .dead, .dead, .dead, .dead, .dead, .dead, .dead, .dead, .dead, .dead, .dead, .dead, .dead, .dead, .dead, .dead, .dead, .dead, .dead, .dead, .dead, .dead, .dead, .dead, .dead, .dead, .dead, .dead, .dead, .dead, .dead, .dead, .dead, .dead, .dead, .dead, .dead, .dead, .dead, .dead, .dead, .dead, .dead, .dead, .dead, .dead, .dead, .dead, .dead, .dead, .dead, .dead, .dead, .dead, .dead, .dead, .dead, .dead, .dead, .dead, .dead, .dead, .dead, .dead, .dead, .dead, .dead, .dead, .dead, .dead, .dead, .dead, .dead, .dead, .dead, .dead, .dead, .dead, .dead, .dead], [.box (.cons .bool (.cons (.arr 4 (.int .u64)) .nil)) (.pl (.cons .bool (.cons (.arr 4 (.int .u64)) .nil))), .box (.cons .bool (.cons (.arr 4 (.int .u64)) .nil)) (.pl (.cons .bool (.cons (.arr 4 (.int .u64)) .nil)))]⟩) | _, _ => none
theorem ev5 : ∀ x, evalFn env5 ann5 5 ⟨[.pl (.cons .bool (.cons (.arr 4 (.int .u64)) .nil)), .pl (.cons .bool (.cons (.arr 4 (.int .u64)) .nil)), .pl (.int .i64), .pl .bool], []⟩ ⟨[.pl .bool], []⟩ 60 K0 x = pontagelaw3_Int256Order x := by intro x; kernel_rfl
theorem ok5 : ConOk Try.prog 5 pontagelaw3_Int256OrderC := con_of_ev (E := env5) (envOk tysOk eqsOk (show HowsOk Try.prog [(12, .con pontagelaw3_awakeC), (17, .con int256_NegC), (18, .con pontageref3_ValidC), (19, .con int256_NewC), (20, .con int256_ValidC), (21, .con int256_CmpC), (22, .con pontageref3_CmpC), (23, .con int256_FromInt64C), (24, .con pontageref3_FromInt64C)] from (And.intro ok12 (And.intro ok17 (And.intro ok18 (And.intro ok19 (And.intro ok20 (And.intro ok21 (And.intro ok22 (And.intro ok23 (And.intro ok24 trivial)))))))))) follows) noOddP fun x y h => ⟨ann5, 60, K0, (ev5 x).trans h⟩
/-- pontage/int256.Add -/
noncomputable def int256_AddC : Con := ⟨_, _, int256_Add⟩
noncomputable def env25 : Env := mkEnv Try.prog tys eqs [(15, .con int256_DiffC), (19, .con int256_NewC), (20, .con int256_ValidC), (31, .con uint256_AddC)]
def ann25 : Anns := fun p c => match p, c with | [1000000, 25], 4 => some (.join ⟨[.dead, .dead, .ptr 0 [], .ptr 1 [], .ptr 2 [], .dead, .dead, .dead, .dead, .dead, .dead, .dead, .dead, .dead, .dead, .dead, .dead, .dead, .dead, .dead, .dead, .dead, .dead, .dead, .dead, .dead, .dead, .dead, .dead, .dead, .dead, .dead, .dead, .dead, .dead, .dead, .dead, .dead, .dead, .dead, .dead, .dead, .dead, .dead, .dead, .dead, .dead, .dead, .dead, .dead], [.box (.cons .bool (.cons (.arr 4 (.int .u64)) .nil)) (.pl (.cons .bool (.cons (.arr 4 (.int .u64)) .nil))), .box (.cons .bool (.cons (.arr 4 (.int .u64)) .nil)) (.pl (.cons .bool (.cons (.arr 4 (.int .u64)) .nil))), .box (.cons .bool (.cons (.arr 4 (.int .u64)) .nil)) (.pl (.cons .bool (.cons (.arr 4 (.int .u64)) .nil)))]⟩) | _, _ => none
theorem ev25 : ∀ x, evalFn env25 ann25 25 ⟨[.pl (.cons .bool (.cons (.arr 4 (.int .u64)) .nil)), .pl (.cons .bool (.cons (.arr 4 (.int .u64)) .nil))], []⟩ ⟨[.pl (.cons .bool (.cons (.arr 4 (.int .u64)) .nil)), .pl (.int .i64)], []⟩ 60 K0 x = int256_Add x := by intro x; kernel_rfl
theorem ok25 : ConOk Try.prog 25 int256_AddC := con_of_ev (E := env25) (envOk tysOk eqsOk (show HowsOk Try.prog [(15, .con int256_DiffC), (19, .con int256_NewC), (20, .con int256_ValidC), (31, .con uint256_AddC)] from (And.intro ok15 (And.intro ok19 (And.intro ok20 (And.intro ok31 trivial))))) follows) noOddP fun x y h => ⟨ann25, 60, K0, (ev25 x).trans h⟩
/-- pontage/pontageref1.Mul -/
noncomputable def pontageref1_MulC : Con := ⟨_, _, pontageref1_Mul⟩
noncomputable def env58 : Env := mkEnv Try.prog tys eqs [(52, .con pontageref1_normC)]
def ann58 : Anns := fun p c => match p, c with | [58], 0 => some (.tmpl ⟨[.pl (.sl (.int .i64)), .pl (.sl (.int .i64)), .dead, .dead, .dead, .whole 0, .pl (.int .i64), .dead, .dead, .dead, .dead, .dead, .dead, .dead, .dead, .dead, .dead, .dead, .dead, .dead, .dead, .dead, .dead, .dead, .dead, .dead, .dead, .dead, .dead, .dead, .dead, .dead, .dead, .dead, .dead, .dead, .dead, .dead, .dead, .dead, .dead, .dead, .dead, .dead, .dead, .dead, .dead, .dead, .dead, .dead, .dead, .dead, .dead, .dead, .dead, .dead, .dead, .dead, .dead, .dead, .dead, .dead, .dead], [.row (.int .i64)]⟩) | [58], 2 => some (.tmpl ⟨[.pl (.sl (.int .i64)), .pl (.sl (.int .i64)), .dead, .dead, .dead, .whole 0, .pl (.int .i64), .pl (.int .i64), .pl (.int .i64), .dead, .dead, .dead, .dead, .dead, .dead, .dead, .dead, .dead, .dead, .dead, .dead, .dead, .dead, .dead, .dead, .dead, .dead, .dead, .dead, .dead, .dead, .dead, .dead, .dead, .dead, .dead, .dead, .dead, .dead, .dead, .dead, .dead, .dead, .dead, .dead, .dead, .dead, .dead, .dead, .dead, .dead, .dead, .dead, .dead, .dead, .dead, .dead, .dead, .dead, .dead, .dead, .dead, .dead], [.row (.int .i64)]⟩) | _, _ => none
theorem ev58 : ∀ x, evalFn env58 ann58 58 ⟨[.pl (.sl (.int .i64)), .pl (.sl (.int .i64))], []⟩ ⟨[.pl (.sl (.int .i64))], []⟩ 60 K0 x = pontageref1_Mul x := by intro x; kernel_rfl
theorem ok58 : ConOk Try.prog 58 pontageref1_MulC := con_of_ev (E := env58) (envOk tysOk eqsOk (show HowsOk Try.prog [(52, .con pontageref1_normC)] from (And.intro ok52 trivial)) follows) noOddP fun x y h => ⟨ann58, 60, K0, (ev58 x).trans h⟩
/-- pontage/pontageref3.Mul -/
noncomputable def pontageref3_MulC : Con := ⟨_, _, pontageref3_Mul⟩
noncomputable def env44 : Env := mkEnv Try.prog tys eqs [(40, .con pontageref3_signC), (58, .con pontageref1_MulC)]
def ann44 : Anns := fun _ _ => none
theorem ev44 : ∀ x, evalFn env44 ann44 44 ⟨[.pl (.cons .bool (.cons (.sl (.int .i64)) .nil)), .pl (.cons .bool (.cons (.sl (.int .i64)) .nil))], []⟩ ⟨[.pl (.cons .bool (.cons (.sl (.int .i64)) .nil))], []⟩ 60 K0 x = pontageref3_Mul x := by intro x; kernel_rfl
theorem ok44 : ConOk Try.prog 44 pontageref3_MulC := con_of_ev (E := env44) (envOk tysOk eqsOk (show HowsOk Try.prog [(40, .con pontageref3_signC), (58, .con pontageref1_MulC)] from (And.intro ok40 (And.intro ok58 trivial))) follows) noOddP fun x y h => ⟨ann44, 60, K0, (ev44 x).trans h⟩
/-- pontage/pontageref3.Binary -/
noncomputable def pontageref3_BinaryC : Con := ⟨_, _, pontageref3_Binary⟩
noncomputable def env26 : Env := mkEnv Try.prog tys eqs [(18, .con pontageref3_ValidC), (34, .con pontageref3_CheckedC), (36, .con pontageref3_FromInt256C), (39, .con pontageref3_AddC), (43, .con pontageref3_NegateC), (44, .con pontageref3_MulC)]
def ann26 : Anns := fun p c => match p, c with | [1000000, 26], 4 => some (.join ⟨[.pl (.int .i64), .dead, .dead, .dead, .ptr 0 [], .ptr 1 [], .ptr 2 [], .dead, .dead, .dead, .dead, .dead, .dead, .dead, .dead, .dead, .dead, .dead, .dead, .dead, .dead, .dead, .dead, .dead, .dead, .dead, .dead, .dead, .dead, .dead, .dead, .dead, .dead, .dead, .dead, .dead, .dead, .dead, .dead, .dead, .dead], [.box (.cons .bool (.cons (.arr 4 (.int .u64)) .nil)) (.pl (.cons .bool (.cons (.arr 4 (.int .u64)) .nil))), .box (.cons .bool (.cons (.arr 4 (.int .u64)) .nil)) (.pl (.cons .bool (.cons (.arr 4 (.int .u64)) .nil))), .box (.cons .bool (.cons (.arr 4 (.int .u64)) .nil)) (.pl (.cons .bool (.cons (.arr 4 (.int .u64)) .nil)))]⟩) | [1000000, 26], 9 => some (.join ⟨[.dead, .dead, .dead, .dead, .dead, .dead, .ptr 0 [], .dead, .ptr 1 [], .ptr 2 [], .dead, .dead, .dead, .dead, .dead, .dead, .dead, .dead, .dead, .dead, .dead, .dead, .dead, .dead, .dead, .dead, .dead, .dead, .dead, .dead, .dead, .dead, .dead, .dead, .dead, .dead, .dead, .dead, .dead, .dead, .dead], [.box (.cons .bool (.cons (.arr 4 (.int .u64)) .nil)) (.pl (.cons .bool (.cons (.arr 4 (.int .u64)) .nil))), .box (.cons .bool (.cons (.sl (.int .i64)) .nil)) (.pl (.cons .bool (.cons (.sl (.int .i64)) .nil))), .box (.cons .bool (.cons (.sl (.int .i64)) .nil)) (.pl (.cons .bool (.cons (.sl (.int .i64)) .nil)))]⟩) | _, _ => none
theorem ev26 : ∀ x, evalFn env26 ann26 26 ⟨[.pl (.int .i64), .pl (.cons .bool (.cons (.arr 4 (.int .u64)) .nil)), .pl (.cons .bool (.cons (.arr 4 (.int .u64)) .nil))], []⟩ ⟨[.pl (.cons .bool (.cons (.arr 4 (.int .u64)) .nil)), .pl (.int .i64)], []⟩ 60 K0 x = pontageref3_Binary x := by intro x; kernel_rfl
theorem ok26 : ConOk Try.prog 26 pontageref3_BinaryC := con_of_ev (E := env26) (envOk tysOk eqsOk (show HowsOk Try.prog [(18, .con pontageref3_ValidC), (34, .con pontageref3_CheckedC), (36, .con pontageref3_FromInt256C), (39, .con pontageref3_AddC), (43, .con pontageref3_NegateC), (44, .con pontageref3_MulC)] from (And.intro ok18 (And.intro ok34 (And.intro ok36 (And.intro ok39 (And.intro ok43 (And.intro ok44 trivial))))))) follows) noOddP fun x y h => ⟨ann26, 60, K0, (ev26 x).trans h⟩
/-- pontage/int256.Sub -/
noncomputable def int256_SubC : Con := ⟨_, _, int256_Sub⟩
noncomputable def env27 : Env := mkEnv Try.prog tys eqs [(17, .con int256_NegC), (20, .con int256_ValidC), (25, .con int256_AddC)]
def ann27 : Anns := fun p c => match p, c with | [1000000, 27], 5 => some (.join ⟨[.dead, .dead, .ptr 0 [], .dead, .ptr 1 [], .dead, .ptr 2 [], .dead, .dead, .dead, .dead, .dead, .dead, .dead, .dead, .dead, .dead, .dead, .dead, .dead, .dead, .dead, .dead, .dead, .dead, .dead], [.box (.cons .bool (.cons (.arr 4 (.int .u64)) .nil)) (.pl (.cons .bool (.cons (.arr 4 (.int .u64)) .nil))), .box (.cons .bool (.cons (.arr 4 (.int .u64)) .nil)) (.pl (.cons .bool (.cons (.arr 4 (.int .u64)) .nil))), .box (.cons .bool (.cons (.arr 4 (.int .u64)) .nil)) (.pl (.cons .bool (.cons (.arr 4 (.int .u64)) .nil)))]⟩) | _, _ => none
theorem ev27 : ∀ x, evalFn env27 ann27 27 ⟨[.pl (.cons .bool (.cons (.arr 4 (.int .u64)) .nil)), .pl (.cons .bool (.cons (.arr 4 (.int .u64)) .nil))], []⟩ ⟨[.pl (.cons .bool (.cons (.arr 4 (.int .u64)) .nil)), .pl (.int .i64)], []⟩ 60 K0 x = int256_Sub x := by intro x; kernel_rfl
theorem ok27 : ConOk Try.prog 27 int256_SubC := con_of_ev (E := env27) (envOk tysOk eqsOk (show HowsOk Try.prog [(17, .con int256_NegC), (20, .con int256_ValidC), (25, .con int256_AddC)] from (And.intro ok17 (And.intro ok20 (And.intro ok25 trivial)))) follows) noOddP fun x y h => ⟨ann27, 60, K0, (ev27 x).trans h⟩
/-- math/bits.Mul64 -/
noncomputable def math_bits_Mul64C : Con := ⟨_, _, math_bits_Mul64⟩
noncomputable def env59 : Env := mkEnv Try.prog tys eqs []
def ann59 : Anns := fun _ _ => none
theorem ev59 : ∀ x, evalFn env59 ann59 59 ⟨[.pl (.int .u64), .pl (.int .u64)], []⟩ ⟨[.pl (.int .u64), .pl (.int .u64)], []⟩ 60 K0 x = math_bits_Mul64 x := by intro x; kernel_rfl
theorem ok59 : ConOk Try.prog 59 math_bits_Mul64C := con_of_ev (E := env59) (envOk tysOk eqsOk (show HowsOk Try.prog [] from trivial) follows) noOddP fun x y h => ⟨ann59, 60, K0, (ev59 x).trans h⟩
/-- pontage/uint256.Mul -/
noncomputable def uint256_MulC : Con := ⟨_, _, uint256_Mul⟩
noncomputable def env45 : Env := mkEnv Try.prog tys eqs [(48, .con add64C), (59, .con math_bits_Mul64C)]
def ann45 : Anns := fun p c => match p, c with | [45], 0 => some (.tmpl ⟨[.dead, .dead, .ptr 0 [], .ptr 1 [], .ptr 2 [], .dead, .ptr 3 [], .dead, .dead, .dead, .dead, .dead, .dead, .pl (.int .i64), .dead, .dead, .dead, .dead, .dead, .dead, .dead, .dead, .dead, .dead, .dead, .dead, .dead, .dead, .dead, .dead, .dead, .dead, .dead, .dead, .dead, .dead, .dead, .dead, .dead, .dead, .dead, .dead, .dead, .dead, .dead, .dead, .dead, .dead, .dead, .dead, .dead, .dead, .dead, .dead, .dead, .dead, .dead, .dead, .dead, .dead, .dead, .dead, .dead, .dead, .dead, .dead, .dead, .dead, .dead, .dead], [.box (.arr 4 (.int .u64)) (.pl (.arr 4 (.int .u64))), .box (.arr 4 (.int .u64)) (.pl (.arr 4 (.int .u64))), .box (.arr 4 (.int .u64)) (.pl (.arr 4 (.int .u64))), .box (.arr 4 (.int .u64)) (.pl (.arr 4 (.int .u64)))]⟩) | [45], 2 => some (.tmpl ⟨[.dead, .dead, .ptr 0 [], .ptr 1 [], .ptr 2 [], .dead, .ptr 3 [], .pl (.int .i64), .pl (.int .u64), .dead, .dead, .dead, .dead, .pl (.int .i64), .dead, .dead, .pl (.int .i64), .dead, .dead, .dead, .dead, .dead, .dead, .dead, .dead, .dead, .dead, .dead, .dead, .dead, .dead, .dead, .dead, .dead, .dead, .dead, .dead, .dead, .dead, .dead, .dead, .dead, .dead, .dead, .dead, .dead, .dead, .dead, .dead, .dead, .dead, .dead, .dead, .dead, .dead, .dead, .dead, .dead, .dead, .dead, .dead, .dead, .dead, .dead, .dead, .dead, .dead, .dead, .dead, .dead], [.box (.arr 4 (.int .u64)) (.pl (.arr 4 (.int .u64))), .box (.arr 4 (.int .u64)) (.pl (.arr 4 (.int .u64))), .box (.arr 4 (.int .u64)) (.pl (.arr 4 (.int .u64))), .box (.arr 4 (.int .u64)) (.pl (.arr 4 (.int .u64)))]⟩) | _, _ => none
theorem ev45 : ∀ x, evalFn env45 ann45 45 ⟨[.pl (.arr 4 (.int .u64)), .pl (.arr 4 (.int .u64))], []⟩ ⟨[.pl (.arr 4 (.int .u64)), .pl (.int .i64)], []⟩ 60 K0 x = uint256_Mul x := by intro x; kernel_rfl
theorem ok45 : ConOk Try.prog 45 uint256_MulC := con_of_ev (E := env45) (envOk tysOk eqsOk (show HowsOk Try.prog [(48, .con add64C), (59, .con math_bits_Mul64C)] from (And.intro ok48 (And.intro ok59 trivial))) follows) noOddP fun x y h => ⟨ann45, 60, K0, (ev45 x).trans h⟩
/-- pontage/int256.Mul -/
noncomputable def int256_MulC : Con := ⟨_, _, int256_Mul⟩
noncomputable def env28 : Env := mkEnv Try.prog tys eqs [(19, .con int256_NewC), (20, .con int256_ValidC), (45, .con uint256_MulC)]
def ann28 : Anns := fun p c => match p, c with | [1000000, 28], 4 => some (.join ⟨[.dead, .dead, .ptr 0 [], .ptr 1 [], .ptr 2 [], .dead, .dead, .dead, .dead, .dead, .dead, .dead, .dead, .dead, .dead, .dead, .dead, .dead, .dead, .dead, .dead, .dead, .dead, .dead, .dead, .dead, .dead, .dead, .dead, .dead, .dead, .dead, .dead, .dead, .dead, .dead], [.box (.cons .bool (.cons (.arr 4 (.int .u64)) .nil)) (.pl (.cons .bool (.cons (.arr 4 (.int .u64)) .nil))), .box (.cons .bool (.cons (.arr 4 (.int .u64)) .nil)) (.pl (.cons .bool (.cons (.arr 4 (.int .u64)) .nil))), .box (.cons .bool (.cons (.arr 4 (.int .u64)) .nil)) (.pl (.cons .bool (.cons (.arr 4 (.int .u64)) .nil)))]⟩) | _, _ => none
theorem ev28 : ∀ x, evalFn env28 ann28 28 ⟨[.pl (.cons .bool (.cons (.arr 4 (.int .u64)) .nil)), .pl (.cons .bool (.cons (.arr 4 (.int .u64)) .nil))], []⟩ ⟨[.pl (.cons .bool (.cons (.arr 4 (.int .u64)) .nil)), .pl (.int .i64)], []⟩ 60 K0 x = int256_Mul x := by intro x; kernel_rfl
theorem ok28 : ConOk Try.prog 28 int256_MulC := con_of_ev (E := env28) (envOk tysOk eqsOk (show HowsOk Try.prog [(19, .con int256_NewC), (20, .con int256_ValidC), (45, .con uint256_MulC)] from (And.intro ok19 (And.intro ok20 (And.intro ok45 trivial)))) follows) noOddP fun x y h => ⟨ann28, 60, K0, (ev28 x).trans h⟩
/-- pontage/pontagelaw3.Int256Arithmetic -/
noncomputable def pontagelaw3_Int256ArithmeticC : Con := ⟨_, _, pontagelaw3_Int256Arithmetic⟩
noncomputable def env6 : Env := mkEnv Try.prog tys eqs [(12, .con pontagelaw3_awakeC), (25, .con int256_AddC), (26, .con pontageref3_BinaryC), (27, .con int256_SubC), (28, .con int256_MulC)]
def ann6 : Anns := fun _ _ => none
theorem ev6 : ∀ x, evalFn env6 ann6 6 ⟨[.pl (.cons .bool (.cons (.arr 4 (.int .u64)) .nil)), .pl (.cons .bool (.cons (.arr 4 (.int .u64)) .nil))], []⟩ ⟨[.pl .bool], []⟩ 60 K0 x = pontagelaw3_Int256Arithmetic x := by intro x; kernel_rfl
theorem ok6 : ConOk Try.prog 6 pontagelaw3_Int256ArithmeticC := con_of_ev (E := env6) (envOk tysOk eqsOk (show HowsOk Try.prog [(12, .con pontagelaw3_awakeC), (25, .con int256_AddC), (26, .con pontageref3_BinaryC), (27, .con int256_SubC), (28, .con int256_MulC)] from (And.intro ok12 (And.intro ok25 (And.intro ok26 (And.intro ok27 (And.intro ok28 trivial)))))) follows) noOddP fun x y h => ⟨ann6, 60, K0, (ev6 x).trans h⟩
/-- pontage/pontagelaw0.Mod -/
noncomputable def pontagelaw0_ModC : Con := ⟨_, _, pontagelaw0_Mod⟩
noncomputable def env46 : Env := mkEnv Try.prog tys eqs []
def ann46 : Anns := fun _ _ => none
theorem ev46 : ∀ x, evalFn env46 ann46 46 ⟨[.pl (.int .i64), .pl (.int .i64)], []⟩ ⟨[.pl (.int .i64)], []⟩ 60 K0 x = pontagelaw0_Mod x := by intro x; kernel_rfl
theorem ok46 : ConOk Try.prog 46 pontagelaw0_ModC := con_of_ev (E := env46) (envOk tysOk eqsOk (show HowsOk Try.prog [] from trivial) follows) noOddP fun x y h => ⟨ann46, 60, K0, (ev46 x).trans h⟩
/-- pontage/pontagelaw0.EdgeUint256 -/
noncomputable def pontagelaw0_EdgeUint256C : Con := ⟨_, _, pontagelaw0_EdgeUint256⟩
noncomputable def env29 : Env := mkEnv Try.prog tys eqs [(46, .con pontagelaw0_ModC)]
def ann29 : Anns := fun _ _ => none
theorem ev29 : ∀ x, evalFn env29 ann29 29 ⟨[.pl (.int .u64), .pl (.int .u64), .pl (.int .i64)], []⟩ ⟨[.pl (.arr 4 (.int .u64))], []⟩ 60 K0 x = pontagelaw0_EdgeUint256 x := by intro x; kernel_rfl
theorem ok29 : ConOk Try.prog 29 pontagelaw0_EdgeUint256C := con_of_ev (E := env29) (envOk tysOk eqsOk (show HowsOk Try.prog [(46, .con pontagelaw0_ModC)] from (And.intro ok46 trivial)) follows) noOddP fun x y h => ⟨ann29, 60, K0, (ev29 x).trans h⟩
/-- pontage/pontagelaw3.Int256Boundaries -/
noncomputable def pontagelaw3_Int256BoundariesC : Con := ⟨_, _, pontagelaw3_Int256Boundaries⟩
noncomputable def env7 : Env := mkEnv Try.prog tys eqs [(12, .con pontagelaw3_awakeC), (13, .con int256_AddClampedC), (14, .con pontageref3_AddClampedC), (19, .con int256_NewC), (25, .con int256_AddC), (26, .con pontageref3_BinaryC), (27, .con int256_SubC), (28, .con int256_MulC), (29, .con pontagelaw0_EdgeUint256C)]
def ann7 : Anns := fun _ _ => none
theorem ev7 : ∀ x, evalFn env7 ann7 7 ⟨[.pl (.int .u64), .pl (.int .u64), .pl (.int .i64), .pl (.int .i64), .pl .bool, .pl .bool], []⟩ ⟨[.pl .bool], []⟩ 60 K0 x = pontagelaw3_Int256Boundaries x := by intro x; kernel_rfl
theorem ok7 : ConOk Try.prog 7 pontagelaw3_Int256BoundariesC := con_of_ev (E := env7) (envOk tysOk eqsOk (show HowsOk Try.prog [(12, .con pontagelaw3_awakeC), (13, .con int256_AddClampedC), (14, .con pontageref3_AddClampedC), (19, .con int256_NewC), (25, .con int256_AddC), (26, .con pontageref3_BinaryC), (27, .con int256_SubC), (28, .con int256_MulC), (29, .con pontagelaw0_EdgeUint256C)] from (And.intro ok12 (And.intro ok13 (And.intro ok14 (And.intro ok19 (And.intro ok25 (And.intro ok26 (And.intro ok27 (And.intro ok28 (And.intro ok29 trivial)))))))))) follows) noOddP fun x y h => ⟨ann7, 60, K0, (ev7 x).trans h⟩
/-- pontage/pontagelaw3.Int256Negation -/
noncomputable def pontagelaw3_Int256NegationC : Con := ⟨_, _, pontagelaw3_Int256Negation⟩
noncomputable def env8 : Env := mkEnv Try.prog tys eqs [(12, .con pontagelaw3_awakeC), (17, .con int256_NegC), (20, .con int256_ValidC), (21, .con int256_CmpC), (25, .con int256_AddC), (28, .con int256_MulC)]
def ann8 : Anns := fun p c => match p, c with | [1000000, 8], 3 => some (.join ⟨[.dead, .dead, .ptr 0 [], .ptr 1 [], .dead, .dead, .dead, .dead, .dead, .dead, .dead, .dead, .dead, .dead, .dead, .dead, .dead, .dead, .dead, .dead, .dead, .dead, .dead, .dead, .dead, .dead, .dead, .dead, .pl .bool, .dead, .dead, .dead, .dead, .dead, .dead, .dead, .dead, .dead, .dead, .dead, .dead, .dead, .dead, .dead, .dead, .dead, .dead, .dead, .dead, .dead, .dead, .dead, .dead, .dead, .dead, .dead, .dead, .dead, .dead, .dead, .dead, .dead, .dead, .dead, .dead, .dead, .dead, .dead, .dead, .dead, .dead, .dead, .dead, .dead, .dead, .dead, .dead, .dead, .dead, .dead, .dead, .dead, .dead, .dead, .dead, .dead, .dead, .dead, .dead, .dead, .dead, .dead, .dead, .dead, .dead, .dead, .dead, .dead, .dead, .dead, .dead, .dead, .dead, .dead, .dead, .dead, .dead, .dead, .dead, .dead, .dead, .dead, .dead, .dead, .dead, .dead, .dead, .dead, .dead, .dead], [.box (.cons .bool (.cons (.arr 4 (.int .u64)) .nil)) (.pl (.cons .bool (.cons (.arr 4 (.int .u64)) .nil))), .box (.cons .bool (.cons (.arr 4 (.int .u64)) .nil)) (.pl (.cons .bool (.cons (.arr 4 (.int .u64)) .nil)))]⟩) | [1000000, 8], 4 => some (.join ⟨[.dead, .dead, .ptr 0 [], .ptr 1 [], .dead, .dead, .dead, .dead, .dead, .dead, .dead, .dead, .dead, .dead, .dead, .dead, .dead, .dead, .dead, .dead, .dead, .dead, .dead, .dead, .dead, .dead, .dead, .dead, .dead, .dead, .dead, .dead, .dead, .dead, .dead, .dead, .dead, .dead, .dead, .dead, .dead, .dead, .dead, .dead, .dead, .dead, .dead, .dead, .dead, .dead, .dead, .dead, .dead, .dead, .dead, .dead, .dead, .dead, .dead, .dead, .dead, .dead, .dead, .dead, .dead, .dead, .dead, .dead, .dead, .dead, .dead, .dead, .dead, .dead, .dead, .dead, .dead, .dead, .dead, .dead, .dead, .dead, .dead, .dead, .dead, .dead, .dead, .dead, .dead, .dead, .dead, .dead, .dead, .dead, .dead, .dead, .dead, .dead, .dead, .dead, .dead, .dead, .dead, .dead, .dead, .dead, .dead, .dead, .dead, .dead, .dead, .dead, .dead, .dead, .dead, .dead, .dead, .dead, .dead, .dead], [.box (.cons .bool (.cons (.arr 4 (.int .u64)) .nil)) (.pl (.cons .bool (.cons (.arr 4 (.int .u64)) .nil))), .box (.cons .bool (.cons (.arr 4 (.int .u64)) .nil)) (.pl (.cons .bool (.cons (.arr 4 (.int .u64)) .nil)))]⟩) | _, _ => none
theorem ev8 : ∀ x, evalFn env8 ann8 8 ⟨[.pl (.cons .bool (.cons (.arr 4 (.int .u64)) .nil)), .pl (.cons .bool (.cons (.arr 4 (.int .u64)) .nil))], []⟩ ⟨[.pl .bool], []⟩ 60 K0 x = pontagelaw3_Int256Negation x := by intro x; kernel_rfl
theorem ok8 : ConOk Try.prog 8 pontagelaw3_Int256NegationC := con_of_ev (E := env8) (envOk tysOk eqsOk (show HowsOk Try.prog [(12, .con pontagelaw3_awakeC), (17, .con int256_NegC), (20, .con int256_ValidC), (21, .con int256_CmpC), (25, .con int256_AddC), (28, .con int256_MulC)] from (And.intro ok12 (And.intro ok17 (And.intro ok20 (And.intro ok21 (And.intro ok25 (And.intro ok28 trivial))))))) follows) noOddP fun x y h => ⟨ann8, 60, K0, (ev8 x).trans h⟩
/-- pontage/pontagelaw3.Int256Algebra -/
noncomputable def pontagelaw3_Int256AlgebraC : Con := ⟨_, _, pontagelaw3_Int256Algebra⟩
noncomputable def env9 : Env := mkEnv Try.prog tys eqs [(10, .con int256_DivFloorC), (12, .con pontagelaw3_awakeC), (19, .con int256_NewC), (20, .con int256_ValidC), (21, .con int256_CmpC), (25, .con int256_AddC), (27, .con int256_SubC), (28, .con int256_MulC)]
def ann9 : Anns := fun p c => match p, c with | [1000000, 9], 3 => some (.join ⟨[.dead, .dead, .pl (.int .u64), .ptr 0 [], .ptr 1 [], .dead, .dead, .dead, .dead, .dead, .dead, .dead, .dead, .dead, .dead, .dead, .dead, .dead, .dead, .dead, .dead, .dead, .dead, .dead, .pl .bool, .dead, .dead, .dead, .dead, .dead, .dead, .dead, .dead, .dead, .dead, .dead, .dead, .dead, .dead, .dead, .dead, .dead, .dead, .dead, .dead, .dead, .dead, .dead, .dead, .dead, .dead, .dead, .dead, .dead, .dead, .dead, .dead, .dead, .dead, .dead, .dead, .dead, .dead, .dead, .dead, .dead, .dead, .dead, .dead, .dead, .dead, .dead, .dead, .dead, .dead, .dead, .dead, .dead, .dead, .dead, .dead, .dead, .dead, .dead, .dead, .dead, .dead, .dead, .dead, .dead, .dead, .dead, .dead, .dead, .dead, .dead, .dead, .dead, .dead, .dead, .dead, .dead, .dead, .dead, .dead, .dead, .dead], [.box (.cons .bool (.cons (.arr 4 (.int .u64)) .nil)) (.pl (.cons .bool (.cons (.arr 4 (.int .u64)) .nil))), .box (.cons .bool (.cons (.arr 4 (.int .u64)) .nil)) (.pl (.cons .bool (.cons (.arr 4 (.int .u64)) .nil)))]⟩) | [1000000, 9], 4 => some (.join ⟨[.dead, .dead, .pl (.int .u64), .ptr 0 [], .ptr 1 [], .dead, .dead, .dead, .dead, .dead, .dead, .dead, .dead, .dead, .dead, .dead, .dead, .dead, .dead, .dead, .dead, .dead, .dead, .dead, .dead, .dead, .dead, .dead, .dead, .dead, .dead, .dead, .dead, .dead, .dead, .dead, .dead, .dead, .dead, .dead, .dead, .dead, .dead, .dead, .dead, .dead, .dead, .dead, .dead, .dead, .dead, .dead, .dead, .dead, .dead, .dead, .dead, .dead, .dead, .dead, .dead, .dead, .dead, .dead, .dead, .dead, .dead, .dead, .dead, .dead, .dead, .dead, .dead, .dead, .dead, .dead, .dead, .dead, .dead, .dead, .dead, .dead, .dead, .dead, .dead, .dead, .dead, .dead, .dead, .dead, .dead, .dead, .dead, .dead, .dead, .dead, .dead, .dead, .dead, .dead, .dead, .dead, .dead, .dead, .dead, .dead, .dead], [.box (.cons .bool (.cons (.arr 4 (.int .u64)) .nil)) (.pl (.cons .bool (.cons (.arr 4 (.int .u64)) .nil))), .box (.cons .bool (.cons (.arr 4 (.int .u64)) .nil)) (.pl (.cons .bool (.cons (.arr 4 (.int .u64)) .nil)))]⟩) | [1000000, 9], 9 => some (.join ⟨[.dead, .dead, .pl (.int .u64), .ptr 0 [], .dead, .dead, .dead, .dead, .dead, .dead, .dead, .dead, .dead, .dead, .dead, .dead, .dead, .dead, .dead, .dead, .dead, .dead, .dead, .dead, .dead, .dead, .dead, .dead, .dead, .dead, .dead, .dead, .dead, .dead, .dead, .dead, .dead, .dead, .dead, .dead, .dead, .dead, .dead, .dead, .dead, .dead, .dead, .dead, .dead, .dead, .dead, .dead, .dead, .dead, .dead, .dead, .dead, .dead, .dead, .dead, .dead, .dead, .dead, .dead, .dead, .dead, .dead, .dead, .dead, .dead, .dead, .dead, .dead, .dead, .dead, .dead, .dead, .dead, .dead, .dead, .dead, .dead, .dead, .dead, .dead, .dead, .dead, .dead, .dead, .dead, .dead, .dead, .dead, .dead, .dead, .dead, .dead, .dead, .dead, .dead, .dead, .dead, .dead, .dead, .dead, .dead, .dead], [.box (.cons .bool (.cons (.arr 4 (.int .u64)) .nil)) (.pl (.cons .bool (.cons (.arr 4 (.int .u64)) .nil)))]⟩) | _, _ => none
theorem ev9 : ∀ x, evalFn env9 ann9 9 ⟨[.pl (.cons .bool (.cons (.arr 4 (.int .u64)) .nil)), .pl (.cons .bool (.cons (.arr 4 (.int .u64)) .nil)), .pl (.int .u64)], []⟩ ⟨[.pl .bool], []⟩ 60 K0 x = pontagelaw3_Int256Algebra x := by intro x; kernel_rfl
theorem ok9 : ConOk Try.prog 9 pontagelaw3_Int256AlgebraC := con_of_ev (E := env9) (envOk tysOk eqsOk (show HowsOk Try.prog [(10, .con int256_DivFloorC), (12, .con pontagelaw3_awakeC), (19, .con int256_NewC), (20, .con int256_ValidC), (21, .con int256_CmpC), (25, .con int256_AddC), (27, .con int256_SubC), (28, .con int256_MulC)] from (And.intro ok10 (And.intro ok12 (And.intro ok19 (And.intro ok20 (And.intro ok21 (And.intro ok25 (And.intro ok27 (And.intro ok28 trivial))))))))) follows) noOddP fun x y h => ⟨ann9, 60, K0, (ev9 x).trans h⟩
end Sym
