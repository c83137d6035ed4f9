/- The price of a unit: the reference computes the same. -/
import Derived.Test.YtmjjppoaianfmaaPart6
namespace Sym
open Go

theorem bd3 {n : Nat} (h : n < 3 * U.top) : Bd n := Nat.lt_trans h (by decide)
theorem bd4 {n : Nat} (h : n < 3 * U.top * 18446744073709551616) : Bd n := Nat.lt_trans h (by decide)

theorem len64 {l : List Dg} {x : I .u64} (h : IsB l x.nat) : l.length ≤ 4 := h.len.2 (Nat.lt_of_lt_of_le (nat_lt x) (by decide))

theorem pos_SB {l : List Dg} {n : Nat} (h : IsB l n) : IsSB (false, l, ()) (n : Int) := ⟨(decide_eq_false (by omega)).symm, by rw [Int.natAbs_natCast]; exact h⟩

theorem RDelta_eq (a b : S) (u : I .u64) (p : Prm) : pontageref19_Delta ((a, b, u, p, ()), ()) = some (((deltaS a b u p).1, (deltaS a b u p).2, ()), ()) := by
  refine Wp.out (T := fun o => o = some (((deltaS a b u p).1, (deltaS a b u p).2, ()), ())) ?_
  unfold pontageref19_Delta
  refine Wp.optF (RPValid_eq p) ?_
  refine Wp.brn (fun h => ?_) (fun h => ?_)
  · have hp : validP p = false := bnot_t h
    unfold deltaS
    rw [hp]
    rfl
  have hp : validP p = true := bnot_f h
  refine Wp.jn (fun s => s.1.1 = u ∧ s.2.1 = a ∧ s.2.2.1 = b ∧ s.2.2.2.1 = p ∧ validB a = true ∧ validB b = true ∧ u.nat ≠ 0) ?_ ?_
  · rintro ⟨⟨u', ⟨⟩⟩, a', b', p', z', ⟨⟩⟩ ⟨e0, e1, e2, e3, ha, hb, hu⟩
    simp only at e0 e1 e2 e3
    subst e0 e1 e2 e3
    obtain ⟨hE1, hE2, hJ⟩ : 1 ≤ (Prm.eq p').nat ∧ (Prm.eq p').nat ≤ 1099511627776 ∧ 1 ≤ (Prm.inertia p').nat := validP_div hp
    have htop : U.top = 115792089237316195423570985008687907853269984665640564039457584007913129639936 := rfl
    rw [deltaS_t hp ha hb hu]
    have hx := S.lt a'
    have hy := S.lt b'
    have hun := nat_lt u'
    obtain ⟨s2, q2, S2⟩ := FromInt_ok a'
    refine Wp.optF q2 ?_
    obtain ⟨s3, q3, S3⟩ := RNegate_ok S2 (Bd.of_top hx)
    refine Wp.optF q3 ?_
    obtain ⟨l4, q4, B4⟩ := FromUint64_ok (Prm.eq p')
    refine Wp.optF q4 ?_
    have L4 := len64 B4
    obtain ⟨s5, q5, S5⟩ := RDiv_ok S3 B4 (by omega) (Bd.of_top (by omega)) (by omega)
    refine Wp.optF q5 (Wp.optF q2 ?_)
    obtain ⟨s7, q7, S7⟩ := FromInt_ok b'
    refine Wp.optF q7 ?_
    obtain ⟨s8, q8, S8⟩ := RNegate_ok S7 (Bd.of_top hy)
    refine Wp.optF q8 ?_
    obtain ⟨s9, q9, S9⟩ := RAdd_ok S2 S8 (Bd.of_top hx) (Bd.of_top (by omega)) (Bd.of_two (by omega))
    rw [← Int.sub_eq_add_neg] at S9
    refine Wp.optF q9 ?_
    obtain ⟨l10, q10, B10⟩ := FromUint64_ok u'
    refine Wp.optF q10 ?_
    have L10 := len64 B10
    obtain ⟨s11, q11, S11⟩ := RDiv_ok S9 B10 hu (Bd.of_two (by omega)) (by omega)
    refine Wp.optF q11 ?_
    have f1 := floor_abs (-S.int a') (Prm.eq p').nat (by omega)
    have f2 := floor_abs (S.int a' - S.int b') u'.nat hu
    generalize hw : -S.int a' / ((Prm.eq p').nat : Int) = w at S5 f1
    generalize hv : (S.int a' - S.int b') / (u'.nat : Int) = v at S11 f2
    obtain ⟨s12, q12, S12⟩ := RNegate_ok S11 (Bd.of_two (by omega))
    refine Wp.optF q12 ?_
    obtain ⟨s13, q13, S13⟩ := RAdd_ok S5 S12 (Bd.of_two (by omega)) (Bd.of_two (by omega)) (bd3 (by omega))
    rw [← Int.sub_eq_add_neg] at S13
    refine Wp.optF q13 (Wp.optF q10 ?_)
    have h13 : (w - v).natAbs < 3 * U.top := by omega
    have hmul : (w - v).natAbs * u'.nat < 3 * U.top * 18446744073709551616 := Nat.lt_of_le_of_lt (Nat.mul_le_mul_left _ (Nat.le_of_lt hun)) (Nat.mul_lt_mul_of_pos_right h13 (by decide))
    obtain ⟨s15, q15, S15⟩ := RMul_ok S13 (pos_SB B10) (bd3 h13) (Bd.of_top (by omega)) (by rw [Int.natAbs_natCast]; exact bd4 hmul)
    refine Wp.optF q15 ?_
    have h15 : ((w - v) * (u'.nat : Int)).natAbs < 3 * U.top * 18446744073709551616 := by rw [Int.natAbs_mul, Int.natAbs_natCast]; exact hmul
    refine Wp.jn (fun s => s.1.1 = u' ∧ s.2.1 = p' ∧ s.2.2.2.1 = s15 ∧ (S.int a' - S.int b').natAbs < U.top ∧ (w - v).natAbs < U.top ∧ ((w - v) * (u'.nat : Int)).natAbs < U.top) ?_ ?_
    · rintro ⟨⟨u2, ⟨⟩⟩, p2, z2, s2', ⟨⟩⟩ ⟨e0, e1, e2, t1, t2, t3⟩
      simp only at e0 e1 e2
      subst e0 e1 e2
      obtain ⟨l17, q17, B17⟩ := FromUint64_ok (Prm.eq p2)
      obtain ⟨l18, q18, B18⟩ := FromUint64_ok (Prm.inertia p2)
      have L17 := len64 B17
      have L18 := len64 B18
      refine Wp.optF q17 (Wp.optF q18 ?_)
      obtain ⟨l19, m19, q19, B19, _⟩ := BDiv_ok B17 B18 (by omega) (by omega) (by omega)
      refine Wp.optF q19 (Wp.optF q10 ?_)
      have L19 : l19.length ≤ 4 := B19.len.2 (Nat.lt_of_le_of_lt (Nat.div_le_self _ _) (Nat.lt_of_lt_of_le (nat_lt (Prm.eq p2)) (by decide)))
      obtain ⟨l21, q21, B21⟩ := Add_ok B19 B10 (Nat.le_trans L19 (by decide)) (Nat.le_trans L10 (by decide))
      refine Wp.optF q21 ?_
      have hby : u2.nat ≤ (Prm.eq p2).nat / (Prm.inertia p2).nat + u2.nat := Nat.le_add_left _ _
      have hby2 : (Prm.eq p2).nat / (Prm.inertia p2).nat ≤ (Prm.eq p2).nat := Nat.div_le_self _ _
      have L21 : l21.length ≤ 5 := B21.len.2 (Nat.lt_of_le_of_lt (show _ ≤ 1099511627776 + 18446744073709551616 by omega) (by decide))
      have hdz : deltaZ (S.int a') (S.int b') u2.nat (Prm.eq p2).nat (Prm.inertia p2).nat = (S.of ((w - v) * (u2.nat : Int) / (((Prm.eq p2).nat / (Prm.inertia p2).nat + u2.nat : Nat) : Int)), I.of .i64 0) := by
        rw [delta_of t1 (by rw [hw, hv]; exact t2) (by rw [hw, hv]; exact t3), hw, hv]
      rw [hdz]
      generalize (Prm.eq p2).nat / (Prm.inertia p2).nat + u2.nat = B at hby B21
      obtain ⟨s22, q22, S22⟩ := RDiv_ok S15 B21 (by omega) (bd4 h15) (Nat.le_trans L21 (by decide))
      refine Wp.optF q22 ?_
      have f3 := floor_abs ((w - v) * (u2.nat : Int)) B (by omega)
      refine Wp.optF (RChecked_ok S22 (Bd.of_top (by omega))) ?_
      rw [resS_lt (by omega)]
      rfl
    · intro j hj
      have len9 := Bd.len S9.abs (Bd.of_two (by omega))
      have len13 := Bd.len S13.abs (bd3 h13)
      have len15 := Bd.len S15.abs (bd4 h15)
      refine Wp.optF (Fits_ok S9.abs (Nat.lt_of_le_of_lt len9 (by decide))) ?_
      unfold deltaZ
      rw [hw, hv]
      by_cases t1 : (S.int a' - S.int b').natAbs < U.top
      · rw [if_pos t1]
        refine Wp.brnF (by show bnot (decide _) = false; rw [decide_eq_true t1]; rfl) ?_
        refine Wp.optF (Fits_ok S13.abs (Nat.lt_of_le_of_lt len13 (by decide))) ?_
        by_cases t2 : (w - v).natAbs < U.top
        · rw [if_pos t2]
          refine Wp.brnF (by show bnot (decide _) = false; rw [decide_eq_true t2]; rfl) ?_
          refine Wp.optF (Fits_ok S15.abs (Nat.lt_of_le_of_lt len15 (by decide))) ?_
          by_cases t3 : ((w - v) * (u'.nat : Int)).natAbs < U.top
          · refine Wp.brnF (by show bnot (decide _) = false; rw [decide_eq_true t3]; rfl) ?_
            have := hj ((u', ()), (p', z', s15, ())) ⟨rfl, rfl, rfl, t1, t2, t3⟩
            unfold deltaZ at this
            rw [hw, hv, if_pos t1, if_pos t2] at this
            exact this
          · rw [if_neg t3]
            exact Wp.brnT (by show bnot (decide _) = true; rw [decide_eq_false t3]; rfl) rfl
        · rw [if_neg t2]
          exact Wp.brnT (by show bnot (decide _) = true; rw [decide_eq_false t2]; rfl) rfl
      · rw [if_neg t1]
        exact Wp.brnT (by show bnot (decide _) = true; rw [decide_eq_false t1]; rfl) rfl
  · intro j hj
    refine Wp.optF (RValid_eq a) ?_
    refine Wp.brn (fun h => ?_) (fun h => ?_)
    · have ha : validB a = false := bnot_t h
      unfold deltaS
      rw [if_pos hp, ha]
      rfl
    · have ha : validB a = true := bnot_f h
      refine Wp.optF (RValid_eq b) ?_
      refine Wp.brn (fun h => ?_) (fun h => ?_)
      · have hb : validB b = false := bnot_t h
        unfold deltaS
        rw [if_pos hp, if_pos ha, hb]
        rfl
      · have hb : validB b = true := bnot_f h
        refine Wp.brn (fun h => ?_) (fun h => ?_)
        · have hu := (u64_zero u).1 h
          unfold deltaS
          rw [if_pos hp, if_pos ha, if_pos hb, if_pos hu]
          rfl
        · have hu : u.nat ≠ 0 := fun h0 => by
            rw [(u64_zero u).2 h0] at h; cases h
          exact hj _ ⟨rfl, rfl, rfl, rfl, ha, hb, hu⟩

theorem RNext_eq (c : U) (a b : S) (u : I .u64) (p : Prm) : pontageref19_Next ((c, a, b, u, p, ()), ()) = some (((nextS c a b u p).1, (nextS c a b u p).2, ()), ()) := by
  refine Wp.out (T := fun o => o = some (((nextS c a b u p).1, (nextS c a b u p).2, ()), ())) ?_
  unfold pontageref19_Next
  refine Wp.optF (RPValid_eq p) ?_
  refine Wp.brn (fun h => ?_) (fun h => ?_)
  · have hp : validP p = false := bnot_t h
    unfold nextS
    rw [hp]
    rfl
  have hp : validP p = true := bnot_f h
  refine Wp.jn (fun s => s.1.1 = u ∧ s.2.1 = c ∧ s.2.2.1 = a ∧ s.2.2.2.1 = b ∧ s.2.2.2.2.1 = p ∧ validB a = true ∧ validB b = true) ?_ ?_
  · rintro ⟨⟨u', ⟨⟩⟩, c', a', b', p', z', ⟨⟩⟩ ⟨e0, e1, e2, e3, e4, ha, hb⟩
    simp only at e0 e1 e2 e3 e4
    subst e0 e1 e2 e3 e4
    unfold nextS
    rw [if_pos hp, if_pos ha, if_pos hb]
    refine Wp.brn (fun h => ?_) (fun h => ?_)
    · have hu := (u64_zero u').1 h
      rw [if_pos hu]
      rfl
    · have hu : u'.nat ≠ 0 := fun h0 => by
        rw [(u64_zero u').2 h0] at h; cases h
      rw [if_neg hu]
      refine Wp.optF (RDelta_eq _ _ _ _) ?_
      refine Wp.brn (fun h => ?_) (fun h => ?_)
      · rw [if_pos h]
        rfl
      · rw [if_neg (by rw [h]; decide)]
        exact Wp.optF (RClamp_eq _ _) rfl
  · intro j hj
    refine Wp.optF (RValid_eq a) ?_
    refine Wp.brn (fun h => ?_) (fun h => ?_)
    · have ha : validB a = false := bnot_t h
      unfold nextS
      rw [if_pos hp, ha]
      rfl
    · have ha : validB a = true := bnot_f h
      refine Wp.optF (RValid_eq b) ?_
      refine Wp.brn (fun h => ?_) (fun h => ?_)
      · have hb : validB b = false := bnot_t h
        unfold nextS
        rw [if_pos hp, if_pos ha, hb]
        rfl
      · have hb : validB b = true := bnot_f h
        exact hj _ ⟨rfl, rfl, rfl, rfl, rfl, ha, hb⟩

theorem neb_self {k : IntKind} (a : I k) : I.neb a a = false := by simp [I.neb]

theorem idx_in {i : I .i64} (h0 : 0 ≤ i.val) (h : I.ltb i (I.of .i64 2) = true) : inB i 2 = true ∧ i.val < 2 := by
  rw [iff_ltb] at h
  replace h : i.val < 2 := h
  exact ⟨iff_inB.2 ⟨h0, by omega⟩, h⟩

theorem idx_up {i : I .i64} (h0 : 0 ≤ i.val) (h : i.val < 2) : (I.add i (I.of .i64 1)).val = i.val + 1 := add_i64 (b := I.of .i64 1) ⟨by show _ ≤ i.val + 1; omega, by show i.val + 1 < _; omega⟩

theorem z0 : 0 ≤ (I.of .i64 0).val := by decide
theorem z2 : (I.of .i64 0).val ≤ 2 := by decide
theorem z3 : (3 - (I.of .i64 0).val).toNat < K0 := by rw [K0_eq]; decide

theorem delta_law (a b : S) (u : I .u64) (p : Prm) (v : V8) (f m : I .i64) : pontagelaw19_L1PriceDelta ((a, b, u, p, v, f, m, ()), ()) = some ((true, ()), ()) := by
  refine Wp.out (T := fun o => o = some ((true, ()), ())) ?_
  unfold pontagelaw19_L1PriceDelta
  obtain ⟨p1, ep, hp⟩ := ValidParams_ok v
  refine Wp.optF ep ?_
  refine Wp.iter (fun x => 0 ≤ x.1.2.2.2.2.1.val ∧ x.1.2.2.2.2.1.val ≤ 2) (fun x => (3 - x.1.2.2.2.2.1.val).toNat) ?_ ⟨z0, z2⟩ z3
  rintro x ⟨h0, h2⟩
  refine Wp.brn (fun h => ?_) (fun h => Wp.done (Wp.optF awake19 rfl))
  obtain ⟨hi, h3⟩ := idx_in h0 h
  refine Wp.brnT hi ?_
  refine Wp.iter (fun y => y.1.2.2.2.2.1 = x.1.2.2.2.2.1 ∧ 0 ≤ y.1.2.2.2.2.2.2.1.val ∧ y.1.2.2.2.2.2.2.1.val ≤ 2) (fun y => (3 - y.1.2.2.2.2.2.2.1.val).toNat) ?_ ⟨rfl, z0, z2⟩ z3
  rintro y ⟨e, k0, k2⟩
  refine Wp.brn (fun h => ?_) (fun h => ?_)
  · obtain ⟨hk, k3⟩ := idx_in k0 h
    refine Wp.brnT hk ?_
    refine Wp.optF (Delta_eq _ _ _ _) (Wp.optF (RDelta_eq _ _ _ _) (Wp.optF (SFrom_eq _) (Wp.optF (SFrom_eq _) (Wp.optF (Delta_eq _ _ _ _) (Wp.optF (SFrom_eq _) (Wp.optF (SFrom_eq _) (Wp.optF (RDelta_eq _ _ _ _) ?_)))))))
    refine Wp.brnF (by show bnot (Ty.eqb _ _ _) = false; rw [eqbS_self]; rfl) (Wp.brnF (neb_self _) (Wp.brnF (by show bnot (Ty.eqb _ _ _) = false; rw [eqbS_self]; rfl) (Wp.brnF (neb_self _) ?_)))
    have hu := idx_up k0 k3
    refine Wp.again ⟨e, ?_, ?_⟩ ?_
    · show 0 ≤ (I.add y.1.2.2.2.2.2.2.1 (I.of .i64 1)).val
      omega
    · show (I.add y.1.2.2.2.2.2.2.1 (I.of .i64 1)).val ≤ 2
      omega
    · show (3 - (I.add y.1.2.2.2.2.2.2.1 (I.of .i64 1)).val).toNat < (3 - y.1.2.2.2.2.2.2.1.val).toNat
      omega
  · have hu := idx_up h0 h3
    refine Wp.done (Wp.again ⟨?_, ?_⟩ ?_)
    · show 0 ≤ (I.add y.1.2.2.2.2.1 (I.of .i64 1)).val
      rw [e]; omega
    · show (I.add y.1.2.2.2.2.1 (I.of .i64 1)).val ≤ 2
      rw [e]; omega
    · show (3 - (I.add y.1.2.2.2.2.1 (I.of .i64 1)).val).toNat < (3 - x.1.2.2.2.2.1.val).toNat
      rw [e]; omega

theorem next_law (c : U) (a b : S) (u : I .u64) (p : Prm) (v : V8) (f g h : I .u64) (n m : Bool) : pontagelaw19_L1PriceNext ((c, a, b, u, p, v, f, g, h, n, m, ()), ()) = some ((true, ()), ()) := by
  refine Wp.out (T := fun o => o = some ((true, ()), ())) ?_
  unfold pontagelaw19_L1PriceNext
  obtain ⟨p1, ep, hp⟩ := ValidParams_ok v
  refine Wp.optF (New_eq _ _) (Wp.optF (New_eq _ _) (Wp.optF ep ?_))
  refine Wp.iter (fun x => 0 ≤ x.1.2.2.2.1.val ∧ x.1.2.2.2.1.val ≤ 2) (fun x => (3 - x.1.2.2.2.1.val).toNat) ?_ ⟨z0, z2⟩ z3
  rintro x ⟨h0, h2⟩
  refine Wp.brn (fun h => ?_) (fun h => Wp.done (Wp.optF awake19 rfl))
  obtain ⟨hi, h3⟩ := idx_in h0 h
  refine Wp.brnT hi ?_
  refine Wp.iter (fun y => y.1.2.2.2.1 = x.1.2.2.2.1 ∧ 0 ≤ y.1.2.2.2.2.2.1.val ∧ y.1.2.2.2.2.2.1.val ≤ 2) (fun y => (3 - y.1.2.2.2.2.2.1.val).toNat) ?_ ⟨rfl, z0, z2⟩ z3
  rintro y ⟨e, k0, k2⟩
  refine Wp.brn (fun h => ?_) (fun h => ?_)
  · obtain ⟨hk, k3⟩ := idx_in k0 h
    refine Wp.brnT hk ?_
    refine Wp.optF (Next_eq _ _ _ _ _) (Wp.optF (RNext_eq _ _ _ _ _) (Wp.optF (Next_eq _ _ _ _ _) (Wp.optF (RNext_eq _ _ _ _ _) ?_)))
    refine Wp.brnF (by show bnot (Ty.eqb _ _ _) = false; rw [eqb_self']; rfl) (Wp.brnF (neb_self _) (Wp.brnF (by show bnot (Ty.eqb _ _ _) = false; rw [eqb_self']; rfl) (Wp.brnF (neb_self _) ?_)))
    have hu := idx_up k0 k3
    refine Wp.again ⟨e, ?_, ?_⟩ ?_
    · show 0 ≤ (I.add y.1.2.2.2.2.2.1 (I.of .i64 1)).val
      omega
    · show (I.add y.1.2.2.2.2.2.1 (I.of .i64 1)).val ≤ 2
      omega
    · show (3 - (I.add y.1.2.2.2.2.2.1 (I.of .i64 1)).val).toNat < (3 - y.1.2.2.2.2.2.1.val).toNat
      omega
  · have hu := idx_up h0 h3
    refine Wp.done (Wp.again ⟨?_, ?_⟩ ?_)
    · show 0 ≤ (I.add y.1.2.2.2.1 (I.of .i64 1)).val
      rw [e]; omega
    · show (I.add y.1.2.2.2.1 (I.of .i64 1)).val ≤ 2
      rw [e]; omega
    · show (3 - (I.add y.1.2.2.2.1 (I.of .i64 1)).val).toNat < (3 - x.1.2.2.2.1.val).toNat
      rw [e]; omega
end Sym
