/- Quotients of 512 by 256 bits: what they are. -/
import Derived.Test.YtpeicefbediffaaPart4
import Derived.Test.YtpeicefbediffaaPart3
namespace Sym
open Go
theorem top_two : U.top = 2 ^ 256 := by decide
theorem half (N i : Nat) : N / 2 ^ i = 2 * (N / 2 ^ (i + 1)) + N / 2 ^ i % 2 := by
  rw [Nat.pow_succ, ← Nat.div_div_eq_div_mul]
  omega
theorem low_bit (a b : Nat) (i : Nat) (hi : i < 256) : (U.top * b + a) / 2 ^ i % 2 = a / 2 ^ i % 2 := by
  have e : U.top * b = 2 ^ i * (2 * (2 ^ (255 - i) * b)) := by
    have : U.top = 2 ^ i * (2 * 2 ^ (255 - i)) := by
      rw [top_two, ← Nat.pow_succ', ← Nat.pow_add, show i + (255 - i + 1) = 256 by omega]
    rw [this]
    simp only [Nat.mul_assoc]
  rw [e, Nat.mul_add_div (Nat.pow_pos (by decide)), Nat.mul_add_mod]
structure DivInv (N c t : Nat) (q r : U) : Prop where
  eq : N / 2 ^ t = q.val / 2 ^ t * c + r.val
  lt : r.val < c
  low : q.val % 2 ^ t = 0
theorem div_round {N c i : Nat} {q r q' r' : U} (h : DivInv N c (i + 1) q r) (bit d : Nat) (hb : N / 2 ^ i % 2 = bit) (hd : d ≤ 1) (hq : q'.val = q.val + d * 2 ^ i) (hr : 2 * r.val + bit = d * c + r'.val) (hlt : r'.val < c) : DivInv N c i q' r' := by
  have h1 := half N i
  have e1 : q.val / 2 ^ i = 2 * (q.val / 2 ^ (i + 1)) := by
    have := half q.val i
    have h2 : q.val / 2 ^ i % 2 = 0 := by
      have h3 := h.low
      rw [Nat.pow_succ] at h3
      have h4 := Nat.mod_mul (x := q.val) (a := 2 ^ i) (b := 2)
      rw [h3] at h4
      have h5 : 0 < 2 ^ i := Nat.pow_pos (by decide)
      rcases Nat.eq_zero_or_pos (q.val / 2 ^ i % 2) with h6 | h6
      · exact h6
      · have : 2 ^ i * 1 ≤ 2 ^ i * (q.val / 2 ^ i % 2) := Nat.mul_le_mul_left _ h6
        omega
    omega
  have e2 : q.val % 2 ^ i = 0 := by
    have h3 := h.low
    rw [Nat.pow_succ] at h3
    have h4 := Nat.mod_mul (x := q.val) (a := 2 ^ i) (b := 2)
    omega
  have e3 : q'.val / 2 ^ i = q.val / 2 ^ i + d := by rw [hq, Nat.add_mul_div_right _ _ (Nat.pow_pos (by decide))]
  refine ⟨?_, hlt, ?_⟩
  · rw [h1, h.eq, hb, e3, e1, Nat.add_mul, Nat.mul_add, Nat.mul_assoc]
    omega
  · rw [hq, Nat.add_mul_mod_self_right]; exact e2
theorem Div512_loop (a b c : U) (hbc : b.val < c.val) : muldiv_Div512 ((a, b, c, ()), ()) = some ((U.of ((U.top * b.val + a.val) / c.val), U.of ((U.top * b.val + a.val) % c.val), I.of .i64 0, ()), ()) := by
  have c0 : (I.of .i64 0).val = 0 := rfl
  have c1 : (I.of .i64 1).val = 1 := rfl
  have c64 : (I.of .i64 64).val = 64 := rfl
  have hct := U.lt c
  have key : Wp (fun o => o = some ((U.of ((U.top * b.val + a.val) / c.val), U.of ((U.top * b.val + a.val) % c.val), I.of .i64 0, ()), ())) (muldiv_Div512 ((a, b, c, ()), ())) := by
    unfold muldiv_Div512
    refine Wp.brnF ?_ ?_
    · refine (eqb_u256 c _).trans (decide_eq_false ?_)
      intro hh
      have hh : c.val = 0 := hh
      omega
    refine Wp.optF (uint256_Cmp_eq b c) ?_
    refine Wp.brnF ?_ ?_
    · show I.leb (I.of .i64 0) (cmpS b c) = false
      unfold cmpS
      rw [if_pos hbc]; rfl
    refine Wp.iter (fun x => -1 ≤ x.1.1.val ∧ x.1.1.val ≤ 255 ∧ x.2.1 = a ∧ x.2.2.1 = c ∧ DivInv (U.top * b.val + a.val) c.val (x.1.1.val + 1).toNat x.2.2.2.1 x.2.2.2.2.1) (fun x => (x.1.1.val + 1).toNat) ?_ ?_ ?_
    · rintro ⟨⟨i, ⟨⟩⟩, a', c', q, r, ⟨⟩⟩ ⟨hi0, hi1, e1, e2, hinv⟩
      simp only at hi0 hi1 e1 e2 hinv
      subst e1 e2
      refine Wp.brn (fun h => ?_) (fun h => ?_)
      · have hge := iff_leb.1 h
        simp only [c0] at hge
        clear h
        have ht : (i.val + 1).toNat = i.val.toNat + 1 := by omega
        rw [ht] at hinv
        have hq4 : (I.quo i (I.of .i64 64)).val = i.val / 64 := quo_i64 hge (by decide)
        have hr4 : (I.rem i (I.of .i64 64)).val = i.val % 64 := rem_i64 hge (by decide)
        have hin : inB (I.quo i (I.of .i64 64)) 4 = true := iff_inB.2 ⟨by omega, by omega⟩
        have hnn : I.nn (I.rem i (I.of .i64 64)) = true := iff_nn.2 (by omega)
        have hs : (I.sub i (I.of .i64 1)).val = i.val - 1 := by rw [sub_i64 (by omega)]; omega
        have hs1 : ((I.sub i (I.of .i64 1)).val + 1).toNat = i.val.toNat := by omega
        have hm : ((I.sub i (I.of .i64 1)).val + 1).toNat < (i.val + 1).toNat := by omega
        have en : I.nat (I.quo i (I.of .i64 64)) = i.val.toNat / 64 := by unfold I.nat; omega
        have er : (I.rem i (I.of .i64 64)).val.toNat = i.val.toNat % 64 := by omega
        refine Wp.brnT hin (Wp.brnT hnn ?_)
        have hbit : (I.and (I.shr (Arr.sel (I.of .u64 0) 4 a' (I.nat (I.quo i (I.of .i64 64)))) (I.rem i (I.of .i64 64))) (I.of .u64 1)).nat = (U.top * b.val + U.val a') / 2 ^ i.val.toNat % 2 := by
          rw [and_low _ 1 _ (by decide) (by decide), shr_i64 _ _ (by omega) (by omega), er, en, low_bit _ _ _ (by omega), bit_of a' i.val.toNat (by omega)]
          rfl
        obtain ⟨r1, o, hsh, hsum⟩ := shiftLeft_ok r (I.and (I.shr (Arr.sel (I.of .u64 0) 4 a' (I.nat (I.quo i (I.of .i64 64)))) (I.rem i (I.of .i64 64))) (I.of .u64 1)) (by rw [hbit]; omega)
        rw [hbit] at hsum
        refine Wp.optF hsh ?_
        have hlt := hinv.lt
        have hr1 := U.lt r1
        have hc1 : U.val c' < U.top := U.lt c'
        have setb : U.val (Arr.upd 4 q (I.nat (I.quo i (I.of .i64 64))) (I.or (Arr.sel (I.of .u64 0) 4 q (I.nat (I.quo i (I.of .i64 64)))) (I.shl (I.of .u64 1) (I.rem i (I.of .i64 64))))) = U.val q + 1 * 2 ^ i.val.toNat := by
          rw [en, Nat.one_mul]
          exact set_bit q i.val.toNat (by omega) _ (by rw [shl_one_i64 _ (by omega) (by omega), er]) hinv.low
        generalize hB : (U.top * b.val + U.val a') / 2 ^ i.val.toNat % 2 = bit at hsum
        have hB1 : bit ≤ 1 := by omega
        have ho : o.nat = 0 ∨ o.nat = 1 := by
          rcases Nat.lt_or_ge o.nat 2 with h1 | h1
          · omega
          · exfalso
            have : U.top * 2 ≤ U.top * o.nat := Nat.mul_le_mul_left _ h1
            omega
        refine Wp.brn (fun h => ?_) (fun h => ?_)
        · have h := iff_eqb.1 h
          have h : o.val = (I.of .u64 1).val := h
          have z1 : (I.of .u64 1).val = 1 := rfl
          have ho1 : o.nat = 1 := by have := nat_val o; omega
          rw [ho1, Nat.mul_one] at hsum
          obtain ⟨r2, qq, hsub, hsv, hqq⟩ := subWrap_ok r1 c'
          refine Wp.optF hsub ?_
          refine Wp.brnT hin (Wp.brnT hnn (Wp.brnT hin ?_))
          have hr2 := U.lt r2
          have hqq1 : qq = 1 := by
            rcases Nat.lt_or_ge qq 1 with h1 | h1
            · exfalso
              have : qq = 0 := by omega
              rw [this, Nat.mul_zero] at hsv
              omega
            · omega
          rw [hqq1, Nat.mul_one] at hsv
          refine Wp.again ⟨?_, ?_, rfl, rfl, ?_⟩ hm
          · show -1 ≤ (I.sub i (I.of .i64 1)).val; omega
          · show (I.sub i (I.of .i64 1)).val ≤ 255; omega
          · show DivInv _ _ ((I.sub i (I.of .i64 1)).val + 1).toNat _ r2
            rw [hs1]
            exact div_round (r' := r2) hinv bit 1 hB (Nat.le_refl _) setb (by omega) (by omega)
        · have h := niff_eqb.1 h
          have h : o.val ≠ (I.of .u64 1).val := h
          have z1 : (I.of .u64 1).val = 1 := rfl
          have ho0 : o.nat = 0 := by have := nat_val o; omega
          rw [ho0, Nat.mul_zero, Nat.add_zero] at hsum
          refine Wp.optF (uint256_Cmp_eq r1 c') ?_
          by_cases hcmp : U.val r1 < U.val c'
          · refine Wp.brnF ?_ ?_
            · show I.leb (I.of .i64 0) (cmpS r1 c') = false
              unfold cmpS
              rw [if_pos hcmp]; rfl
            refine Wp.again ⟨?_, ?_, rfl, rfl, ?_⟩ hm
            · show -1 ≤ (I.sub i (I.of .i64 1)).val; omega
            · show (I.sub i (I.of .i64 1)).val ≤ 255; omega
            · show DivInv _ _ ((I.sub i (I.of .i64 1)).val + 1).toNat q r1
              rw [hs1]
              exact div_round hinv bit 0 hB (by omega) (by omega) (by omega) hcmp
          · refine Wp.brnT ?_ ?_
            · show I.leb (I.of .i64 0) (cmpS r1 c') = true
              unfold cmpS
              rw [if_neg hcmp]
              split <;> rfl
            obtain ⟨r2, qq, hsub, hsv, hqq⟩ := subWrap_ok r1 c'
            refine Wp.optF hsub ?_
            refine Wp.brnT hin (Wp.brnT hnn (Wp.brnT hin ?_))
            have hr2 := U.lt r2
            have hqq0 : qq = 0 := by
              rcases Nat.lt_or_ge qq 1 with h1 | h1
              · omega
              · exfalso
                have : qq = 1 := by omega
                rw [this, Nat.mul_one] at hsv
                omega
            rw [hqq0, Nat.mul_zero, Nat.add_zero] at hsv
            refine Wp.again ⟨?_, ?_, rfl, rfl, ?_⟩ hm
            · show -1 ≤ (I.sub i (I.of .i64 1)).val; omega
            · show (I.sub i (I.of .i64 1)).val ≤ 255; omega
            · show DivInv _ _ ((I.sub i (I.of .i64 1)).val + 1).toNat _ r2
              rw [hs1]
              exact div_round (r' := r2) hinv bit 1 hB (Nat.le_refl _) setb (by omega) (by omega)
      · have h := niff_leb.1 h
        simp only [c0] at h
        have ht : (i.val + 1).toNat = 0 := by omega
        rw [ht] at hinv
        have heq := hinv.eq
        simp only [Nat.pow_zero, Nat.div_one] at heq
        have hlt := hinv.lt
        refine Wp.done ?_
        show some ((q, r, I.of .i64 0, ()), ()) = _
        have eq : (U.top * b.val + U.val a') / U.val c' = U.val q := by
          rw [heq, Nat.mul_comm, Nat.mul_add_div (by omega), Nat.div_eq_of_lt hlt, Nat.add_zero]
        have er : (U.top * b.val + U.val a') % U.val c' = U.val r := by
          rw [heq, Nat.mul_comm, Nat.mul_add_mod, Nat.mod_eq_of_lt hlt]
        have hq : q = U.of ((U.top * b.val + U.val a') / U.val c') := by rw [eq]; exact (U.of_val q).symm
        have hr : r = U.of ((U.top * b.val + U.val a') % U.val c') := by rw [er]; exact (U.of_val r).symm
        exact (congrArg (fun z : U => some ((z, r, I.of .i64 0, ()), ())) hq).trans (congrArg (fun z : U => some ((U.of ((U.top * b.val + U.val a') / U.val c'), z, I.of .i64 0, ()), ())) hr)
    · refine ⟨by show -1 ≤ (I.of .i64 255).val; decide, by show (I.of .i64 255).val ≤ 255; decide, rfl, rfl, ?_⟩
      show DivInv _ _ ((I.of .i64 255).val + 1).toNat (I.of .u64 0, I.of .u64 0, I.of .u64 0, I.of .u64 0, ()) b
      have e : ((I.of .i64 255).val + 1).toNat = 256 := rfl
      have ha := U.lt a
      rw [e]
      refine ⟨?_, hbc, rfl⟩
      have z : U.val (I.of .u64 0, I.of .u64 0, I.of .u64 0, I.of .u64 0, ()) = 0 := rfl
      rw [z, ← top_two, Nat.zero_div, Nat.zero_mul, Nat.zero_add, Nat.mul_add_div (by decide), Nat.div_eq_of_lt ha, Nat.add_zero]
    · exact K0_ge _ (by show ((I.of .i64 255).val + 1).toNat < _; decide)
  exact key.out
def divModS (a c : U) : U × U × I .i64 := if c.val = 0 then (U.of 0, U.of 0, I.of .i64 5) else (U.of (a.val / c.val), U.of (a.val % c.val), I.of .i64 0)
theorem DivMod_ok (a c : U) : muldiv_DivMod ((a, c, ()), ()) = some (((divModS a c).1, (divModS a c).2.1, (divModS a c).2.2, ()), ()) := by
  refine Wp.out (T := fun o => o = _) ?_
  unfold muldiv_DivMod divModS
  by_cases h : c.val = 0
  · rw [if_pos h]
    refine Wp.optF (y := ((U.of 0, U.of 0, I.of .i64 5, ()), ())) ?_ rfl
    refine Wp.out (T := fun o => o = _) ?_
    unfold muldiv_Div512
    refine Wp.brnT ?_ rfl
    exact (eqb_u256 c _).trans (decide_eq_true h)
  · rw [if_neg h]
    have hz : U.val (U.of 0) = 0 := rfl
    have := Div512_loop a (U.of 0) c (by omega)
    rw [hz, Nat.mul_zero, Nat.zero_add] at this
    exact Wp.optF this rfl
end Sym

/- Signed numbers of 256 bits: what the program's functions compute, told of whole numbers. -/
namespace Sym
open Go
abbrev S : Type := Bool × U × Unit
def S.int (x : S) : Int := if x.1 then -(x.2.1.val : Int) else x.2.1.val
def S.of (z : Int) : S := (decide (z < 0), U.of z.natAbs, ())
def validB (x : S) : Bool := !(x.1 && decide (x.2.1.val = 0))
theorem S.abs (x : S) : x.int.natAbs = x.2.1.val := by
  unfold S.int
  split <;> omega
theorem S.of_int {x : S} (h : validB x = true) : S.of x.int = x := by
  obtain ⟨n, a, ⟨⟩⟩ := x
  unfold S.of
  have e := S.abs (n, a, ())
  rw [e]
  have e2 : decide (S.int (n, a, ()) < 0) = n := by
    unfold S.int
    unfold validB at h
    cases n with
    | false => simp
    | true =>
      simp at h
      simp
      omega
  rw [e2]
  show (n, U.of a.val, ()) = _
  rw [U.of_val]
theorem S.int_of {z : Int} (h : z.natAbs < U.top) : (S.of z).int = z := by
  unfold S.of S.int
  simp only [U.val_of h]
  by_cases hz : z < 0
  · simp [hz]; omega
  · simp [hz]; omega
theorem S.of_valid {z : Int} (h : z.natAbs < U.top) : validB (S.of z) = true := by
  unfold S.of validB
  simp only [U.val_of h]
  by_cases hz : z < 0
  · simp [hz]; omega
  · simp [hz]
theorem S.lt (x : S) : x.int.natAbs < U.top := by rw [S.abs]; exact U.lt _
def resS (z : Int) : S × I .i64 := if z.natAbs < U.top then (S.of z, I.of .i64 0) else (S.of 0, I.of .i64 4)
theorem eqz (a : U) : Ty.eqb (.arr 4 (.int .u64)) a (I.of .u64 0, I.of .u64 0, I.of .u64 0, I.of .u64 0, ()) = decide (a.val = 0) := eqb_u256 a (U.of 0)
theorem Valid_eq (x : S) : int256_Valid ((x, ()), ()) = some ((validB x, ()), ()) := by
  obtain ⟨n, a, ⟨⟩⟩ := x
  refine Wp.out (T := fun o => o = some ((validB (n, a, ()), ()), ())) ?_
  unfold int256_Valid
  cases n with
  | false => exact Wp.brnT rfl rfl
  | true =>
    refine Wp.brnF rfl ?_
    show some ((!(Ty.eqb (.arr 4 (.int .u64)) a (I.of .u64 0, I.of .u64 0, I.of .u64 0, I.of .u64 0, ())), ()), ()) = some ((!(true && decide (a.val = 0)), ()), ())
    rw [eqz, Bool.true_and]
def sgn (n : Bool) (m : Nat) : Int := if n then -(m : Int) else m
theorem New_eq (n : Bool) (a : U) : int256_New ((n, a, ()), ()) = some ((S.of (sgn n a.val), ()), ()) := by
  refine Wp.out (T := fun o => o = some ((S.of (sgn n a.val), ()), ())) ?_
  unfold int256_New sgn S.of
  cases n with
  | false =>
    refine Wp.brnF rfl ?_
    show some (((false, a, ()), ()), ()) = some (((decide (((a.val : Nat) : Int) < 0), U.of ((a.val : Nat) : Int).natAbs, ()), ()), ())
    rw [Int.natAbs_natCast, U.of_val, decide_eq_false (by omega)]
  | true =>
    refine Wp.brnT rfl ?_
    show some (((!(Ty.eqb (.arr 4 (.int .u64)) a (I.of .u64 0, I.of .u64 0, I.of .u64 0, I.of .u64 0, ())), a, ()), ()), ()) = some (((decide (-((a.val : Nat) : Int) < 0), U.of (-((a.val : Nat) : Int)).natAbs, ()), ()), ())
    rw [eqz, Int.natAbs_neg, Int.natAbs_natCast, U.of_val]
    by_cases h : a.val = 0
    · rw [h]; rfl
    · rw [decide_eq_false h, decide_eq_true (show -((a.val : Nat) : Int) < 0 by omega)]; rfl
def negS (x : S) : S × I .i64 := if validB x then (S.of (-x.int), I.of .i64 0) else (S.of 0, I.of .i64 2)
theorem Neg_eq (x : S) : int256_Neg ((x, ()), ()) = some (((negS x).1, (negS x).2, ()), ()) := by
  refine Wp.out (T := fun o => o = some (((negS x).1, (negS x).2, ()), ())) ?_
  unfold int256_Neg negS
  refine Wp.optF (Valid_eq x) ?_
  by_cases h : validB x = true
  · rw [if_pos h]
    refine Wp.brnF (by show (!validB x) = false; rw [h]; rfl) ?_
    refine Wp.optF (New_eq (!x.1) x.2.1) ?_
    have : sgn (!x.1) x.2.1.val = -x.int := by
      unfold sgn S.int
      cases x.1 <;> simp
    rw [this]; rfl
  · rw [if_neg h]
    refine Wp.brnT (by show (!validB x) = true; simp [h]) rfl
theorem Diff_eq (a b : U) : int256_Diff ((a, b, ()), ()) = some ((S.of ((a.val : Int) - b.val), ()), ()) := by
  refine Wp.out (T := fun o => o = some ((S.of ((a.val : Int) - b.val), ()), ())) ?_
  have ha := a.lt
  have hb := b.lt
  unfold int256_Diff
  refine Wp.optF (uint256_Cmp_eq a b) ?_
  by_cases h : a.val < b.val
  · refine Wp.brnF (by show I.leb (I.of .i64 0) (cmpS a b) = false; unfold cmpS; rw [if_pos h]; rfl) ?_
    refine Wp.optF (SatSub_ok b a) ?_
    refine Wp.optF (New_eq true (U.of (b.val - a.val))) ?_
    rw [U.val_of (by omega), show sgn true (b.val - a.val) = (a.val : Int) - b.val by unfold sgn; simp; omega]; rfl
  · refine Wp.brnT (by show I.leb (I.of .i64 0) (cmpS a b) = true; unfold cmpS; rw [if_neg h]; split <;> rfl) ?_
    refine Wp.optF (SatSub_ok a b) ?_
    refine Wp.optF (New_eq false (U.of (a.val - b.val))) ?_
    rw [U.val_of (by omega), show sgn false (a.val - b.val) = (a.val : Int) - b.val by unfold sgn; simp; omega]; rfl
def binS (x y : S) (z : Int) : S × I .i64 := if validB x && validB y then resS z else (S.of 0, I.of .i64 2)
theorem binS_t {x y : S} {z : Int} (h1 : validB x = true) (h2 : validB y = true) : binS x y z = resS z := by unfold binS; rw [h1, h2]; rfl
theorem binS_f1 {x y : S} {z : Int} (h1 : validB x = false) : binS x y z = (S.of 0, I.of .i64 2) := by unfold binS; rw [h1]; rfl
theorem binS_f2 {x y : S} {z : Int} (h2 : validB y = false) : binS x y z = (S.of 0, I.of .i64 2) := by unfold binS; rw [h2]; simp
theorem resS_lt {z : Int} (h : z.natAbs < U.top) : resS z = (S.of z, I.of .i64 0) := if_pos h
theorem resS_ge {z : Int} (h : U.top ≤ z.natAbs) : resS z = (S.of 0, I.of .i64 4) := if_neg (by omega)
theorem SAdd_eq (x y : S) : int256_Add ((x, y, ()), ()) = some (((binS x y (x.int + y.int)).1, (binS x y (x.int + y.int)).2, ()), ()) := by
  refine Wp.out (T := fun o => o = some (((binS x y (x.int + y.int)).1, (binS x y (x.int + y.int)).2, ()), ())) ?_
  unfold int256_Add
  refine Wp.jn (fun s => validB x = true ∧ validB y = true ∧ s.2.1 = x ∧ s.2.2.1 = y) ?_ ?_
  · rintro ⟨⟨⟩, x', y', r, ⟨⟩⟩ ⟨h1, h2, e1, e2⟩
    simp only at e1 e2
    subst e1 e2
    rw [binS_t h1 h2]
    obtain ⟨n, a, ⟨⟩⟩ := x'
    obtain ⟨m, b, ⟨⟩⟩ := y'
    have ha := U.lt a
    have hb := U.lt b
    have hab : ∀ (p q : U), ((p.val : Int) - q.val).natAbs < U.top := fun p q => by have := p.lt; have := q.lt; omega
    have same : ∀ (n : Bool), S.int (n, a, ()) + S.int (n, b, ()) = sgn n (U.val a + U.val b) := fun n => by unfold S.int sgn; cases n <;> simp <;> omega
    have add : ∀ (n : Bool), Wp (fun o => o = some (((resS (S.int (n, a, ()) + S.int (n, b, ()))).1, (resS (S.int (n, a, ()) + S.int (n, b, ()))).2, ()), ()))
        (optF none (uint256_Add ((a, b, ()), ())) fun y1 => brn (I.neb y1.1.2.1 (I.of .i64 0)) (some (((false, (I.of .u64 0, I.of .u64 0, I.of .u64 0, I.of .u64 0, ()), ()), y1.1.2.1, ()), ())) (optF none (int256_New ((n, y1.1.1, ()), ())) fun y2 => some ((y2.1.1, I.of .i64 0, ()), ()))) := by
      intro n
      rw [same]
      refine Wp.optF (uint256_Add_eq a b) ?_
      have e : (sgn n (U.val a + U.val b)).natAbs = U.val a + U.val b := by unfold sgn; cases n <;> simp <;> omega
      unfold addS
      by_cases h : U.val a + U.val b < U.top
      · rw [if_pos h, resS_lt (by rw [e]; exact h)]
        refine Wp.brnF rfl ?_
        refine Wp.optF (New_eq n (U.of (U.val a + U.val b))) ?_
        rw [U.val_of h]; rfl
      · rw [if_neg h, resS_ge (by rw [e]; omega)]
        exact Wp.brnT rfl rfl
    cases n <;> cases m
    · exact Wp.brnT rfl (add false)
    · refine Wp.brnF rfl (Wp.brnF rfl ?_)
      refine Wp.optF (Diff_eq a b) ?_
      have : S.int (false, a, ()) + S.int (true, b, ()) = (U.val a : Int) - U.val b := by unfold S.int; simp; omega
      rw [this, resS_lt (hab a b)]; rfl
    · refine Wp.brnF rfl (Wp.brnT rfl ?_)
      refine Wp.optF (Diff_eq b a) ?_
      have : S.int (true, a, ()) + S.int (false, b, ()) = (U.val b : Int) - U.val a := by unfold S.int; simp; omega
      rw [this, resS_lt (hab b a)]; rfl
    · exact Wp.brnT rfl (add true)
  · intro j hj
    refine Wp.optF (Valid_eq x) ?_
    cases h1 : validB x with
    | false =>
      rw [binS_f1 h1]
      exact Wp.brnT rfl rfl
    | true =>
      refine Wp.brnF rfl ?_
      refine Wp.optF (Valid_eq y) ?_
      cases h2 : validB y with
      | false =>
        rw [binS_f2 h2]
        exact Wp.brnT rfl rfl
      | true =>
        exact Wp.brnF rfl (hj _ ⟨h1, h2, rfl, rfl⟩)
end Sym

/- Signed numbers of 256 bits: differences, products, quotients, order. -/
namespace Sym
open Go
theorem SSub_eq (x y : S) : int256_Sub ((x, y, ()), ()) = some (((binS x y (x.int - y.int)).1, (binS x y (x.int - y.int)).2, ()), ()) := by
  refine Wp.out (T := fun o => o = some (((binS x y (x.int - y.int)).1, (binS x y (x.int - y.int)).2, ()), ())) ?_
  unfold int256_Sub
  refine Wp.optF (Neg_eq y) ?_
  refine Wp.jn (fun s => validB x = true ∧ validB y = true ∧ s.2.1 = x ∧ s.2.2.2.1 = S.of (-y.int)) ?_ ?_
  · rintro ⟨⟨⟩, x', r, y', ⟨⟩⟩ ⟨h1, h2, e1, e2⟩
    simp only at e1 e2
    subst e1 e2
    refine Wp.optF (SAdd_eq x' (S.of (-y.int))) ?_
    have hy := y.lt
    rw [binS_t h1 h2, binS_t h1 (S.of_valid (by omega)), S.int_of (by omega), show S.int x' + -y.int = S.int x' - y.int by omega]
    rfl
  · intro j hj
    unfold negS
    cases h2 : validB y with
    | false =>
      rw [binS_f2 h2]
      exact Wp.brnT rfl rfl
    | true =>
      refine Wp.brnF rfl ?_
      refine Wp.optF (Valid_eq x) ?_
      cases h1 : validB x with
      | false =>
        rw [binS_f1 h1]
        exact Wp.brnT rfl rfl
      | true => exact Wp.brnF rfl (hj _ ⟨h1, h2, rfl, rfl⟩)
theorem sgn_mul (n m : Bool) (a b : Nat) : sgn n a * sgn m b = sgn (!(n == m)) (a * b) := by
  unfold sgn
  cases n <;> cases m <;> simp [Int.neg_mul, Int.mul_neg]
theorem sgn_abs (n : Bool) (a : Nat) : (sgn n a).natAbs = a := by unfold sgn; cases n <;> simp
theorem SMul_eq (x y : S) : int256_Mul ((x, y, ()), ()) = some (((binS x y (x.int * y.int)).1, (binS x y (x.int * y.int)).2, ()), ()) := by
  refine Wp.out (T := fun o => o = some (((binS x y (x.int * y.int)).1, (binS x y (x.int * y.int)).2, ()), ())) ?_
  unfold int256_Mul
  refine Wp.jn (fun s => validB x = true ∧ validB y = true ∧ s.2.1 = x ∧ s.2.2.1 = y) ?_ ?_
  · rintro ⟨⟨⟩, x', y', r, ⟨⟩⟩ ⟨h1, h2, e1, e2⟩
    simp only at e1 e2
    subst e1 e2
    rw [binS_t h1 h2]
    obtain ⟨n, a, ⟨⟩⟩ := x'
    obtain ⟨m, b, ⟨⟩⟩ := y'
    have e : S.int (n, a, ()) * S.int (m, b, ()) = sgn (!(n == m)) (U.val a * U.val b) := sgn_mul n m _ _
    rw [e]
    refine Wp.optF (Mul_ok a b) ?_
    unfold errS
    by_cases h : U.val a * U.val b < U.top
    · rw [if_pos h, resS_lt (by rw [sgn_abs]; exact h)]
      refine Wp.brnF rfl ?_
      refine Wp.optF (New_eq (!(n == m)) (U.of (U.val a * U.val b))) ?_
      rw [U.val_of h]; rfl
    · rw [if_neg h, resS_ge (by rw [sgn_abs]; omega)]
      exact Wp.brnT rfl rfl
  · intro j hj
    refine Wp.optF (Valid_eq x) ?_
    cases h1 : validB x with
    | false =>
      rw [binS_f1 h1]
      exact Wp.brnT rfl rfl
    | true =>
      refine Wp.brnF rfl ?_
      refine Wp.optF (Valid_eq y) ?_
      cases h2 : validB y with
      | false =>
        rw [binS_f2 h2]
        exact Wp.brnT rfl rfl
      | true =>
        exact Wp.brnF rfl (hj _ ⟨h1, h2, rfl, rfl⟩)
def divFS (x : S) (d : U) : S × I .i64 := if validB x then (if d.val = 0 then (S.of 0, I.of .i64 5) else (S.of (x.int / (d.val : Int)), I.of .i64 0)) else (S.of 0, I.of .i64 2)
theorem neg_div (a d : Nat) (hd : 0 < d) : -(a : Int) / (d : Int) = if a % d = 0 then -((a / d : Nat) : Int) else -((a / d + 1 : Nat) : Int) := by
  have h1 := Nat.div_add_mod a d
  have h2 := Nat.mod_lt a hd
  have h1' : (d : Int) * ((a / d : Nat) : Int) + ((a % d : Nat) : Int) = (a : Int) := by rw [← Int.natCast_mul]; omega
  by_cases h : a % d = 0
  · rw [if_pos h]
    refine ((Int.ediv_emod_unique (r := 0) (by omega)).2 ⟨?_, by omega, by omega⟩).1
    rw [h] at h1'
    rw [Int.mul_neg]
    simp only [Int.ofNat_zero] at h1'
    omega
  · rw [if_neg h]
    refine ((Int.ediv_emod_unique (r := (d : Int) - ((a % d : Nat) : Int)) (by omega)).2 ⟨?_, by omega, by omega⟩).1
    rw [Int.natCast_add, Int.mul_neg, Int.mul_add, show ((1 : Nat) : Int) = 1 from rfl, Int.mul_one]
    omega
theorem DivFloor_eq (x : S) (d : U) : int256_DivFloor ((x, d, ()), ()) = some (((divFS x d).1, (divFS x d).2, ()), ()) := by
  refine Wp.out (T := fun o => o = some (((divFS x d).1, (divFS x d).2, ()), ())) ?_
  unfold int256_DivFloor divFS
  refine Wp.optF (Valid_eq x) ?_
  cases h1 : validB x with
  | false => exact Wp.brnT rfl rfl
  | true =>
    refine Wp.brnF rfl ?_
    refine Wp.optF (DivMod_ok x.2.1 d) ?_
    unfold divModS
    by_cases hd : d.val = 0
    · rw [if_pos hd, if_pos rfl, if_pos hd]
      exact Wp.brnT rfl rfl
    · rw [if_neg hd, if_pos rfl, if_neg hd]
      refine Wp.brnF rfl ?_
      obtain ⟨n, a, ⟨⟩⟩ := x
      have ha := U.lt a
      have hq : U.val a / d.val < U.top := Nat.lt_of_le_of_lt (Nat.div_le_self _ _) ha
      have hr : U.val a % d.val < U.top := Nat.lt_of_le_of_lt (Nat.mod_le _ _) ha
      refine Wp.jn (fun s => s.2.1.1 = n ∧ s.2.2.2.1 = U.of (U.val a / d.val) ∧ s.1.1 = (n && !decide (U.val a % d.val = 0))) ?_ ?_
      · rintro ⟨⟨b, ⟨⟩⟩, ⟨n', a', ⟨⟩⟩, r, q, ⟨⟩⟩ ⟨e1, e2, e3⟩
        simp only at e1 e2 e3
        subst e1 e2 e3
        cases n' with
        | false =>
          refine Wp.brnF rfl ?_
          refine Wp.optF (New_eq false (U.of (U.val a / d.val))) ?_
          rw [U.val_of hq]
          rfl
        | true =>
          have hz : S.int (true, a, ()) / (d.val : Int) = if U.val a % d.val = 0 then -((U.val a / d.val : Nat) : Int) else -((U.val a / d.val + 1 : Nat) : Int) := neg_div _ _ (by omega)
          rw [hz]
          by_cases hm : U.val a % d.val = 0
          · rw [if_pos hm]
            refine Wp.brnF (by show (true && !decide (U.val a % d.val = 0)) = false; rw [hm]; rfl) ?_
            refine Wp.optF (New_eq true (U.of (U.val a / d.val))) ?_
            rw [U.val_of hq]
            rfl
          · rw [if_neg hm]
            refine Wp.brnT (by show (true && !decide (U.val a % d.val = 0)) = true; simp [hm]) ?_
            refine Wp.optF (u256_FromUint64 _) ?_
            refine Wp.optF (uint256_Add_eq (U.of (U.val a / d.val)) (u64U (I.of .u64 1))) ?_
            have hlt : U.val a / d.val + 1 < U.top := by
              have h2 : d.val ≠ 1 := by intro e; rw [e, Nat.mod_one] at hm; exact hm rfl
              have h3 : U.val a / d.val ≤ U.val a / 2 := Nat.div_le_div_left (by omega) (by decide)
              have : U.top = 115792089237316195423570985008687907853269984665640564039457584007913129639936 := rfl
              omega
            have h1v : (u64U (I.of .u64 1)).val = 1 := rfl
            unfold addS
            rw [U.val_of hq, h1v, if_pos hlt]
            refine Wp.optF (New_eq true (U.of (U.val a / d.val + 1))) ?_
            rw [U.val_of hlt]
            rfl
      · intro j hj
        have hbit : (!(Ty.eqb (.arr 4 (.int .u64)) (U.of (U.val a % d.val)) (I.of .u64 0, I.of .u64 0, I.of .u64 0, I.of .u64 0, ()))) = !decide (U.val a % d.val = 0) := by rw [eqz, U.val_of hr]
        cases n with
        | false => exact Wp.brnF rfl (hj _ ⟨rfl, rfl, rfl⟩)
        | true => exact Wp.brnT rfl (hj _ ⟨rfl, rfl, hbit⟩)
def clampS (a : U) (y : S) : U × I .i64 := if validB y then (if (a.val : Int) + y.int < 0 then (U.of 0, I.of .i64 0) else errS ((a.val : Int) + y.int).toNat) else (U.of 0, I.of .i64 2)
theorem AddClamped_eq (a : U) (y : S) : int256_AddClamped ((a, y, ()), ()) = some (((clampS a y).1, (clampS a y).2, ()), ()) := by
  refine Wp.out (T := fun o => o = some (((clampS a y).1, (clampS a y).2, ()), ())) ?_
  unfold int256_AddClamped clampS
  refine Wp.optF (Valid_eq y) ?_
  cases h1 : validB y with
  | false => exact Wp.brnT rfl rfl
  | true =>
    refine Wp.brnF rfl ?_
    rw [if_pos rfl]
    obtain ⟨n, b, ⟨⟩⟩ := y
    have ha := U.lt a
    have hb := U.lt b
    cases n with
    | false =>
      refine Wp.brnF rfl ?_
      refine Wp.optF (uint256_Add_eq a b) ?_
      have e : S.int (false, b, ()) = (U.val b : Int) := rfl
      rw [e, if_neg (by omega), show ((U.val a : Int) + U.val b).toNat = U.val a + U.val b by omega]
      rfl
    | true =>
      refine Wp.brnT rfl ?_
      refine Wp.optF (SatSub_ok a b) ?_
      have e : S.int (true, b, ()) = -(U.val b : Int) := rfl
      rw [e]
      by_cases h : U.val a < U.val b
      · rw [if_pos (by omega), show U.val a - U.val b = 0 by omega]
        rfl
      · rw [if_neg (by omega), show ((U.val a : Int) + -(U.val b : Int)).toNat = U.val a - U.val b by omega]
        rw [show errS (U.val a - U.val b) = (U.of (U.val a - U.val b), I.of .i64 0) from if_pos (by omega)]
        rfl
end Sym

/- Signed numbers: what the reference's functions compute; two laws. -/
namespace Sym
open Go
abbrev SB : Type := Bool × List Dg × Unit
structure IsSB (s : SB) (z : Int) : Prop where
  neg : s.1 = decide (z < 0)
  abs : IsB s.2.1 z.natAbs
def Bd (n : Nat) : Prop := n < 65536 ^ 64
theorem len_small' {l : List Dg} {n : Nat} (h : IsB l n) (k : Nat) (hn : n < 65536 ^ k) (hk : k ≤ 1000000) : l.length ≤ 1000000 := Nat.le_trans (h.len.2 hn) hk
theorem Bd.len {l : List Dg} {n : Nat} (h : IsB l n) (hb : Bd n) : l.length ≤ 1000000 := len_small' h 64 hb (by decide)
end Sym

/- Signed numbers: the laws of order, negation and algebra. -/
namespace Sym
open Go
theorem Neg_t {x : S} (h : validB x = true) : int256_Neg ((x, ()), ()) = some ((S.of (-x.int), I.of .i64 0, ()), ()) := by
  have := Neg_eq x
  unfold negS at this
  rw [h] at this
  exact this
theorem SSub_t {x y : S} (h1 : validB x = true) (h2 : validB y = true) : int256_Sub ((x, y, ()), ()) = some (((resS (x.int - y.int)).1, (resS (x.int - y.int)).2, ()), ()) := by
  have := SSub_eq x y
  rw [binS_t h1 h2] at this
  exact this
theorem SMul_t {x y : S} (h1 : validB x = true) (h2 : validB y = true) : int256_Mul ((x, y, ()), ()) = some (((resS (x.int * y.int)).1, (resS (x.int * y.int)).2, ()), ()) := by
  have := SMul_eq x y
  rw [binS_t h1 h2] at this
  exact this
end Sym

/- Signed numbers: the law of algebra. -/
namespace Sym
open Go
theorem top_u64 (c : I .u64) : c.nat < U.top := by
  have := nat_lt c
  have : U.top = 115792089237316195423570985008687907853269984665640564039457584007913129639936 := rfl
  omega
theorem floor_abs (z : Int) (d : Nat) (hd : d ≠ 0) : (z / (d : Int)).natAbs ≤ z.natAbs := by
  have h1 := Int.mul_ediv_add_emod z d
  have h2 := Int.emod_nonneg z (b := (d : Int)) (by omega)
  have h3 := Int.emod_lt_of_pos z (b := (d : Int)) (by omega)
  rcases Int.lt_or_le z 0 with h | h
  · have h4 : z / (d : Int) < 0 := by
      rcases Int.lt_or_le (z / (d : Int)) 0 with h7 | h7
      · exact h7
      · have := Int.mul_nonneg (show (0 : Int) ≤ (d : Int) by omega) h7
        omega
    have h5 : z ≤ z / (d : Int) := by
      have : (d : Int) * (z / (d : Int)) ≤ 1 * (z / (d : Int)) := Int.mul_le_mul_of_nonpos_right (by omega) (by omega)
      have h6 : z - (z % d) = (d : Int) * (z / (d : Int)) := by omega
      rcases Int.lt_or_le (z / (d : Int)) z with h7 | h7
      · exfalso
        have : (d : Int) * (z / (d : Int) + 1) ≤ (d : Int) * z := Int.mul_le_mul_of_nonneg_left (by omega) (by omega)
        rw [Int.mul_add, Int.mul_one] at this
        have h8 : (d : Int) * z ≤ 1 * z := Int.mul_le_mul_of_nonpos_right (by omega) (by omega)
        omega
      · exact h7
    omega
  · have h4 : 0 ≤ z / (d : Int) := Int.ediv_nonneg h (by omega)
    have h5 : z / (d : Int) ≤ z := Int.ediv_le_self _ h
    omega
end Sym

/- Natural numbers by digits of 65536: products, and quotients by one digit. -/
namespace Sym
open Go
structure MulInv (a b : List Dg) (i k : Nat) (over : Nat) (out : List Dg) : Prop where
  len : out.length = a.length + b.length
  dig : Digs out
  zero : ∀ j, i + b.length ≤ j → (rd0 out j).nat = 0
  eq : bv out + 65536 ^ (i + k) * over = bv (a.take i) * bv b + (rd0 a i).nat * 65536 ^ i * bv (b.take k)
end Sym

/- Signed numbers: the laws of arithmetic. -/
namespace Sym
open Go
end Sym

/- Natural numbers by digits of 65536: quotients. -/
namespace Sym
open Go
structure ShInv (a : List Dg) (d : Nat) (left : Nat) (j : Nat) (q : List Dg) : Prop where
  len : q.length = a.length
  dig : Digs q
  lt : left < d
  eq : bv (a.drop j) = bv (q.drop j) * d + left
end Sym

/- Natural numbers by digits of 65536: the long division. -/
namespace Sym
open Go
structure DivOut (a q r : List Dg) (n j : Nat) : Prop where
  ql : q.length = a.length
  qd : Digs q
  rd : Digs r
  lt : bv r < n
  zero : ∀ s, s < j → (rd0 q s).nat = 0
  eq : bv (a.drop j) = bv (q.drop j) * n + bv r
structure DivMid (a q r : List Dg) (n i t : Nat) : Prop where
  ql : q.length = a.length
  qd : Digs q
  rd : Digs r
  lt : bv r < n
  zero : ∀ s, s < i → (rd0 q s).nat = 0
  low : (rd0 q i).nat % 2 ^ t = 0
  eq : bv (a.drop (i + 1)) * 2 ^ (16 - t) + (rd0 a i).nat / 2 ^ t = (bv (q.drop (i + 1)) * 2 ^ (16 - t) + (rd0 q i).nat / 2 ^ t) * n + bv r
structure DblInv (r : List Dg) (b over k : Nat) (s : List Dg) : Prop where
  len : s.length = r.length
  dig : Digs s
  drop : s.drop k = r.drop k
  o1 : over ≤ 1
  eq : bv (s.take k) + 65536 ^ k * over = 2 * bv (r.take k) + b
end Sym

/- Signed numbers: the law of quotients. -/
namespace Sym
open Go
end Sym

/- Parameters: which are valid. -/
namespace Sym
open Go
abbrev Prm : Type := I .u64 × I .u64 × I .u64 × U × I .u64 × U × I .u64 × U × I .u64 × I .u64 × I .u64 × I .u64 × Unit
def getK (p : Prm) : Nat → U
  | 1 => u64U p.1
  | 2 => u64U p.2.1
  | 3 => u64U p.2.2.1
  | 4 => p.2.2.2.1
  | 5 => u64U p.2.2.2.2.1
  | 6 => p.2.2.2.2.2.1
  | 7 => u64U p.2.2.2.2.2.2.1
  | 8 => p.2.2.2.2.2.2.2.1
  | 9 => u64U p.2.2.2.2.2.2.2.2.1
  | 10 => u64U p.2.2.2.2.2.2.2.2.2.1
  | 11 => u64U p.2.2.2.2.2.2.2.2.2.2.1
  | _ => u64U p.2.2.2.2.2.2.2.2.2.2.2.1
def loK (p : Prm) : Nat → I .u64
  | 1 => I.of .u64 1
  | 2 => I.of .u64 0
  | 3 => I.of .u64 1
  | 4 => I.of .u64 1
  | 5 => I.of .u64 1
  | 6 => I.of .u64 0
  | 7 => I.of .u64 0
  | 8 => I.of .u64 0
  | 9 => I.of .u64 1
  | 10 => I.of .u64 1
  | 11 => I.of .u64 0
  | _ => p.2.2.2.2.2.2.2.2.2.2.1
def hiK : Nat → I .u64
  | 1 => I.of .u64 1099511627776
  | 2 => I.of .u64 1048576
  | 3 => I.of .u64 1048576
  | 4 => I.of .u64 18446744073709551615
  | 5 => I.of .u64 1099511627776
  | 6 => I.of .u64 18446744073709551615
  | 7 => I.of .u64 10000
  | 8 => I.of .u64 18446744073709551615
  | 9 => I.of .u64 1099511627776
  | 10 => I.of .u64 1048576
  | 11 => I.of .u64 1048576
  | _ => I.of .u64 16777216
theorem Get_eq (p : Prm) (k : Nat) (h1 : 1 ≤ k) (h2 : k ≤ 12) : params_Get ((p, I.of .i64 (k : Int), ()), ()) = some ((getK p k, I.of .i64 0, ()), ()) := by
  match k, h1, h2 with
  | 1, _, _ => rfl
  | 2, _, _ => rfl
  | 3, _, _ => rfl
  | 4, _, _ => rfl
  | 5, _, _ => rfl
  | 6, _, _ => rfl
  | 7, _, _ => rfl
  | 8, _, _ => rfl
  | 9, _, _ => rfl
  | 10, _, _ => rfl
  | 11, _, _ => rfl
  | 12, _, _ => rfl
  | k + 13, _, h => omega
theorem bounds_eq (p : Prm) (k : Nat) (h1 : 1 ≤ k) (h2 : k ≤ 12) : params_bounds ((p, I.of .i64 (k : Int), ()), ()) = some ((loK p k, hiK k, ()), ()) := by
  match k, h1, h2 with
  | 1, _, _ => rfl
  | 2, _, _ => rfl
  | 3, _, _ => rfl
  | 4, _, _ => rfl
  | 5, _, _ => rfl
  | 6, _, _ => rfl
  | 7, _, _ => rfl
  | 8, _, _ => rfl
  | 9, _, _ => rfl
  | 10, _, _ => rfl
  | 11, _, _ => rfl
  | 12, _, _ => rfl
  | k + 13, _, h => omega
def okK (p : Prm) (k : Nat) : Bool := decide ((loK p k).nat ≤ (getK p k).val ∧ (getK p k).val ≤ (hiK k).nat)
def fiF (p : Prm) : Nat → Nat → I .i64
  | 0, _ => I.of .i64 0
  | n + 1, k => if okK p k = true then fiF p n (k + 1) else I.of .i64 (k : Int)
def fiS (p : Prm) : I .i64 := fiF p 12 1
theorem cmp_ltb (a b : U) : I.ltb (cmpS a b) (I.of .i64 0) = decide (a.val < b.val) := by
  unfold cmpS
  by_cases h : a.val < b.val
  · rw [if_pos h]; simp [h]; rfl
  · rw [if_neg h]
    by_cases h2 : b.val < a.val
    · rw [if_pos h2]; simp [h]; rfl
    · rw [if_neg h2]; simp [h]; rfl
theorem cmp_gtb (a b : U) : I.ltb (I.of .i64 0) (cmpS a b) = decide (b.val < a.val) := by
  unfold cmpS
  by_cases h : a.val < b.val
  · rw [if_pos h]; simp [show ¬ b.val < a.val by omega]; rfl
  · rw [if_neg h]
    by_cases h2 : b.val < a.val
    · rw [if_pos h2]; simp [h2]; rfl
    · rw [if_neg h2]; simp [h2]; rfl
theorem FirstInvalid_eq (p : Prm) : params_FirstInvalid ((p, ()), ()) = some ((fiS p, ()), ()) := by
  refine Wp.out (T := fun o => o = some ((fiS p, ()), ())) ?_
  unfold params_FirstInvalid
  refine Wp.iter (Inv := fun x => ∃ k : Nat, 1 ≤ k ∧ k ≤ 13 ∧ x = ((I.of .i64 (k : Int), ()), (p, ())) ∧ fiF p (13 - k) k = fiS p) (fun x => 14 - x.1.1.val.toNat) ?_ ⟨1, by omega, by omega, rfl, rfl⟩ ?_
  · rintro x ⟨k, hk1, hk2, rfl, hf⟩
    have hkv : (I.of .i64 (k : Int)).val = k := of_i64 ⟨by omega, by omega⟩
    refine Wp.brn (fun hc => ?_) (fun hc => ?_)
    · rw [iff_leb] at hc
      replace hc : (I.of .i64 (k : Int)).val ≤ 12 := hc
      have hk : k ≤ 12 := by omega
      refine Wp.optF (Get_eq p k hk1 hk) (Wp.optF (bounds_eq p k hk1 hk) (Wp.optF (u256_FromUint64 _) (Wp.optF (uint256_Cmp_eq _ _) ?_)))
      obtain ⟨n, hn⟩ : ∃ n, 13 - k = n + 1 := ⟨12 - k, by omega⟩
      rw [hn] at hf
      have hf' : (if okK p k = true then fiF p n (k + 1) else I.of .i64 (k : Int)) = fiS p := hf
      refine Wp.brn (fun h1 => ?_) (fun h1 => ?_)
      · rw [cmp_ltb] at h1
        replace h1 := of_decide_eq_true h1
        refine Wp.done ?_
        rw [if_neg (by unfold okK; rw [u64U_val] at h1; simp; intro h; omega)] at hf'
        show some ((I.of .i64 (k : Int), ()), ()) = _
        rw [hf']
      · rw [cmp_ltb] at h1
        replace h1 := of_decide_eq_false h1
        refine Wp.optF (u256_FromUint64 _) (Wp.optF (uint256_Cmp_eq _ _) ?_)
        refine Wp.brn (fun h2 => ?_) (fun h2 => ?_)
        · rw [cmp_gtb] at h2
          replace h2 := of_decide_eq_true h2
          refine Wp.done ?_
          rw [if_neg (by unfold okK; rw [u64U_val] at h2; simp; intro h; exact h2)] at hf'
          show some ((I.of .i64 (k : Int), ()), ()) = _
          rw [hf']
        · rw [cmp_gtb] at h2
          replace h2 := of_decide_eq_false h2
          rw [u64U_val] at h1 h2
          rw [if_pos (by unfold okK; simp; omega)] at hf'
          have hv2 : (I.of .i64 ((k + 1 : Nat) : Int)).val = ((k + 1 : Nat) : Int) := of_i64 ⟨by omega, by omega⟩
          have ha : I.add (I.of .i64 (k : Int)) (I.of .i64 1) = I.of .i64 ((k + 1 : Nat) : Int) := by
            apply I.ext'
            rw [add_i64 (by rw [hkv]; show _ ≤ (k : Int) + 1 ∧ (k : Int) + 1 < _; omega), hkv, hv2]
            show (k : Int) + 1 = ((k + 1 : Nat) : Int)
            omega
          refine Wp.again ⟨k + 1, by omega, by omega, ?_, ?_⟩ ?_
          · show ((I.add (I.of .i64 (k : Int)) (I.of .i64 1), ()), (p, ())) = _
            rw [ha]
          · rw [show 13 - (k + 1) = n by omega]; exact hf'
          · show 14 - (I.add (I.of .i64 (k : Int)) (I.of .i64 1)).val.toNat < 14 - (I.of .i64 (k : Int)).val.toNat
            rw [ha, hkv, hv2]
            omega
    · rw [niff_leb] at hc
      replace hc : 12 < (I.of .i64 (k : Int)).val := hc
      have hk : k = 13 := by omega
      subst hk
      refine Wp.done ?_
      show some ((I.of .i64 0, ()), ()) = _
      rw [← hf]; rfl
  · show 14 - (1 : Int).toNat < K0
    rw [K0_eq]; decide
def validP (p : Prm) : Bool := I.eqb (fiS p) (I.of .i64 0)
theorem PrmValid_eq (p : Prm) : params_Valid ((p, ()), ()) = some ((validP p, ()), ()) := by
  refine Wp.out (T := fun o => o = some ((validP p, ()), ())) ?_
  unfold params_Valid
  exact Wp.optF (FirstInvalid_eq p) rfl
theorem fiF_zero (p : Prm) : ∀ (n k : Nat), 1 ≤ k → k + n ≤ 14 → (I.eqb (fiF p n k) (I.of .i64 0) = true ↔ ∀ j, k ≤ j → j < k + n → okK p j = true)
  | 0, k, h1, h2 => ⟨fun _ j _ _ => by omega, fun _ => rfl⟩
  | n + 1, k, h1, h2 => by
    show I.eqb (if okK p k = true then fiF p n (k + 1) else I.of .i64 (k : Int)) (I.of .i64 0) = true ↔ _
    by_cases h : okK p k = true
    · rw [if_pos h, fiF_zero p n (k + 1) (by omega) (by omega)]
      constructor
      · intro hj j h3 h4
        by_cases hjk : j = k
        · subst hjk; exact h
        · exact hj j (by omega) (by omega)
      · intro hj j h3 h4
        exact hj j (by omega) (by omega)
    · rw [if_neg h, iff_eqb, of_i64 ⟨by omega, by omega⟩]
      constructor
      · intro h3
        replace h3 : (k : Int) = 0 := h3
        omega
      · intro hj
        exact absurd (hj k (by omega) (by omega)) h
theorem validP_iff (p : Prm) : validP p = true ↔ ∀ j, 1 ≤ j → j < 13 → okK p j = true := fiF_zero p 12 1 (by omega) (by omega)
theorem validP_div {p : Prm} (h : validP p = true) : 1 ≤ p.2.2.2.2.2.2.2.2.1.nat ∧ p.2.2.2.2.2.2.2.2.1.nat ≤ 1099511627776 ∧ 1 ≤ p.2.2.2.2.2.2.2.2.2.1.nat := by
  rw [validP_iff] at h
  have h9 := of_decide_eq_true (h 9 (by omega) (by omega))
  have h10 := of_decide_eq_true (h 10 (by omega) (by omega))
  replace h9 : (I.of .u64 1).nat ≤ (u64U p.2.2.2.2.2.2.2.2.1).val ∧ (u64U p.2.2.2.2.2.2.2.2.1).val ≤ (I.of .u64 1099511627776).nat := h9
  replace h10 : (I.of .u64 1).nat ≤ (u64U p.2.2.2.2.2.2.2.2.2.1).val ∧ (u64U p.2.2.2.2.2.2.2.2.2.1).val ≤ (I.of .u64 1048576).nat := h10
  rw [u64U_val] at h9 h10
  have e1 : (I.of .u64 1).nat = 1 := rfl
  have e2 : (I.of .u64 1099511627776).nat = 1099511627776 := rfl
  rw [e1] at h9 h10
  rw [e2] at h9
  exact ⟨h9.1, h9.2, h10.1⟩
end Sym

/- The price of a unit: what the program computes. -/
namespace Sym
open Go
theorem SatAdd_eq (a b : U) : uint256_SaturatingAdd ((a, b, ()), ()) = some ((U.of (min (a.val + b.val) (U.top - 1)), ()), ()) := by
  refine Wp.out (T := fun o => o = some ((U.of (min (a.val + b.val) (U.top - 1)), ()), ())) ?_
  unfold uint256_SaturatingAdd
  refine Wp.optF (uint256_Add_eq a b) ?_
  unfold addS
  have ha := a.lt
  by_cases h : a.val + b.val < U.top
  · rw [if_pos h]
    refine Wp.brnT rfl ?_
    show _ = _
    rw [Nat.min_eq_left (by omega)]
    rfl
  · rw [if_neg h]
    refine Wp.brnF rfl ?_
    refine Wp.optF rfl ?_
    show _ = _
    rw [Nat.min_eq_right (by omega)]
    kernel_rfl
theorem DivFloor_u {z : Int} (d : U) (hz : z.natAbs < U.top) (hd : d.val ≠ 0) : int256_DivFloor ((S.of z, d, ()), ()) = some ((S.of (z / (d.val : Int)), I.of .i64 0, ()), ()) := by
  have := DivFloor_eq (S.of z) d
  unfold divFS at this
  rw [S.of_valid hz, if_pos rfl, if_neg hd, S.int_of hz] at this
  exact this
theorem DivFloor_i {z : Int} (c : I .u64) (hz : z.natAbs < U.top) (hc : c.nat ≠ 0) : int256_DivFloor ((S.of z, u64U c, ()), ()) = some ((S.of (z / (c.nat : Int)), I.of .i64 0, ()), ()) := by
  have := DivFloor_u (u64U c) hz (by rw [u64U_val]; exact hc)
  rw [u64U_val] at this
  exact this
theorem SSub_i {z w : Int} (hz : z.natAbs < U.top) (hw : w.natAbs < U.top) : int256_Sub ((S.of z, S.of w, ()), ()) = some (((resS (z - w)).1, (resS (z - w)).2, ()), ()) := by
  have := SSub_t (S.of_valid hz) (S.of_valid hw)
  rw [S.int_of hz, S.int_of hw] at this
  exact this
theorem SMul_i {z w : Int} (hz : z.natAbs < U.top) (hw : w.natAbs < U.top) : int256_Mul ((S.of z, S.of w, ()), ()) = some (((resS (z * w)).1, (resS (z * w)).2, ()), ()) := by
  have := SMul_t (S.of_valid hz) (S.of_valid hw)
  rw [S.int_of hz, S.int_of hw] at this
  exact this
theorem posS (c : I .u64) : ((false, u64U c, ()) : S) = S.of (c.nat : Int) := by
  have h : S.of (S.int (false, u64U c, ())) = (false, u64U c, ()) := S.of_int rfl
  have h2 : S.int (false, u64U c, ()) = (c.nat : Int) := by
    show (((u64U c).val : Nat) : Int) = _
    rw [u64U_val]
  rw [← h, h2]
theorem quo_nat (a b : I .u64) : (I.quo a b).nat = a.nat / b.nat := by
  have h : ((I.quo a b).nat : Int) = ((a.nat / b.nat : Nat) : Int) := by
    rw [nat_val, quo_u64, ← nat_val a, ← nat_val b]
    exact (Int.natCast_ediv _ _).symm
  exact Int.ofNat_inj.1 h
def deltaZ (n o : Int) (u E J : Nat) : S × I .i64 :=
  if (n - o).natAbs < U.top then
    if (-n / (E : Int) - (n - o) / (u : Int)).natAbs < U.top then
      if ((-n / (E : Int) - (n - o) / (u : Int)) * (u : Int)).natAbs < U.top then (S.of ((-n / (E : Int) - (n - o) / (u : Int)) * (u : Int) / ((E / J + u : Nat) : Int)), I.of .i64 0)
      else (S.of 0, I.of .i64 4)
    else (S.of 0, I.of .i64 4)
  else (S.of 0, I.of .i64 4)
theorem bnot_t {c : Bool} (h : bnot c = true) : c = false := by
  cases c
  · rfl
  · cases h
theorem bnot_f {c : Bool} (h : bnot c = false) : c = true := by
  cases c
  · cases h
  · rfl
def Prm.eq (p : Prm) : I .u64 := p.2.2.2.2.2.2.2.2.1
def Prm.inertia (p : Prm) : I .u64 := p.2.2.2.2.2.2.2.2.2.1
def deltaS (a b : S) (u : I .u64) (p : Prm) : S × I .i64 :=
  if validP p = true then
    if validB a = true then
      if validB b = true then
        if u.nat = 0 then (S.of 0, I.of .i64 2)
        else deltaZ a.int b.int u.nat (Prm.eq p).nat (Prm.inertia p).nat
      else (S.of 0, I.of .i64 2)
    else (S.of 0, I.of .i64 2)
  else (S.of 0, I.of .i64 15)
theorem deltaS_t {a b : S} {u : I .u64} {p : Prm} (hp : validP p = true) (ha : validB a = true) (hb : validB b = true) (hu : u.nat ≠ 0) : deltaS a b u p = deltaZ a.int b.int u.nat (Prm.eq p).nat (Prm.inertia p).nat := by
  unfold deltaS
  rw [if_pos hp, if_pos ha, if_pos hb, if_neg hu]
theorem u64_zero (u : I .u64) : I.eqb u (I.of .u64 0) = true ↔ u.nat = 0 := by
  rw [iff_eqb]
  have := nat_val u
  have e0 : (I.of .u64 0).val = 0 := rfl
  omega
theorem Delta_eq (a b : S) (u : I .u64) (p : Prm) : l1price_Delta ((a, b, u, p, ()), ()) = some (((deltaS a b u p).1, (deltaS a b u p).2, ()), ()) := by
  refine Wp.out (T := fun o => o = some (((deltaS a b u p).1, (deltaS a b u p).2, ()), ())) ?_
  unfold l1price_Delta
  refine Wp.jn (fun s => s.1.1 = u ∧ s.2.1 = a ∧ s.2.2.1 = b ∧ s.2.2.2.1 = p ∧ validP p = true ∧ validB a = true ∧ validB b = true ∧ u.nat ≠ 0) ?_ ?_
  · rintro ⟨⟨u', ⟨⟩⟩, a', b', p', z', ⟨⟩⟩ ⟨e0, e1, e2, e3, hp, ha, hb, hu⟩
    simp only at e0 e1 e2 e3
    subst e0 e1 e2 e3
    obtain ⟨hE1, hE2, hJ⟩ : 1 ≤ (Prm.eq p').nat ∧ (Prm.eq p').nat ≤ 1099511627776 ∧ 1 ≤ (Prm.inertia p').nat := validP_div hp
    rw [deltaS_t hp ha hb hu]
    have hx := S.lt a'
    have hy := S.lt b'
    have hxn : (-S.int a').natAbs < U.top := by omega
    refine Wp.optF (Neg_t ha) (Wp.optF (u256_FromUint64 _) ?_)
    refine Wp.optF (DivFloor_i (Prm.eq p') hxn (by omega)) ?_
    have hq := floor_abs (-S.int a') (Prm.eq p').nat (by omega)
    refine Wp.optF (SSub_t (x := a') (y := b') ha hb) ?_
    unfold deltaZ
    by_cases h1 : (S.int a' - S.int b').natAbs < U.top
    · rw [resS_lt h1, if_pos h1]
      refine Wp.brnF rfl (Wp.optF (u256_FromUint64 _) ?_)
      refine Wp.optF (DivFloor_i u' h1 hu) ?_
      have hq2 := floor_abs (S.int a' - S.int b') u'.nat hu
      refine Wp.optF (SSub_i (z := -S.int a' / ((Prm.eq p').nat : Int)) (w := (S.int a' - S.int b') / (u'.nat : Int)) (by omega) (by omega)) ?_
      generalize hd : -S.int a' / ((Prm.eq p').nat : Int) - (S.int a' - S.int b') / (u'.nat : Int) = d
      by_cases h2 : d.natAbs < U.top
      · rw [resS_lt h2, if_pos h2]
        refine Wp.brnF rfl (Wp.optF (u256_FromUint64 _) ?_)
        have hun := top_u64 u'
        have hm := SMul_i (z := d) (w := (u'.nat : Int)) h2 (by omega)
        rw [← posS] at hm
        refine Wp.optF hm ?_
        by_cases h3 : (d * (u'.nat : Int)).natAbs < U.top
        · rw [resS_lt h3, if_pos h3]
          refine Wp.brnF rfl ?_
          refine Wp.brnT ?_ ?_
          · rw [iff_nz]
            have := nat_val (Prm.inertia p')
            show (Prm.inertia p').val ≠ 0
            omega
          refine Wp.optF (u256_FromUint64 _) (Wp.optF (u256_FromUint64 _) (Wp.optF (SatAdd_eq (u64U (I.quo (Prm.eq p') (Prm.inertia p'))) (u64U u')) ?_))
          have hn1 := nat_lt (I.quo (Prm.eq p') (Prm.inertia p'))
          have hn2 := nat_lt u'
          have hsum : (U.of (min ((u64U (I.quo (Prm.eq p') (Prm.inertia p'))).val + (u64U u').val) (U.top - 1))).val = (Prm.eq p').nat / (Prm.inertia p').nat + u'.nat := by
            rw [u64U_val, u64U_val, Nat.min_eq_left (by unfold U.top; omega), U.val_of (by unfold U.top; omega), quo_nat]
          refine Wp.optF (DivFloor_u (U.of (min ((u64U (I.quo (Prm.eq p') (Prm.inertia p'))).val + (u64U u').val) (U.top - 1))) h3 (by rw [hsum]; exact Nat.ne_of_gt (Nat.lt_of_lt_of_le (Nat.pos_of_ne_zero hu) (Nat.le_add_left _ _)))) ?_
          rw [hsum]
          rfl
        · rw [resS_ge (by omega), if_neg h3]
          exact Wp.brnT rfl rfl
      · rw [resS_ge (by omega), if_neg h2]
        exact Wp.brnT rfl rfl
    · rw [resS_ge (by omega), if_neg h1]
      exact Wp.brnT rfl rfl
  · intro j hj
    refine Wp.optF (PrmValid_eq p) ?_
    refine Wp.brn (fun h => ?_) (fun h => ?_)
    · have hp : validP p = false := bnot_t h
      unfold deltaS
      rw [hp]
      rfl
    · have hp : validP p = true := bnot_f h
      refine Wp.optF (Valid_eq a) ?_
      refine Wp.brn (fun h => ?_) (fun h => ?_)
      · have ha : validB a = false := bnot_t h
        unfold deltaS
        rw [if_pos hp, ha]
        rfl
      · have ha : validB a = true := bnot_f h
        refine Wp.optF (Valid_eq b) ?_
        refine Wp.brn (fun h => ?_) (fun h => ?_)
        · have hb : validB b = false := bnot_t h
          unfold deltaS
          rw [if_pos hp, if_pos ha, hb]
          rfl
        · have hb : validB b = true := bnot_f h
          refine Wp.brn (fun h => ?_) (fun h => ?_)
          · have hu := (u64_zero u).1 h
            unfold deltaS
            rw [if_pos hp, if_pos ha, if_pos hb, if_pos hu]
            rfl
          · have hu : u.nat ≠ 0 := fun h0 => by
              rw [(u64_zero u).2 h0] at h; cases h
            exact hj _ ⟨rfl, rfl, rfl, rfl, hp, ha, hb, hu⟩
def nextS (c : U) (a b : S) (u : I .u64) (p : Prm) : U × I .i64 :=
  if validP p = true then
    if validB a = true then
      if validB b = true then
        if u.nat = 0 then (c, I.of .i64 0)
        else if I.neb (deltaS a b u p).2 (I.of .i64 0) = true then (U.of 0, (deltaS a b u p).2) else clampS c (deltaS a b u p).1
      else (U.of 0, I.of .i64 2)
    else (U.of 0, I.of .i64 2)
  else (U.of 0, I.of .i64 15)
theorem Next_eq (c : U) (a b : S) (u : I .u64) (p : Prm) : l1price_Next ((c, a, b, u, p, ()), ()) = some (((nextS c a b u p).1, (nextS c a b u p).2, ()), ()) := by
  refine Wp.out (T := fun o => o = some (((nextS c a b u p).1, (nextS c a b u p).2, ()), ())) ?_
  unfold l1price_Next
  refine Wp.jn (fun s => s.1.1 = u ∧ s.2.1 = c ∧ s.2.2.1 = a ∧ s.2.2.2.1 = b ∧ s.2.2.2.2.1 = p ∧ validP p = true ∧ validB a = true ∧ validB b = true ∧ u.nat ≠ 0) ?_ ?_
  · rintro ⟨⟨u', ⟨⟩⟩, c', a', b', p', z', ⟨⟩⟩ ⟨e0, e1, e2, e3, e4, hp, ha, hb, hu⟩
    simp only at e0 e1 e2 e3 e4
    subst e0 e1 e2 e3 e4
    refine Wp.optF (Delta_eq _ _ _ _) ?_
    unfold nextS
    rw [if_pos hp, if_pos ha, if_pos hb, if_neg hu]
    refine Wp.brn (fun h => ?_) (fun h => ?_)
    · rw [if_pos h]
      rfl
    · rw [if_neg (by rw [h]; decide)]
      exact Wp.optF (AddClamped_eq _ _) rfl
  · intro j hj
    refine Wp.optF (PrmValid_eq p) ?_
    refine Wp.brn (fun h => ?_) (fun h => ?_)
    · have hp : validP p = false := bnot_t h
      unfold nextS
      rw [hp]
      rfl
    · have hp : validP p = true := bnot_f h
      refine Wp.jn (fun s => s.1.1 = u ∧ s.1.2.1 = (!(validB a && validB b)) ∧ s.2.1 = c ∧ s.2.2.1 = a ∧ s.2.2.2.1 = b ∧ s.2.2.2.2.1 = p) ?_ ?_
      · rintro ⟨⟨u', v', ⟨⟩⟩, c', a', b', p', z', ⟨⟩⟩ ⟨e0, e00, e1, e2, e3, e4⟩
        simp only at e0 e00 e1 e2 e3 e4
        subst e0 e00 e1 e2 e3 e4
        refine Wp.brn (fun h => ?_) (fun h => ?_)
        · replace h : (!(validB a' && validB b')) = true := h
          unfold nextS
          rw [if_pos hp]
          by_cases ha : validB a' = true
          · rw [if_pos ha]
            have hb : validB b' = false := by rw [ha] at h; simpa using h
            rw [hb]
            rfl
          · rw [if_neg ha]
            rfl
        · replace h : (!(validB a' && validB b')) = false := h
          have hab : validB a' = true ∧ validB b' = true := by simpa using h
          refine Wp.brn (fun h => ?_) (fun h => ?_)
          · have hu := (u64_zero u').1 h
            unfold nextS
            rw [if_pos hp, if_pos hab.1, if_pos hab.2, if_pos hu]
            rfl
          · have hu : u'.nat ≠ 0 := fun h0 => by
              rw [(u64_zero u').2 h0] at h; cases h
            exact hj _ ⟨rfl, rfl, rfl, rfl, rfl, hp, hab.1, hab.2, hu⟩
      · intro j2 hj2
        refine Wp.optF (Valid_eq a) ?_
        refine Wp.brn (fun h => ?_) (fun h => ?_)
        · have ha : validB a = false := bnot_t h
          exact hj2 _ ⟨rfl, by rw [ha]; rfl, rfl, rfl, rfl, rfl⟩
        · have ha : validB a = true := bnot_f h
          refine Wp.optF (Valid_eq b) ?_
          exact hj2 _ ⟨rfl, by rw [ha]; rfl, rfl, rfl, rfl, rfl⟩
end Sym

/- The price of a unit: the laws over valid parameters. -/
namespace Sym
open Go
def genP : Prm := (I.of .u64 7000000, I.of .u64 10, I.of .u64 102, u64U (I.of .u64 100000000), I.of .u64 32000000, u64U (I.of .u64 60000000), I.of .u64 1000, u64U (I.of .u64 10), I.of .u64 160000000, I.of .u64 10, I.of .u64 16, I.of .u64 65536, ())
theorem Genesis_eq : params_Genesis ((), ()) = some ((genP, ()), ()) := by kernel_rfl
theorem validP_of (p : Prm) (h1 : 1 ≤ p.1.nat ∧ p.1.nat ≤ 1099511627776) (h2 : p.2.1.nat ≤ 1048576) (h3 : 1 ≤ p.2.2.1.nat ∧ p.2.2.1.nat ≤ 1048576) (h4 : 1 ≤ U.val p.2.2.2.1 ∧ U.val p.2.2.2.1 ≤ 18446744073709551615) (h5 : 1 ≤ p.2.2.2.2.1.nat ∧ p.2.2.2.2.1.nat ≤ 1099511627776) (h6 : U.val p.2.2.2.2.2.1 ≤ 18446744073709551615) (h7 : p.2.2.2.2.2.2.1.nat ≤ 10000) (h8 : U.val p.2.2.2.2.2.2.2.1 ≤ 18446744073709551615) (h9 : 1 ≤ p.2.2.2.2.2.2.2.2.1.nat ∧ p.2.2.2.2.2.2.2.2.1.nat ≤ 1099511627776) (h10 : 1 ≤ p.2.2.2.2.2.2.2.2.2.1.nat ∧ p.2.2.2.2.2.2.2.2.2.1.nat ≤ 1048576) (h11 : p.2.2.2.2.2.2.2.2.2.2.1.nat ≤ 1048576) (h12 : p.2.2.2.2.2.2.2.2.2.2.1.nat ≤ p.2.2.2.2.2.2.2.2.2.2.2.1.nat ∧ p.2.2.2.2.2.2.2.2.2.2.2.1.nat ≤ 16777216) : validP p = true := by
  rw [validP_iff]
  intro j hj1 hj2
  match j, hj1, hj2 with
  | 1, _, _ => exact decide_eq_true (by show _ ≤ (u64U p.1).val ∧ (u64U p.1).val ≤ _; rw [u64U_val]; exact h1)
  | 2, _, _ => exact decide_eq_true (by show _ ≤ (u64U p.2.1).val ∧ (u64U p.2.1).val ≤ _; rw [u64U_val]; exact ⟨Nat.zero_le _, h2⟩)
  | 3, _, _ => exact decide_eq_true (by show _ ≤ (u64U p.2.2.1).val ∧ (u64U p.2.2.1).val ≤ _; rw [u64U_val]; exact h3)
  | 4, _, _ => exact decide_eq_true h4
  | 5, _, _ => exact decide_eq_true (by show _ ≤ (u64U p.2.2.2.2.1).val ∧ (u64U p.2.2.2.2.1).val ≤ _; rw [u64U_val]; exact h5)
  | 6, _, _ => exact decide_eq_true ⟨Nat.zero_le _, h6⟩
  | 7, _, _ => exact decide_eq_true (by show _ ≤ (u64U p.2.2.2.2.2.2.1).val ∧ (u64U p.2.2.2.2.2.2.1).val ≤ _; rw [u64U_val]; exact ⟨Nat.zero_le _, h7⟩)
  | 8, _, _ => exact decide_eq_true ⟨Nat.zero_le _, h8⟩
  | 9, _, _ => exact decide_eq_true (by show _ ≤ (u64U p.2.2.2.2.2.2.2.2.1).val ∧ (u64U p.2.2.2.2.2.2.2.2.1).val ≤ _; rw [u64U_val]; exact h9)
  | 10, _, _ => exact decide_eq_true (by show _ ≤ (u64U p.2.2.2.2.2.2.2.2.2.1).val ∧ (u64U p.2.2.2.2.2.2.2.2.2.1).val ≤ _; rw [u64U_val]; exact h10)
  | 11, _, _ => exact decide_eq_true (by show _ ≤ (u64U p.2.2.2.2.2.2.2.2.2.2.1).val ∧ (u64U p.2.2.2.2.2.2.2.2.2.2.1).val ≤ _; rw [u64U_val]; exact ⟨Nat.zero_le _, h11⟩)
  | 12, _, _ => exact decide_eq_true (by show _ ≤ (u64U p.2.2.2.2.2.2.2.2.2.2.2.1).val ∧ (u64U p.2.2.2.2.2.2.2.2.2.2.2.1).val ≤ _; rw [u64U_val]; exact h12)
  | j + 13, _, h => omega
theorem rem_nat (a b : I .u64) (hb : b.nat ≠ 0) : (I.rem a b).nat = a.nat % b.nat := by
  have h1 := nat_val b
  have h : ((I.rem a b).nat : Int) = ((a.nat % b.nat : Nat) : Int) := by
    rw [nat_val, rem_u64 (by omega), ← nat_val a, ← nat_val b]
    exact (Int.natCast_emod _ _).symm
  exact Int.ofNat_inj.1 h
theorem add_nat_lt (a b : I .u64) (h : a.nat + b.nat < 18446744073709551616) : (I.add a b).nat = a.nat + b.nat := by
  rw [add_nat]; exact Nat.mod_eq_of_lt h
theorem shl_nat (a : I .u64) (h : a.nat < 64) : (I.shl (I.of .u64 1) a).nat = 2 ^ a.nat := by
  have h1 := nat_val a
  have h2 := shl_one (a := a) (by omega)
  have h3 : a.val.toNat = a.nat := rfl
  have h4 : ((2 ^ a.nat : Nat) : Int) = 2 ^ a.nat := by simp
  rw [h3, ← h4, ← nat_val] at h2
  exact Int.ofNat_inj.1 h2
theorem pow_shift (x c m : I .u64) (hm : m.nat ≠ 0) (h : c.nat + m.nat ≤ 64) : (I.shl (I.of .u64 1) (I.add c (I.rem x m))).nat ≠ 0 ∧ (I.shl (I.of .u64 1) (I.add c (I.rem x m))).nat ≤ 2 ^ (c.nat + m.nat - 1) := by
  have h1 := rem_nat x m hm
  have h2 := Nat.mod_lt x.nat (Nat.pos_of_ne_zero hm)
  have h3 := add_nat_lt c (I.rem x m) (by omega)
  have h4 := shl_nat (I.add c (I.rem x m)) (by omega)
  rw [h4]
  exact ⟨Nat.ne_of_gt (Nat.pow_pos (by decide)), Nat.pow_le_pow_right (by decide) (by omega)⟩
theorem nz_nat (x : I .u64) (h : x.nat ≠ 0) : I.nz x = true := by
  rw [iff_nz]
  have := nat_val x
  omega
theorem rem_lt (a b : I .u64) (hb : b.nat ≠ 0) : (I.rem a b).nat < b.nat := by
  rw [rem_nat a b hb]
  exact Nat.mod_lt _ (Nat.pos_of_ne_zero hb)
theorem one_add (a : I .u64) (h : a.nat < 18446744073709551615) : (I.add (I.of .u64 1) a).nat = 1 + a.nat := add_nat_lt (I.of .u64 1) a (by show 1 + _ < _; omega)
abbrev V8 : Type := I .u64 × I .u64 × I .u64 × I .u64 × I .u64 × I .u64 × I .u64 × I .u64 × Unit
theorem ValidParams_ok (v : V8) : ∃ p : Prm, pontagelaw14_ValidParams ((v, ()), ()) = some ((p, ()), ()) ∧ validP p = true := by
  have key : Wp (fun o => ∃ p : Prm, o = some ((p, ()), ()) ∧ validP p = true) (pontagelaw14_ValidParams ((v, ()), ())) := by
    obtain ⟨v0, v1, v2, v3, v4, v5, v6, v7, ⟨⟩⟩ := v
    unfold pontagelaw14_ValidParams
    have b0 := pow_shift v0 (I.of .u64 1) (I.of .u64 40) (by decide) (by decide)
    have b3 := pow_shift v3 (I.of .u64 1) (I.of .u64 60) (by decide) (by decide)
    have b4 := pow_shift v4 (I.of .u64 10) (I.of .u64 30) (by decide) (by decide)
    have b5 := pow_shift v5 (I.of .u64 1) (I.of .u64 60) (by decide) (by decide)
    have b7 := pow_shift v7 (I.of .u64 1) (I.of .u64 40) (by decide) (by decide)
    refine Wp.optF Genesis_eq ?_
    refine Wp.brnT (nn_u64 _) (Wp.brnT (nz_nat _ b0.1) (Wp.brnT (nn_u64 _) (Wp.brnT (nz_nat _ b3.1) (Wp.brnT (nn_u64 _) (Wp.brnT (nz_nat _ b4.1) (Wp.brnT (nn_u64 _) (Wp.brnT (nz_nat _ b5.1) (Wp.brnT (nn_u64 _) (Wp.brnT (nz_nat _ b7.1) ?_)))))))))
    refine ⟨_, rfl, ?_⟩
    have r0 := rem_lt v0 _ b0.1
    have r3 := rem_lt v3 _ b3.1
    have r4 := rem_lt v4 _ b4.1
    have r5 := rem_lt v5 _ b5.1
    have r7 := rem_lt v7 _ b7.1
    have r1 := rem_lt v1 (I.of .u64 40) (by decide)
    have r2 := rem_lt v2 (I.of .u64 300) (by decide)
    have r6 := rem_lt v6 (I.of .u64 10001) (by decide)
    have r8 := rem_lt v6 (I.of .u64 5000) (by decide)
    have r10 := rem_lt (I.quo v7 (I.of .u64 7)) (I.of .u64 100) (by decide)
    have t0 := Nat.le_trans b0.2 (show 2 ^ ((I.of .u64 1).nat + (I.of .u64 40).nat - 1) ≤ 1099511627776 by decide)
    have t3 := Nat.le_trans b3.2 (show 2 ^ ((I.of .u64 1).nat + (I.of .u64 60).nat - 1) ≤ 1152921504606846976 by decide)
    have t4 := Nat.le_trans b4.2 (show 2 ^ ((I.of .u64 10).nat + (I.of .u64 30).nat - 1) ≤ 549755813888 by decide)
    have t5 := Nat.le_trans b5.2 (show 2 ^ ((I.of .u64 1).nat + (I.of .u64 60).nat - 1) ≤ 1152921504606846976 by decide)
    have t7 := Nat.le_trans b7.2 (show 2 ^ ((I.of .u64 1).nat + (I.of .u64 40).nat - 1) ≤ 1099511627776 by decide)
    have n40 : (I.of .u64 40).nat = 40 := rfl
    have n300 : (I.of .u64 300).nat = 300 := rfl
    have n10001 : (I.of .u64 10001).nat = 10001 := rfl
    have n5000 : (I.of .u64 5000).nat = 5000 := rfl
    have n100 : (I.of .u64 100).nat = 100 := rfl
    refine validP_of _ ?_ ?_ ?_ ?_ ?_ ?_ ?_ ?_ ?_ ?_ ?_ ?_
    · show 1 ≤ (I.add _ _).nat ∧ (I.add _ _).nat ≤ _
      rw [one_add _ (Nat.lt_of_lt_of_le r0 (Nat.le_trans t0 (by decide)))]
      exact ⟨Nat.le_add_right _ _, Nat.le_trans (by rw [Nat.add_comm]; exact r0) t0⟩
    · show (I.rem v1 (I.of .u64 40)).nat ≤ _
      omega
    · show 1 ≤ (I.add _ (I.rem v2 (I.of .u64 300))).nat ∧ (I.add _ (I.rem v2 (I.of .u64 300))).nat ≤ _
      rw [one_add _ (by omega)]
      omega
    · show 1 ≤ (u64U (I.add _ _)).val ∧ (u64U (I.add _ _)).val ≤ _
      rw [u64U_val, one_add _ (Nat.lt_of_lt_of_le r3 (Nat.le_trans t3 (by decide)))]
      exact ⟨Nat.le_add_right _ _, Nat.le_trans (by rw [Nat.add_comm]; exact r3) (Nat.le_trans t3 (by decide))⟩
    · show 1 ≤ (I.add _ _).nat ∧ (I.add _ _).nat ≤ _
      rw [one_add _ (Nat.lt_of_lt_of_le r4 (Nat.le_trans t4 (by decide)))]
      exact ⟨Nat.le_add_right _ _, Nat.le_trans (by rw [Nat.add_comm]; exact r4) (Nat.le_trans t4 (by decide))⟩
    · show (u64U (I.rem _ _)).val ≤ _
      rw [u64U_val]
      exact Nat.le_trans (Nat.le_of_lt r5) (Nat.le_trans t5 (by decide))
    · show (I.rem v6 (I.of .u64 10001)).nat ≤ _
      omega
    · show (u64U (I.rem v6 (I.of .u64 5000))).val ≤ _
      rw [u64U_val]
      omega
    · show 1 ≤ (I.add _ _).nat ∧ (I.add _ _).nat ≤ _
      rw [one_add _ (Nat.lt_of_lt_of_le r7 (Nat.le_trans t7 (by decide)))]
      exact ⟨Nat.le_add_right _ _, Nat.le_trans (by rw [Nat.add_comm]; exact r7) t7⟩
    · show 1 ≤ (I.add _ (I.rem (I.quo v7 (I.of .u64 7)) (I.of .u64 100))).nat ∧ (I.add _ (I.rem (I.quo v7 (I.of .u64 7)) (I.of .u64 100))).nat ≤ _
      rw [one_add _ (by omega)]
      omega
    · show (I.of .u64 16).nat ≤ 1048576
      decide
    · show (I.of .u64 16).nat ≤ (I.of .u64 65536).nat ∧ (I.of .u64 65536).nat ≤ 16777216
      decide
  exact key.out
end Sym

/- The price of a unit: unchanged, direction, damped. -/
namespace Sym
open Go
theorem clamp_of {z : Int} (c : U) (hz : z.natAbs < U.top) : clampS c (S.of z) = if (c.val : Int) + z < 0 then (U.of 0, I.of .i64 0) else errS ((c.val : Int) + z).toNat := by
  unfold clampS
  rw [S.of_valid hz, if_pos rfl, S.int_of hz]
end Sym

/- The price of a unit: the reference computes the same. -/
namespace Sym
open Go
theorem z0 : 0 ≤ (I.of .i64 0).val := by decide
theorem z2 : (I.of .i64 0).val ≤ 2 := by decide
theorem z3 : (3 - (I.of .i64 0).val).toNat < K0 := by rw [K0_eq]; decide
end Sym

/- The law of the gas price's bounds, of the plain functions. -/
namespace Sym
open Go
def minS (a b : U) : U := if b.val < a.val then b else a
theorem K0_two : ∃ k, K0 = k + 2 := ⟨2 ^ 64 - 2, by rw [K0_eq]⟩
theorem uint256_Min_eq (a b : U) : uint256_Min ((a, [b], ()), ()) = some ((minS a b, ()), ()) := by
  obtain ⟨k, hk⟩ := K0_two
  refine Wp.out (T := fun o => o = some ((minS a b, ()), ())) ?_
  unfold uint256_Min
  rw [hk]
  refine Wp.unroll ?_
  refine Wp.brnT rfl ?_
  refine Wp.brnT rfl ?_
  refine Wp.optF (uint256_Cmp_eq b a) ?_
  unfold cmpS minS
  by_cases h : b.val < a.val
  · rw [if_pos h, if_pos h]
    refine Wp.brnT rfl ?_
    refine Wp.next (Wp.unroll ?_)
    refine Wp.brnF rfl ?_
    exact rfl
  · rw [if_neg h, if_neg h]
    refine Wp.brnF ?_ ?_
    · split <;> rfl
    · refine Wp.next (Wp.unroll ?_)
      refine Wp.brnF rfl ?_
      exact rfl
theorem minS_val (a b : U) : (minS a b).val = min a.val b.val := by
  unfold minS
  split <;> omega
end Sym

/- The law of the charge's total. -/
namespace Sym
open Go
theorem errS_lt {n : Nat} (h : n < U.top) : errS n = (U.of n, I.of .i64 0) := if_pos h
theorem errS_ge {n : Nat} (h : U.top ≤ n) : errS n = (U.of 0, I.of .i64 4) := if_neg (by omega)
theorem Add_errS (a b : U) : uint256_Add ((a, b, ()), ()) = some (((errS (a.val + b.val)).1, (errS (a.val + b.val)).2, ()), ()) := uint256_Add_eq a b
theorem Add_errS' {m : Nat} (h : m < U.top) (b : U) : uint256_Add ((U.of m, b, ()), ()) = some (((errS (m + b.val)).1, (errS (m + b.val)).2, ()), ()) := by
  have := Add_errS (U.of m) b
  rw [U.val_of h] at this
  exact this
theorem eqb_self (a : U) : Ty.eqb (.arr 4 (.int .u64)) a a = true := by rw [eqb_u256]; simp
end Sym

/- Products of 512 bits and shares of them. -/
namespace Sym
open Go
def av : (n : Nat) → Arr (I .u64) n → Nat
  | 0, _ => 0
  | n + 1, x => x.1.nat + W64 * av n x.2
def lb (n : Nat) (x : Arr (I .u64) n) (i : Nat) : Nat := (Arr.sel (I.of .u64 0) n x i).nat
theorem av_upd : ∀ (n : Nat) (x : Arr (I .u64) n) (i : Nat) (z : I .u64), i < n → av n (Arr.upd n x i z) + W64 ^ i * lb n x i = av n x + W64 ^ i * z.nat
  | 0, _, i, _, h => by omega
  | n + 1, x, 0, z, _ => by
    show z.nat + W64 * av n x.2 + W64 ^ 0 * x.1.nat = x.1.nat + W64 * av n x.2 + W64 ^ 0 * z.nat
    rw [Nat.pow_zero]; omega
  | n + 1, x, i + 1, z, h => by
    have ih := av_upd n x.2 i z (by omega)
    show x.1.nat + W64 * av n (Arr.upd n x.2 i z) + W64 ^ (i + 1) * lb n x.2 i = x.1.nat + W64 * av n x.2 + W64 ^ (i + 1) * z.nat
    rw [Nat.pow_succ, Nat.mul_comm (W64 ^ i) W64, Nat.mul_assoc, Nat.mul_assoc, Nat.add_assoc, ← Nat.mul_add, ih, Nat.mul_add, ← Nat.add_assoc]
theorem lb_upd : ∀ (n : Nat) (x : Arr (I .u64) n) (i j : Nat) (z : I .u64), i ≠ j → lb n (Arr.upd n x i z) j = lb n x j
  | 0, _, _, _, _, _ => rfl
  | n + 1, x, 0, 0, z, h => absurd rfl h
  | n + 1, x, 0, j + 1, z, h => rfl
  | n + 1, x, i + 1, 0, z, h => rfl
  | n + 1, x, i + 1, j + 1, z, h => lb_upd n x.2 i j z (by omega)
theorem lb_lt (n : Nat) (x : Arr (I .u64) n) (i : Nat) : lb n x i < W64 := nat_lt _
abbrev A8 : Type := I .u64 × I .u64 × I .u64 × I .u64 × I .u64 × I .u64 × I .u64 × I .u64 × Unit
def lo4 (p : A8) : U := Arr.ofList (I.of .u64 0) 4 (subL (Arr.list 8 p) 0 4)
def hi4 (p : A8) : U := Arr.ofList (I.of .u64 0) 4 (subL (Arr.list 8 p) 4 4)
theorem split8 (p : A8) : U.val (lo4 p) + U.top * U.val (hi4 p) = av 8 p := by
  obtain ⟨p0, p1, p2, p3, p4, p5, p6, p7, ⟨⟩⟩ := p
  show U.val (p0, p1, p2, p3, ()) + U.top * U.val (p4, p5, p6, p7, ()) = p0.nat + W64 * (p1.nat + W64 * (p2.nat + W64 * (p3.nat + W64 * (p4.nat + W64 * (p5.nat + W64 * (p6.nat + W64 * (p7.nat + W64 * 0)))))))
  unfold U.val U.top W64
  simp only
  omega
set_option maxHeartbeats 2000000 in
theorem Mul512_ok (a b : U) : ∃ l h : U, muldiv_Mul ((a, b, ()), ()) = some ((l, h, ()), ()) ∧ l.val + U.top * h.val = a.val * b.val := by
  have c0 : (I.of .i64 0).val = 0 := rfl
  have c1 : (I.of .i64 1).val = 1 := rfl
  have c4 : (I.of .i64 4).val = 4 := rfl
  have key : Wp (fun o => ∃ l h : U, o = some ((l, h, ()), ()) ∧ l.val + U.top * h.val = a.val * b.val) (muldiv_Mul ((a, b, ()), ())) := by
    unfold muldiv_Mul
    refine Wp.iter (fun x => 0 ≤ x.1.1.val ∧ x.1.1.val ≤ 4 ∧ x.2.1 = a ∧ x.2.2.1 = b ∧ av 8 x.2.2.2.2.2.1 = (a.val % W64 ^ x.1.1.val.toNat) * b.val ∧ ∀ j, x.1.1.val.toNat + 4 ≤ j → j < 8 → lb 8 x.2.2.2.2.2.1 j = 0) (fun x => (4 - x.1.1.val).toNat) ?_ ?_ ?_
    · rintro ⟨⟨i, ⟨⟩⟩, a', b', l0, h0, p0, ⟨⟩⟩ ⟨hi0, hi1, e1, e2, hp, hz⟩
      simp only at hi0 hi1 e1 e2 hp hz
      subst e1 e2
      refine Wp.brn (fun h => ?_) (fun h => ?_)
      · have hlt := iff_ltb.1 h
        simp only [c4] at hlt
        clear h
        have si : (I.add i (I.of .i64 1)).val = i.val + 1 := by rw [add_i64 (by omega)]; omega
        have sin : (I.add i (I.of .i64 1)).val.toNat = i.val.toNat + 1 := by omega
        have ini : inB i 4 = true := iff_inB.2 ⟨hi0, by omega⟩
        refine Wp.iter (fun x => x.1.1 = i ∧ x.1.2.2.1 = i ∧ 0 ≤ x.1.2.2.2.1.val ∧ x.1.2.2.2.1.val ≤ 4 ∧ x.2.1 = a' ∧ x.2.2.1 = b' ∧
          av 8 x.2.2.2.2.2.1 + I.nat (k := .u64) x.1.2.1 * W64 ^ (i.val.toNat + x.1.2.2.2.1.val.toNat) = (U.val a' % W64 ^ i.val.toNat) * U.val b' + limb' a' i.val.toNat * W64 ^ i.val.toNat * (U.val b' % W64 ^ x.1.2.2.2.1.val.toNat) ∧
          ∀ j, i.val.toNat + 4 ≤ j → j < 8 → lb 8 x.2.2.2.2.2.1 j = 0) (fun x => (4 - x.1.2.2.2.1.val).toNat) ?_ ?_ ?_
        · rintro ⟨⟨i2, c, i1, k, ⟨⟩⟩, a1, b1, l1, h1, p, ⟨⟩⟩ ⟨e1, e2, hk0, hk1, e3, e4, hinv, hz1⟩
          simp only at e1 e2 hk0 hk1 e3 e4 hinv hz1
          subst e1 e2 e3 e4
          refine Wp.brn (fun h => ?_) (fun h => ?_)
          · have hkl := iff_ltb.1 h
            simp only [c4] at hkl
            clear h
            have sk : (I.add k (I.of .i64 1)).val = k.val + 1 := by rw [add_i64 (by omega)]; omega
            have skn : (I.add k (I.of .i64 1)).val.toNat = k.val.toNat + 1 := by omega
            have sik : (I.add i1 k).val = i1.val + k.val := add_i64 (by omega)
            have hm : (4 - (I.add k (I.of .i64 1)).val).toNat < (4 - k.val).toNat := by omega
            have bmod := limb_mod b1 k.val.toNat (by omega)
            refine Wp.brnT ini (Wp.brnT (iff_inB.2 ⟨hk0, by show k.val < ((4 : Nat) : Int); omega⟩) ?_)
            obtain ⟨hi, lo, hmul, hprod⟩ := Mul64_ok (Arr.sel (I.of .u64 0) 4 a1 (I.nat i1)) (Arr.sel (I.of .u64 0) 4 b1 (I.nat k))
            have hprod : lo.nat + W64 * hi.nat = limb' a1 i1.val.toNat * limb' b1 k.val.toNat := hprod
            refine Wp.optF hmul ?_
            have inik : inB (I.add i1 k) 8 = true := iff_inB.2 ⟨by omega, by omega⟩
            obtain ⟨z1, q1, ha1, hs1, hq1⟩ := add64_nat lo c (I.of .u64 0) (by decide)
            refine Wp.optF ha1 ?_
            refine Wp.brnT inik ?_
            obtain ⟨z2, q2, ha2, hs2, hq2⟩ := add64_nat (Arr.sel (I.of .u64 0) 8 p (I.nat (I.add i1 k))) z1 (I.of .u64 0) (by decide)
            refine Wp.optF ha2 ?_
            refine Wp.brnT inik ?_
            have z0 : (I.of .u64 0).nat = 0 := rfl
            have en : I.nat (I.add i1 k) = i1.val.toNat + k.val.toNat := by unfold I.nat; omega
            have hup := av_upd 8 p (i1.val.toNat + k.val.toNat) z2 (by omega)
            have hs2' : z2.nat + W64 * q2.nat = lb 8 p (i1.val.toNat + k.val.toNat) + z1.nat := by
              have : (Arr.sel (I.of .u64 0) 8 p (I.nat (I.add i1 k))).nat = lb 8 p (i1.val.toNat + k.val.toNat) := by rw [en]; rfl
              unfold W64
              omega
            have hcv : (I.add (I.add hi q1) q2).nat = hi.nat + q1.nat + q2.nat := by
              have l1 := limb_lt a1 i1.val.toNat
              have l2 := limb_lt b1 k.val.toNat
              have l3 := lb_lt 8 p (i1.val.toNat + k.val.toNat)
              have l4 := nat_lt c
              have l5 : limb' a1 i1.val.toNat * limb' b1 k.val.toNat ≤ (W64 - 1) * (W64 - 1) := Nat.mul_le_mul (by omega) (by omega)
              rw [add_nat, add_nat]
              unfold W64 at *
              omega
            refine Wp.again ⟨rfl, rfl, ?_, ?_, rfl, rfl, ?_, ?_⟩ hm
            · show 0 ≤ (I.add k (I.of .i64 1)).val; omega
            · show (I.add k (I.of .i64 1)).val ≤ 4; omega
            · show av 8 (Arr.upd 8 p (I.nat (I.add i1 k)) z2) + (I.add (I.add hi q1) q2).nat * W64 ^ (i1.val.toNat + (I.add k (I.of .i64 1)).val.toNat) = _ + _ * (U.val b1 % W64 ^ (I.add k (I.of .i64 1)).val.toNat)
              rw [skn, bmod, en]
              exact mul_round hinv hprod (by unfold W64; omega) hs2' hcv hup
            · intro j hj1 hj2
              show lb 8 (Arr.upd 8 p (I.nat (I.add i1 k)) z2) j = 0
              rw [en, lb_upd 8 p _ j z2 (by omega)]
              exact hz1 j hj1 hj2
          · have h := niff_ltb.1 h
            simp only [c4] at h
            have hk : k.val.toNat = 4 := by omega
            rw [hk, top_W, Nat.mod_eq_of_lt (U.lt b1)] at hinv
            have amod := limb_mod a1 i1.val.toNat (by omega)
            have si4 : (I.add i1 (I.of .i64 4)).val = i1.val + 4 := by rw [add_i64 (by omega)]; omega
            have en : I.nat (I.add i1 (I.of .i64 4)) = i1.val.toNat + 4 := by unfold I.nat; omega
            have hup := av_upd 8 p (i1.val.toNat + 4) c (by omega)
            rw [hz1 _ (Nat.le_refl _) (by omega), Nat.mul_zero, Nat.add_zero] at hup
            refine Wp.done ?_
            have in8 : inB (I.add i1 (I.of .i64 4)) 8 = true := iff_inB.2 ⟨by omega, by omega⟩
            refine Wp.brnT in8 ?_
            refine Wp.again ⟨?_, ?_, rfl, rfl, ?_, ?_⟩ ?_
            · show 0 ≤ (I.add i1 (I.of .i64 1)).val; omega
            · show (I.add i1 (I.of .i64 1)).val ≤ 4; omega
            · show av 8 (Arr.upd 8 p (I.nat (I.add i1 (I.of .i64 4))) c) = U.val a1 % W64 ^ (I.add i1 (I.of .i64 1)).val.toNat * U.val b1
              rw [en, hup, sin, Nat.mul_comm (W64 ^ _) c.nat, hinv, amod, Nat.add_mul]
              congr 1
              simp only [Nat.mul_comm, Nat.mul_left_comm, Nat.mul_assoc]
            · intro j hj1 hj2
              replace hj1 : (I.add i1 (I.of .i64 1)).val.toNat + 4 ≤ j := hj1
              show lb 8 (Arr.upd 8 p (I.nat (I.add i1 (I.of .i64 4))) c) j = 0
              rw [en, lb_upd 8 p _ j c (by omega)]
              exact hz1 j (by omega) hj2
            · show (4 - (I.add i1 (I.of .i64 1)).val).toNat < (4 - i1.val).toNat
              omega
        · refine ⟨rfl, rfl, by show 0 ≤ (I.of .i64 0).val; decide, by show (I.of .i64 0).val ≤ 4; decide, rfl, rfl, ?_, hz⟩
          show av 8 p0 + (I.of .u64 0).nat * _ = _ + _ * (U.val b' % W64 ^ (I.of .i64 0).val.toNat)
          have e1 : (I.of .u64 0).nat = 0 := rfl
          have e2 : (I.of .i64 0).val.toNat = 0 := rfl
          rw [e1, e2, Nat.zero_mul, Nat.pow_zero, Nat.mod_one, Nat.mul_zero, hp]
        · exact K0_ge _ (by show (4 - (I.of .i64 0).val).toNat < _; decide)
      · have h := niff_ltb.1 h
        simp only [c4] at h
        have hi : i.val.toNat = 4 := by omega
        rw [hi, top_W, Nat.mod_eq_of_lt (U.lt a')] at hp
        refine Wp.done ?_
        exact ⟨lo4 p0, hi4 p0, rfl, (split8 p0).trans hp⟩
    · refine ⟨by show 0 ≤ (I.of .i64 0).val; decide, by show (I.of .i64 0).val ≤ 4; decide, rfl, rfl, ?_, ?_⟩
      · show av 8 (I.of .u64 0, I.of .u64 0, I.of .u64 0, I.of .u64 0, I.of .u64 0, I.of .u64 0, I.of .u64 0, I.of .u64 0, ()) = (a.val % W64 ^ (I.of .i64 0).val.toNat) * b.val
        have e2 : (I.of .i64 0).val.toNat = 0 := rfl
        rw [e2, Nat.pow_zero, Nat.mod_one, Nat.zero_mul]
        rfl
      · intro j hj1 hj2
        show lb 8 (I.of .u64 0, I.of .u64 0, I.of .u64 0, I.of .u64 0, I.of .u64 0, I.of .u64 0, I.of .u64 0, I.of .u64 0, ()) j = 0
        match j, hj2 with
        | 0, _ => rfl
        | 1, _ => rfl
        | 2, _ => rfl
        | 3, _ => rfl
        | 4, _ => rfl
        | 5, _ => rfl
        | 6, _ => rfl
        | 7, _ => rfl
        | j + 8, h => omega
    · exact K0_ge _ (by show (4 - (I.of .i64 0).val).toNat < _; decide)
  exact key.out
theorem MulDiv_ok (a b c : U) (hc : c.val ≠ 0) (hb : b.val ≤ c.val) : muldiv_MulDivFloor ((a, b, c, ()), ()) = some ((U.of (a.val * b.val / c.val), I.of .i64 0, ()), ()) := by
  have key : Wp (fun o => o = some ((U.of (a.val * b.val / c.val), I.of .i64 0, ()), ())) (muldiv_MulDivFloor ((a, b, c, ()), ())) := by
    unfold muldiv_MulDivFloor
    obtain ⟨l, h, hm, hv⟩ := Mul512_ok a b
    refine Wp.optF hm ?_
    have hlt : h.val < c.val := by
      have h1 : a.val * b.val ≤ a.val * c.val := Nat.mul_le_mul_left _ hb
      have h2 : a.val * c.val < U.top * c.val := Nat.mul_lt_mul_of_pos_right a.lt (by omega)
      have h3 : U.top * h.val < U.top * c.val := by omega
      exact Nat.lt_of_mul_lt_mul_left h3
    refine Wp.optF (Div512_loop l h c hlt) ?_
    rw [show U.top * h.val + l.val = a.val * b.val by omega]
    rfl
  exact key.out
end Sym

/- Binary heaps in lists. -/
namespace Sym
open Go
structure SOrd {α : Type} (lt : α → α → Bool) : Prop where
  asymm : ∀ a b, lt a b = true → lt b a = false
  trans : ∀ a b c, lt b a = false → lt c b = false → lt c a = false
section
variable {α : Type} {lt : α → α → Bool} (d : α)
theorem SOrd.refl (h : SOrd lt) (a : α) : lt a a = false := by
  cases e : lt a a with
  | false => rfl
  | true => have := h.asymm a a e; rw [e] at this; cases this
def HeapX (lt : α → α → Bool) (n : Nat) (e : Nat → Prop) (l : List α) : Prop := ∀ k, 0 < k → k < n → ¬ e k → lt (rdL d l k) (rdL d l ((k - 1) / 2)) = false
def swapL (l : List α) (i j : Nat) : List α := setL (setL l i (rdL d l j)) j (rdL d l i)
theorem swapL_len (l : List α) (i j : Nat) : (swapL d l i j).length = l.length := by simp [swapL, setAt_eq]
theorem swapL_perm {l : List α} {i j : Nat} (hi : i < l.length) (hj : j < l.length) : (swapL d l i j).Perm l := by
  unfold swapL
  simp only [setL, setAt_eq, rdL_eq d l i hi, rdL_eq d l j hj]
  exact List.set_set_perm hi hj
theorem swapL_at {l : List α} {i j : Nat} (hi : i < l.length) (hj : j < l.length) (k : Nat) : rdL d (swapL d l i j) k = if k = j then rdL d l i else if k = i then rdL d l j else rdL d l k := by
  unfold swapL
  simp only [setL, rdL_set]
  have h1 : (setAt l i (rdL d l j)).length = l.length := by simp [setAt_eq]
  rw [h1]
  by_cases h : k = j
  · simp [h, hj]
  · by_cases h2 : k = i
    · subst h2; simp [h, hi]
    · simp [h, h2]
theorem up_step (ho : SOrd lt) {n j : Nat} {l : List α} (hn : n ≤ l.length) (hj : j < n) (h0 : 0 < j)
    (h1 : HeapX d lt n (fun k => k = j) l) (h2 : ∀ k, 0 < k → k < n → (k - 1) / 2 = j → lt (rdL d l k) (rdL d l ((j - 1) / 2)) = false)
    (hl : lt (rdL d l j) (rdL d l ((j - 1) / 2)) = true) :
    HeapX d lt n (fun k => k = (j - 1) / 2) (swapL d l ((j - 1) / 2) j) ∧
    ∀ k, 0 < k → k < n → (k - 1) / 2 = (j - 1) / 2 → 0 < (j - 1) / 2 → lt (rdL d (swapL d l ((j - 1) / 2) j) k) (rdL d (swapL d l ((j - 1) / 2) j) (((j - 1) / 2 - 1) / 2)) = false := by
  obtain ⟨p, hp⟩ : ∃ p, p = (j - 1) / 2 := ⟨_, rfl⟩
  rw [← hp] at hl h2 ⊢
  have hpj : p < j := by omega
  have ha := swapL_at d (l := l) (i := p) (j := j) (by omega) (by omega)
  refine ⟨fun k hk hkn he => ?_, fun k hk hkn he hp0 => ?_⟩
  · rw [ha, ha]
    by_cases e1 : k = j
    · rw [if_pos e1, if_neg (by omega), if_pos (by omega)]
      exact ho.asymm _ _ hl
    · rw [if_neg e1, if_neg he]
      by_cases e2 : (k - 1) / 2 = j
      · rw [if_pos e2]
        exact h2 k hk hkn e2
      · rw [if_neg e2]
        by_cases e3 : (k - 1) / 2 = p
        · rw [if_pos e3]
          have := h1 k hk hkn e1
          rw [e3] at this
          exact ho.trans _ _ _ (ho.asymm _ _ hl) this
        · rw [if_neg e3]
          exact h1 k hk hkn e1
  · rw [ha, ha, if_neg (show (p - 1) / 2 ≠ j by omega), if_neg (show (p - 1) / 2 ≠ p by omega)]
    have hpp := h1 p hp0 (by omega) (by omega)
    by_cases e1 : k = j
    · rw [if_pos e1]; exact hpp
    · rw [if_neg e1, if_neg (by omega)]
      have := h1 k hk hkn e1
      rw [he] at this
      exact ho.trans _ _ _ hpp this
theorem up_done {n j : Nat} {l : List α} (h1 : HeapX d lt n (fun k => k = j) l) (h : j = 0 ∨ lt (rdL d l j) (rdL d l ((j - 1) / 2)) = false) : HeapX d lt n (fun _ => False) l := by
  intro k hk hkn _
  by_cases e : k = j
  · subst e
    exact h.resolve_left (by omega)
  · exact h1 k hk hkn e
theorem down_step (ho : SOrd lt) {n i j : Nat} {l : List α} (hn : n ≤ l.length) (hj : j < n) (hp : (j - 1) / 2 = i) (hj0 : 0 < j)
    (h1 : HeapX d lt n (fun k => (k - 1) / 2 = i) l) (h2 : ∀ k, 0 < k → k < n → (k - 1) / 2 = i → 0 < i → lt (rdL d l k) (rdL d l ((i - 1) / 2)) = false)
    (hmin : ∀ k, 0 < k → k < n → (k - 1) / 2 = i → lt (rdL d l k) (rdL d l j) = false) (hl : lt (rdL d l j) (rdL d l i) = true) :
    HeapX d lt n (fun k => (k - 1) / 2 = j) (swapL d l i j) ∧
    ∀ k, 0 < k → k < n → (k - 1) / 2 = j → 0 < j → lt (rdL d (swapL d l i j) k) (rdL d (swapL d l i j) ((j - 1) / 2)) = false := by
  have hij : i < j := by omega
  have ha := swapL_at d (l := l) (i := i) (j := j) (by omega) (by omega)
  refine ⟨fun k hk hkn he => ?_, fun k hk hkn he _ => ?_⟩
  · rw [ha, ha, if_neg he]
    by_cases e1 : k = i
    · subst e1
      rw [if_neg (by omega), if_pos rfl, if_neg (by omega)]
      exact h2 j hj0 hj hp hk
    · by_cases e2 : k = j
      · rw [if_pos e2, if_pos (by rw [e2]; exact hp)]
        exact ho.asymm _ _ hl
      · rw [if_neg e2, if_neg e1]
        by_cases e3 : (k - 1) / 2 = i
        · rw [if_pos e3]
          exact hmin k hk hkn e3
        · rw [if_neg e3]
          exact h1 k hk hkn e3
  · rw [ha, ha, if_neg (show k ≠ j by omega), if_neg (show k ≠ i by omega), if_neg (show (j - 1) / 2 ≠ j by omega), if_pos hp]
    have := h1 k hk hkn (by omega)
    rw [he] at this
    exact this
theorem down_done {n i : Nat} {l : List α} (h1 : HeapX d lt n (fun k => (k - 1) / 2 = i) l) (h : ∀ k, 0 < k → k < n → (k - 1) / 2 = i → lt (rdL d l k) (rdL d l i) = false) : HeapX d lt n (fun _ => False) l := by
  intro k hk hkn _
  by_cases e : (k - 1) / 2 = i
  · rw [e]; exact h k hk hkn e
  · exact h1 k hk hkn e
theorem heap_min (ho : SOrd lt) {n : Nat} {l : List α} (h : HeapX d lt n (fun _ => False) l) : ∀ k, k < n → lt (rdL d l k) (rdL d l 0) = false := by
  intro k
  induction k using Nat.strongRecOn with
  | ind k ih =>
    intro hk
    rcases Nat.eq_zero_or_pos k with rfl | h0
    · exact ho.refl _
    · exact ho.trans _ _ _ (ih ((k - 1) / 2) (by omega) (by omega)) (h k h0 hk (fun h => h))
theorem pop_start {n : Nat} {l : List α} (hl : l.length = n + 1) (h : HeapX d lt (n + 1) (fun _ => False) l) :
    HeapX d lt n (fun k => (k - 1) / 2 = 0) (swapL d l 0 n) := by
  have ha := swapL_at d (l := l) (i := 0) (j := n) (by omega) (by omega)
  intro k hk hkn he
  rw [ha, ha, if_neg (by omega), if_neg (by omega), if_neg (by omega), if_neg he]
  exact h k hk (by omega) (fun h => h)
theorem heap_take {n : Nat} {l : List α} (h : HeapX d lt n (fun _ => False) l) : HeapX d lt n (fun _ => False) (l.take n) := by
  intro k hk hkn he
  rw [rdL_take d l n k hkn, rdL_take d l n _ (by omega)]
  exact h k hk hkn he
theorem push_start {n : Nat} {l : List α} {x : α} (hl : l.length = n) (h : HeapX d lt n (fun _ => False) l) :
    HeapX d lt (n + 1) (fun k => k = n) (l ++ [x]) := by
  intro k hk hkn he
  rw [rdL_app, rdL_app, if_pos (by omega), if_pos (by omega)]
  exact h k hk (by omega) (fun h => h)
structure Queued (lt : α → α → Bool) (h r : List α) : Prop where
  heap : HeapX d lt h.length (fun _ => False) h
  perm : h.Perm r
  ord : r.Pairwise fun a b => lt b a = false
  anti : ∀ a ∈ r, ∀ b ∈ r, lt b a = false → lt a b = false → a = b
theorem Queued.len {h r : List α} (q : Queued d lt h r) : h.length = r.length := q.perm.length_eq
theorem Queued.first (ho : SOrd lt) {h r : List α} {m : α} (q : Queued d lt h (m :: r)) : rdL d h 0 = m := by
  have h0 : 0 < h.length := by rw [q.len]; simp
  have hm := rdL_mem d h 0 h0
  have hr := q.perm.mem_iff.1 hm
  obtain ⟨k, hk, e⟩ := mem_rdL d (q.perm.mem_iff.2 (List.mem_cons_self (a := m) (l := r)))
  have h1 := heap_min d ho q.heap k hk
  rw [e] at h1
  rcases List.mem_cons.1 hr with h2 | h2
  · exact h2
  · exact q.anti _ hr _ (List.mem_cons_self ..) h1 ((List.pairwise_cons.1 q.ord).1 _ h2)
theorem Queued.next {h r : List α} {m : α} (q : Queued d lt h (m :: r)) {h' : List α} (h1 : HeapX d lt h'.length (fun _ => False) h') (hp : h.Perm (h' ++ [m])) : Queued d lt h' r := by
  have hp2 : (m :: h').Perm (m :: r) := (List.perm_append_comm (l₁ := [m]) (l₂ := h')).trans (hp.symm.trans q.perm)
  exact ⟨h1, (List.perm_cons m).1 hp2, (List.pairwise_cons.1 q.ord).2, fun a ha b hb => q.anti a (List.mem_cons_of_mem _ ha) b (List.mem_cons_of_mem _ hb)⟩
end
end Sym

/- The queue of debts: each function. -/
namespace Sym
open Go
abbrev Item : Type := S_debtqueue_item
abbrev Post : Type := S_api_Poster
noncomputable abbrev dI : Item := Z_S_debtqueue_item
noncomputable abbrev dP : Post := Z_S_api_Poster
abbrev Post.addr (p : Post) : I .u64 := p.1
abbrev Post.due (p : Post) : U := p.2.1
abbrev Post.since (p : Post) : I .u64 := p.2.2.2.2.2.1
def lessI (a b : Item) : Bool :=
  brn (I.neb (Post.since a.1) (Post.since b.1)) (I.ltb (Post.since a.1) (Post.since b.1))
    (brn (I.neb (Post.addr a.1) (Post.addr b.1)) (I.ltb (Post.addr a.1) (Post.addr b.1)) (I.ltb a.2.1 b.2.1))
theorem lessI_iff (a b : Item) : lessI a b = true ↔ (Post.since a.1).val < (Post.since b.1).val ∨ ((Post.since a.1).val = (Post.since b.1).val ∧ ((Post.addr a.1).val < (Post.addr b.1).val ∨ ((Post.addr a.1).val = (Post.addr b.1).val ∧ a.2.1.val < b.2.1.val))) := by
  unfold lessI
  cases h : I.neb (Post.since a.1) (Post.since b.1) with
  | true =>
    have h := iff_neb.1 h
    show I.ltb _ _ = true ↔ _
    rw [iff_ltb]
    omega
  | false =>
    have h := niff_neb.1 h
    show brn _ _ _ = true ↔ _
    cases h2 : I.neb (Post.addr a.1) (Post.addr b.1) with
    | true =>
      have h2 := iff_neb.1 h2
      show I.ltb _ _ = true ↔ _
      rw [iff_ltb]
      omega
    | false =>
      have h2 := niff_neb.1 h2
      show I.ltb _ _ = true ↔ _
      rw [iff_ltb]
      omega
theorem lessI_not (a b : Item) : lessI a b = false ↔ ¬ ((Post.since a.1).val < (Post.since b.1).val ∨ ((Post.since a.1).val = (Post.since b.1).val ∧ ((Post.addr a.1).val < (Post.addr b.1).val ∨ ((Post.addr a.1).val = (Post.addr b.1).val ∧ a.2.1.val < b.2.1.val)))) := by
  rw [← lessI_iff]
  simp
theorem lessO : SOrd lessI where
  asymm a b h := by
    have h := (lessI_iff a b).1 h
    rw [lessI_not]
    omega
  trans a b c h1 h2 := by
    have h1 := (lessI_not _ _).1 h1
    have h2 := (lessI_not _ _).1 h2
    rw [lessI_not]
    omega
theorem of64_0 : I.of .i64 0 = i6 0 := rfl
theorem of64_1 : I.of .i64 1 = i6 1 := rfl
theorem of64_2 : I.of .i64 2 = i6 2 := rfl
theorem i6_half (j : Nat) (h : j < 9223372036854775808) : I.quo (I.sub (i6 j) (i6 1)) (i6 2) = i6 ((j - 1) / 2) := by
  rcases Nat.eq_zero_or_pos j with rfl | h0
  · apply I.ext'; decide
  · rw [i6_sub h h0]
    apply I.ext'
    rw [quo_i64 (by rw [i6_val (by omega)]; omega) (by rw [i6_val (by omega)]; omega), i6_val (by omega), i6_val (by omega), i6_val (by omega)]
    omega
abbrev BIG : Nat := 1073741824
theorem Less_eq {l : List Item} {i j : Nat} (hi : i < l.length) (hj : j < l.length) (hl : l.length ≤ BIG) :
    debtqueue_items_Less ((l, i6 i, i6 j, ()), ()) = some ((lessI (rdL dI l i) (rdL dI l j), ()), ()) := by
  have hl : l.length ≤ 1073741824 := hl
  refine Wp.out (T := fun o => o = some ((lessI (rdL dI l i) (rdL dI l j), ()), ())) ?_
  unfold debtqueue_items_Less
  refine Wp.brnT (i6_inB hi (by omega)) (Wp.brnT (i6_inB hj (by omega)) ?_)
  simp only [i6_nat (show i < 9223372036854775808 by omega), i6_nat (show j < 9223372036854775808 by omega)]
  unfold lessI
  refine Wp.brn (fun h => ?_) (fun h => ?_)
  · rw [show I.neb (Post.since (rdL dI l i).1) (Post.since (rdL dI l j).1) = true from h]
    rfl
  · rw [show I.neb (Post.since (rdL dI l i).1) (Post.since (rdL dI l j).1) = false from h]
    refine Wp.brn (fun h => ?_) (fun h => ?_)
    · rw [show I.neb (Post.addr (rdL dI l i).1) (Post.addr (rdL dI l j).1) = true from h]
      rfl
    · rw [show I.neb (Post.addr (rdL dI l i).1) (Post.addr (rdL dI l j).1) = false from h]
      rfl
theorem Len_eq {l : List Item} : debtqueue_items_Len ((l, ()), ()) = some ((i6 l.length, ()), ()) := rfl
theorem Push_ok {h : List Item} {x : Item} (hh : HeapX dI (lt := lessI) h.length (fun _ => False) h) (hl : h.length + 1 ≤ BIG) :
    ∃ y, container_heap_Push (((), ((x, ()))), (((), ()), (h, ()))) = some y ∧ ∃ h', y = ((), (((), ()), (h', ()))) ∧ HeapX dI (lt := lessI) h'.length (fun _ => False) h' ∧ h'.Perm (x :: h) := by
  have hl : h.length + 1 ≤ 1073741824 := hl
  refine Wp.out (T := fun o => ∃ y, o = some y ∧ ∃ h', y = ((), (((), ()), (h', ()))) ∧ HeapX dI (lt := lessI) h'.length (fun _ => False) h' ∧ h'.Perm (x :: h)) ?_
  unfold container_heap_Push
  refine Wp.brnT (fits_le (by show (h ++ [x]).length ≤ _; simp; omega)) ?_
  refine Wp.optF Len_eq ?_
  have hlen : (appL h (x :: [])).length = h.length + 1 := by simp [appL]
  simp only [hlen, of64_1, i6_sub (show h.length + 1 < 9223372036854775808 by omega) (show 1 ≤ h.length + 1 by omega), Nat.add_sub_cancel]
  refine Wp.iter (fun s => ∃ j l, s = (((), (i6 j, ())), (((), ()), (l, ()))) ∧ j < h.length + 1 ∧ l.length = h.length + 1 ∧ l.Perm (x :: h) ∧ HeapX dI (lt := lessI) (h.length + 1) (fun k => k = j) l ∧
      ∀ k, 0 < k → k < h.length + 1 → (k - 1) / 2 = j → 0 < j → lessI (rdL dI l k) (rdL dI l ((j - 1) / 2)) = false) (fun s => s.1.2.1.val.toNat) ?_ ⟨h.length, h ++ [x], rfl, by omega, by simp, (List.perm_append_comm (l₁ := h) (l₂ := [x])), push_start dI rfl hh, fun k h0 hk he _ => by omega⟩ ?_
  · rintro s ⟨j, l, rfl, hj, hll, hp, h1, h2⟩
    simp only [of64_1, of64_2, i6_half j (by omega), i6_eqb (show (j - 1) / 2 < 9223372036854775808 by omega) (show j < 9223372036854775808 by omega)]
    refine Wp.brn (fun he => ?_) (fun he => ?_)
    · have he := of_decide_eq_true he
      exact Wp.done ⟨_, rfl, l, rfl, by rw [hll]; exact up_done dI h1 (.inl (by omega)), hp⟩
    · have he := of_decide_eq_false he
      refine Wp.optF (Less_eq (l := l) (by omega) (by omega) (by show l.length ≤ 1073741824; omega)) ?_
      refine Wp.brn (fun hc => ?_) (fun hc => ?_)
      · exact Wp.done ⟨_, rfl, l, rfl, by rw [hll]; exact up_done dI h1 (.inr (by simpa [bnot] using hc)), hp⟩
      · have hc : lessI (rdL dI l j) (rdL dI l ((j - 1) / 2)) = true := by simpa [bnot] using hc
        simp only [i6_nat (show j < 9223372036854775808 by omega), i6_nat (show (j - 1) / 2 < 9223372036854775808 by omega)]
        refine Wp.brnT (i6_inB (by rw [lenL_eq]; omega) (by omega)) (Wp.brnT (i6_inB (by rw [lenL_eq]; omega) (by omega)) (Wp.brnT (i6_inB (by rw [lenL_eq]; omega) (by omega)) (Wp.brnT (i6_inB (by rw [lenL_eq, setL, setAt_eq, List.length_set]; omega) (by omega)) ?_)))
        have ⟨g1, g2⟩ := up_step dI lessO (by omega) hj (by omega) h1 (fun k a b c => h2 k a b c (by omega)) hc
        refine Wp.again ⟨(j - 1) / 2, swapL dI l ((j - 1) / 2) j, rfl, by omega, by rw [swapL_len]; exact hll, (swapL_perm dI (by omega) (by omega)).trans hp, g1, g2⟩ ?_
        show (i6 ((j - 1) / 2)).val.toNat < (i6 j).val.toNat
        rw [i6_val (by omega), i6_val (by omega)]
        omega
  · show (i6 h.length).val.toNat < K0
    rw [i6_val (by omega), K0_eq]
    omega
end Sym

/- The queue of debts: Len, Peek, Pop. -/
namespace Sym
open Go
abbrev QOf (h r : List Item) : Prop := Queued dI lessI h r
theorem QLen_eq (h : List Item) : debtqueue_Queue_Len ((), (((), ()), (h, ()))) = some ((i6 h.length, ()), (((), ()), (h, ()))) := rfl
theorem QOf.nil {h : List Item} (q : QOf h []) : h = [] := List.eq_nil_of_length_eq_zero q.len
theorem Peek_ok {h r : List Item} {m : Item} (q : QOf h (m :: r)) (hl : h.length ≤ BIG) : debtqueue_Queue_Peek ((), (((), ()), (h, ()))) = some ((m.1, (true, ())), (((), ()), (h, ()))) := by
  have hl : h.length ≤ 1073741824 := hl
  refine Wp.out (T := fun o => o = some ((m.1, (true, ())), (((), ()), (h, ())))) ?_
  have h0 : 0 < h.length := by rw [q.len]; simp
  unfold debtqueue_Queue_Peek
  refine Wp.optF (QLen_eq h) ?_
  simp only [of64_0, i6_eqb (show h.length < 9223372036854775808 by omega) (show 0 < 9223372036854775808 by omega)]
  refine Wp.brnF (decide_eq_false (by omega)) (Wp.brnT (i6_inB h0 (by omega)) ?_)
  show some _ = some _
  rw [show rdL Z_S_debtqueue_item h 0 = m from q.first dI lessO]
  rfl
theorem Pop_nil : debtqueue_Queue_Pop ((), (((), ()), ([], ()))) = some ((dP, (false, ())), (((), ()), ([], ()))) := rfl
theorem take_last {X : Type} (d : X) {l : List X} {n : Nat} (h : l.length = n + 1) : l = l.take n ++ [rdL d l n] := by
  rw [rdL_eq d l n (by omega)]
  rw [List.take_append_getElem]
  exact (List.take_of_length_le (by omega)).symm
theorem Pop_ok {h r : List Item} {m : Item} (q : QOf h (m :: r)) (hl : h.length ≤ BIG) :
    ∃ y, debtqueue_Queue_Pop ((), (((), ()), (h, ()))) = some y ∧ ∃ h', y = ((m.1, (true, ())), (((), ()), (h', ()))) ∧ QOf h' r := by
  have hl : h.length ≤ 1073741824 := hl
  obtain ⟨n, hn⟩ : ∃ n, h.length = n + 1 := ⟨r.length, by rw [q.len]; simp⟩
  refine Wp.out (T := fun o => ∃ y, o = some y ∧ ∃ h', y = ((m.1, (true, ())), (((), ()), (h', ()))) ∧ QOf h' r) ?_
  unfold debtqueue_Queue_Pop
  refine Wp.optF (Peek_ok q hl) ?_
  refine Wp.brnT rfl ?_
  refine Wp.optF Len_eq ?_
  simp only [hn, lenL_eq, of64_0, of64_1, i6_sub (show n + 1 < 9223372036854775808 by omega) (show 1 ≤ n + 1 by omega), Nat.add_sub_cancel, i6_nat (show n < 9223372036854775808 by omega)]
  refine Wp.brnT (i6_inB (by omega) (by omega)) (Wp.brnT (i6_inB (by omega) (by omega)) (Wp.brnT (i6_inB (by omega) (by omega)) (Wp.brnT (i6_inB (by rw [setL, setAt_eq, List.length_set]; omega) (by omega)) ?_)))
  have fin : ∀ l : List Item, l.length = n + 1 → l.Perm h → rdL dI l n = m → HeapX dI (lt := lessI) n (fun _ => False) l →
      ∃ h', ((((m.1, (true, ())), (((), ()), (l.take n, ())))) : (S_api_Poster × (Bool × Unit)) × ((Unit × Unit) × ((List S_debtqueue_item) × Unit))) = ((m.1, (true, ())), (((), ()), (h', ()))) ∧ QOf h' r := by
    intro l hll hp hm hh
    refine ⟨l.take n, rfl, q.next dI ?_ ?_⟩
    · rw [List.length_take, hll, Nat.min_eq_left (by omega)]
      exact heap_take dI hh
    · rw [← hm, ← take_last dI hll]
      exact hp.symm
  refine Wp.iter (fun s => ∃ i l, s = (((), (i6 0, (i6 n, (i6 i, ((), (true, ())))))), (((), ()), (l, (dP, (m.1, ()))))) ∧ i ≤ n ∧ l.length = n + 1 ∧ l.Perm h ∧ rdL dI l n = m ∧ HeapX dI (lt := lessI) n (fun k => (k - 1) / 2 = i) l ∧
      ∀ k, 0 < k → k < n → (k - 1) / 2 = i → 0 < i → lessI (rdL dI l k) (rdL dI l ((i - 1) / 2)) = false) (fun s => n - s.1.2.2.2.1.val.toNat) ?_ ⟨0, swapL dI h 0 n, rfl, by omega, by rw [swapL_len]; exact hn, swapL_perm dI (by omega) (by omega), ?_, ?_, fun k _ _ _ h0 => absurd h0 (by omega)⟩ ?_
  · rintro s ⟨i, l, rfl, hi, hll, hp, hm, h1, h2⟩
    have e1 : I.add (I.mul (i6 2) (i6 i)) (i6 1) = i6 (2 * i + 1) := by
      apply I.ext'
      have e0 : (I.mul (i6 2) (i6 i)).val = 2 * i := by rw [mul_i64 (by rw [i6_val (by omega), i6_val (by omega)]; omega), i6_val (by omega), i6_val (by omega)]; rfl
      rw [add_i64 (by rw [e0, i6_val (by omega)]; omega), e0, i6_val (by omega), i6_val (by omega)]
      omega
    simp only [hll, i6_ofNat, of64_0, of64_1, of64_2, e1, i6_add (show 2 * i + 1 + 1 < 9223372036854775808 by omega), i6_sub (show n + 1 < 9223372036854775808 by omega) (show 1 ≤ n + 1 by omega), Nat.add_sub_cancel, i6_nat (show n < 9223372036854775808 by omega), i6_nat (show i < 9223372036854775808 by omega), i6_nat (show 2 * i + 1 < 9223372036854775808 by omega), i6_nat (show 2 * i + 1 + 1 < 9223372036854775808 by omega),
      i6_leb (show n < 9223372036854775808 by omega) (show 2 * i + 1 < 9223372036854775808 by omega), i6_ltb (show 2 * i + 1 < 9223372036854775808 by omega) (show 0 < 9223372036854775808 by omega), i6_ltb (show 2 * i + 1 + 1 < 9223372036854775808 by omega) (show n < 9223372036854775808 by omega), subL_take]
    have b1 : inB (i6 n) (n + 1) = true := i6_inB (by omega) (by omega)
    have b2 : inB' (i6 n) (n + 1) = true := i6_inB' (by omega) (by omega)
    have bi : inB (i6 i) (n + 1) = true := i6_inB (by omega) (by omega)
    have hset : ∀ (k : Nat) (v : Item), (setL l k v).length = n + 1 := fun k v => by rw [setL, setAt_eq, List.length_set]; exact hll
    have step : ∀ j, j < n → (j - 1) / 2 = i → 0 < j → (∀ k, 0 < k → k < n → (k - 1) / 2 = i → lessI (rdL dI l k) (rdL dI l j) = false) → lessI (rdL dI l j) (rdL dI l i) = true →
        (∃ i' l', ((((), (i6 0, (i6 n, (i6 j, ((), (true, ())))))), (((), ()), (setL (setL l i (rdL dI l j)) j (rdL dI l i), (dP, (m.1, ()))))) : (Unit × (I .i64 × (I .i64 × (I .i64 × (Unit × (Bool × Unit)))))) × ((Unit × Unit) × (List Item × (Post × (Post × Unit))))) = (((), (i6 0, (i6 n, (i6 i', ((), (true, ())))))), (((), ()), (l', (dP, (m.1, ()))))) ∧ i' ≤ n ∧ l'.length = n + 1 ∧ l'.Perm h ∧ rdL dI l' n = m ∧ HeapX dI (lt := lessI) n (fun k => (k - 1) / 2 = i') l' ∧
          ∀ k, 0 < k → k < n → (k - 1) / 2 = i' → 0 < i' → lessI (rdL dI l' k) (rdL dI l' ((i' - 1) / 2)) = false) ∧ n - (i6 j).val.toNat < n - (i6 i).val.toNat := by
      intro j hj hji hj0 hmin hlt
      have ⟨g1, g2⟩ := down_step dI lessO (show n ≤ l.length by omega) hj hji hj0 h1 h2 hmin hlt
      refine ⟨⟨j, swapL dI l i j, rfl, by omega, by rw [swapL_len]; exact hll, (swapL_perm dI (by omega) (by omega)).trans hp, ?_, g1, g2⟩, ?_⟩
      · rw [swapL_at dI (by omega) (by omega), if_neg (by omega), if_neg (by omega)]
        exact hm
      · rw [i6_val (by omega), i6_val (by omega)]
        omega
    refine Wp.brn (fun hc => ?_) (fun hc => ?_)
    · have hc := of_decide_eq_true hc
      refine Wp.done (Wp.brnT b1 (Wp.brnT b2 ?_))
      exact ⟨_, rfl, fin l hll hp hm (down_done dI h1 fun k _ hk e => by omega)⟩
    · have hc := of_decide_eq_false hc
      refine Wp.brnF (decide_eq_false (by omega)) ?_
      refine Wp.brn (fun hc2 => ?_) (fun hc2 => ?_)
      · have hc2 := of_decide_eq_true hc2
        refine Wp.optF (Less_eq (l := l) (i := 2 * i + 1 + 1) (j := 2 * i + 1) (by omega) (by omega) (by show l.length ≤ 1073741824; omega)) ?_
        refine Wp.brn (fun hs => ?_) (fun hs => ?_)
        · have hs : lessI (rdL dI l (2 * i + 1 + 1)) (rdL dI l (2 * i + 1)) = true := hs
          have hmin : ∀ k, 0 < k → k < n → (k - 1) / 2 = i → lessI (rdL dI l k) (rdL dI l (2 * i + 1 + 1)) = false := by
            intro k hk hkn he
            rcases (by omega : k = 2 * i + 1 ∨ k = 2 * i + 1 + 1) with rfl | rfl
            · exact lessO.asymm _ _ hs
            · exact lessO.refl _
          refine Wp.optF (Less_eq (l := l) (i := 2 * i + 1 + 1) (j := i) (by omega) (by omega) (by show l.length ≤ 1073741824; omega)) ?_
          refine Wp.brn (fun hd => ?_) (fun hd => ?_)
          · have hd : lessI (rdL dI l (2 * i + 1 + 1)) (rdL dI l i) = false := by simpa [bnot] using hd
            refine Wp.done (Wp.brnT b1 (Wp.brnT b2 ?_))
            exact ⟨_, rfl, fin l hll hp hm (down_done dI h1 fun k hk hkn e => lessO.trans _ _ _ hd (hmin k hk hkn e))⟩
          · have hd : lessI (rdL dI l (2 * i + 1 + 1)) (rdL dI l i) = true := by simpa [bnot] using hd
            have bj : inB (i6 (2 * i + 1 + 1)) (n + 1) = true := i6_inB (by omega) (by omega)
            refine Wp.brnT bj (Wp.brnT bi (Wp.brnT bi (Wp.brnT (by rw [hset]; exact bj) ?_)))
            have ⟨g1, g2⟩ := step (2 * i + 1 + 1) hc2 (by omega) (by omega) hmin hd
            exact Wp.again g1 g2
        · have hs : lessI (rdL dI l (2 * i + 1 + 1)) (rdL dI l (2 * i + 1)) = false := hs
          have hmin : ∀ k, 0 < k → k < n → (k - 1) / 2 = i → lessI (rdL dI l k) (rdL dI l (2 * i + 1)) = false := by
            intro k hk hkn he
            rcases (by omega : k = 2 * i + 1 ∨ k = 2 * i + 1 + 1) with rfl | rfl
            · exact lessO.refl _
            · exact hs
          refine Wp.optF (Less_eq (l := l) (i := 2 * i + 1) (j := i) (by omega) (by omega) (by show l.length ≤ 1073741824; omega)) ?_
          refine Wp.brn (fun hd => ?_) (fun hd => ?_)
          · have hd : lessI (rdL dI l (2 * i + 1)) (rdL dI l i) = false := by simpa [bnot] using hd
            refine Wp.done (Wp.brnT b1 (Wp.brnT b2 ?_))
            exact ⟨_, rfl, fin l hll hp hm (down_done dI h1 fun k hk hkn e => lessO.trans _ _ _ hd (hmin k hk hkn e))⟩
          · have hd : lessI (rdL dI l (2 * i + 1)) (rdL dI l i) = true := by simpa [bnot] using hd
            have bj : inB (i6 (2 * i + 1)) (n + 1) = true := i6_inB (by omega) (by omega)
            refine Wp.brnT bj (Wp.brnT bi (Wp.brnT bi (Wp.brnT (by rw [hset]; exact bj) ?_)))
            have ⟨g1, g2⟩ := step (2 * i + 1) (by omega) (by omega) (by omega) hmin hd
            exact Wp.again g1 g2
      · have hc2 := of_decide_eq_false hc2
        have hmin : ∀ k, 0 < k → k < n → (k - 1) / 2 = i → lessI (rdL dI l k) (rdL dI l (2 * i + 1)) = false := by
          intro k hk hkn he
          rcases (by omega : k = 2 * i + 1) with rfl
          exact lessO.refl _
        refine Wp.optF (Less_eq (l := l) (i := 2 * i + 1) (j := i) (by omega) (by omega) (by show l.length ≤ 1073741824; omega)) ?_
        refine Wp.brn (fun hd => ?_) (fun hd => ?_)
        · have hd : lessI (rdL dI l (2 * i + 1)) (rdL dI l i) = false := by simpa [bnot] using hd
          refine Wp.done (Wp.brnT b1 (Wp.brnT b2 ?_))
          exact ⟨_, rfl, fin l hll hp hm (down_done dI h1 fun k hk hkn e => lessO.trans _ _ _ hd (hmin k hk hkn e))⟩
        · have hd : lessI (rdL dI l (2 * i + 1)) (rdL dI l i) = true := by simpa [bnot] using hd
          have bj : inB (i6 (2 * i + 1)) (n + 1) = true := i6_inB (by omega) (by omega)
          refine Wp.brnT bj (Wp.brnT bi (Wp.brnT bi (Wp.brnT (by rw [hset]; exact bj) ?_)))
          have ⟨g1, g2⟩ := step (2 * i + 1) (by omega) (by omega) (by omega) hmin hd
          exact Wp.again g1 g2
  · rw [swapL_at dI (by omega) (by omega), if_pos rfl]
    exact q.first dI lessO
  · exact pop_start dI hn (by rw [← hn]; exact q.heap)
  · rw [K0_eq]
    show n - _ < _
    omega
end Sym

/- The queue of debts: New, Order and the reference's order. -/
namespace Sym
open Go
noncomputable def ow (p : Post) : Bool := bnot (Ty.eqb (.arr 4 (.int .u64)) p.2.1 Z_U)
noncomputable def enum : Nat → List Post → List Item
  | _, [] => []
  | k, p :: l => (if ow p = true then [(p, (i6 k, ()))] else []) ++ enum (k + 1) l
theorem enum_app : ∀ (l m : List Post) (k : Nat), enum k (l ++ m) = enum k l ++ enum (k + l.length) m
  | [], m, k => by simp [enum]
  | p :: l, m, k => by
    simp only [List.cons_append, enum, enum_app l m (k + 1), List.append_assoc, List.length_cons]
    rw [show k + 1 + l.length = k + (l.length + 1) by omega]
theorem enum_one (p : Post) (k : Nat) : enum k [p] = if ow p = true then [(p, (i6 k, ()))] else [] := by simp [enum]
theorem enum_len : ∀ (l : List Post) (k : Nat), (enum k l).length ≤ l.length
  | [], k => Nat.le_refl _
  | p :: l, k => by
    have := enum_len l (k + 1)
    simp only [enum, List.length_append, List.length_cons]
    split <;> simp <;> omega
theorem enum_mem : ∀ (l : List Post) (k : Nat) (x : Item), x ∈ enum k l → ∃ i, i < l.length ∧ x = (rdL dP l i, (i6 (k + i), ())) ∧ ow x.1 = true
  | [], k, x, h => by cases h
  | p :: l, k, x, h => by
    simp only [enum, List.mem_append] at h
    rcases h with h | h
    · split at h
      · rename_i hp
        have h := List.mem_singleton.1 h
        subst h
        exact ⟨0, by simp, rfl, hp⟩
      · cases h
    · obtain ⟨i, hi, e, ho⟩ := enum_mem l (k + 1) x h
      exact ⟨i + 1, by simpa using hi, by rw [e, show k + 1 + i = k + (i + 1) by omega]; rfl, ho⟩
theorem enum_take {a : List Post} {i : Nat} (h : i < a.length) : enum 0 (a.take (i + 1)) = enum 0 (a.take i) ++ (if ow (rdL dP a i) = true then [(rdL dP a i, (i6 i, ()))] else []) := by
  rw [List.take_succ_eq_append_getElem h, enum_app, enum_one, List.length_take, Nat.min_eq_left (by omega), Nat.zero_add, rdL_eq dP a i h]
theorem enum_anti {a : List Post} (ha : a.length ≤ 1073741824) {x y : Item} (hx : x ∈ enum 0 a) (hy : y ∈ enum 0 a) (h1 : lessI y x = false) (h2 : lessI x y = false) : x = y := by
  obtain ⟨i, hi, e1, _⟩ := enum_mem _ _ _ hx
  obtain ⟨j, hj, e2, _⟩ := enum_mem _ _ _ hy
  have h1 := (lessI_not _ _).1 h1
  have h2 := (lessI_not _ _).1 h2
  have a1 : x.2.1.val = i := by rw [e1]; show (i6 (0 + i)).val = _; rw [i6_val (by omega)]; omega
  have a2 : y.2.1.val = j := by rw [e2]; show (i6 (0 + j)).val = _; rw [i6_val (by omega)]; omega
  have : i = j := by omega
  subst this
  rw [e1, e2]
noncomputable def sortI (a : List Post) : List Item := (enum 0 a).mergeSort fun x y => !lessI y x
theorem sortI_perm (a : List Post) : (sortI a).Perm (enum 0 a) := List.mergeSort_perm _ _
theorem sortI_ord (a : List Post) : (sortI a).Pairwise fun x y => lessI y x = false := by
  have := List.pairwise_mergeSort (le := fun x y => !lessI y x) (fun x y z h1 h2 => by
    simp only [Bool.not_eq_true'] at *
    exact lessO.trans _ _ _ h1 h2) (fun x y => by
    cases h : lessI y x with
    | false => rfl
    | true => rw [lessO.asymm _ _ h]; rfl) (enum 0 a)
  exact this.imp (by simp)
theorem sortI_queued {a : List Post} (ha : a.length ≤ 1073741824) {h : List Item} (hh : HeapX dI (lt := lessI) h.length (fun _ => False) h) (hp : h.Perm (enum 0 a)) : QOf h (sortI a) :=
  ⟨hh, hp.trans (sortI_perm a).symm, sortI_ord a, fun x hx y hy h1 h2 => enum_anti ha ((sortI_perm a).mem_iff.1 hx) ((sortI_perm a).mem_iff.1 hy) h1 h2⟩
theorem sortI_len (a : List Post) : (sortI a).length ≤ a.length := by rw [(sortI_perm a).length_eq]; exact enum_len a 0
theorem New_ok {a : List Post} (ha : a.length ≤ 1073741824) : ∃ y, debtqueue_New ((a, ()), ()) = some y ∧ ∃ h, y = ((), (((), ()), (h, ()))) ∧ QOf h (sortI a) := by
  refine Wp.out (T := fun o => ∃ y, o = some y ∧ ∃ h, y = ((), (((), ()), (h, ()))) ∧ QOf h (sortI a)) ?_
  unfold debtqueue_New
  simp only [lenL_eq, i6_ofNat, of64_0, of64_1]
  refine Wp.iter (fun s => ∃ i h, s = ((a, (i6 a.length, (i6 i, ()))), (((), ()), (h, ()))) ∧ i ≤ a.length ∧ HeapX dI (lt := lessI) h.length (fun _ => False) h ∧ h.Perm (enum 0 (a.take i))) (fun s => a.length - s.1.2.2.1.val.toNat) ?_ ⟨0, [], rfl, by omega, fun k _ hk => by simp at hk, by simp [enum]⟩ ?_
  · rintro s ⟨i, h, rfl, hi, hh, hp⟩
    simp only [i6_ltb (show i < 9223372036854775808 by omega) (show a.length < 9223372036854775808 by omega), i6_nat (show i < 9223372036854775808 by omega), i6_add (show i + 1 < 9223372036854775808 by omega)]
    have hlen : h.length ≤ i := by
      rw [hp.length_eq]
      exact Nat.le_trans (enum_len _ _) (by rw [List.length_take]; omega)
    refine Wp.brn (fun hc => ?_) (fun hc => ?_)
    · have hc := of_decide_eq_true hc
      have ht := enum_take hc
      refine Wp.brnT (i6_inB (by omega) (by omega)) ?_
      have hm : a.length - (i6 (i + 1)).val.toNat < a.length - (i6 i).val.toNat := by rw [i6_val (by omega), i6_val (by omega)]; omega
      refine Wp.brn (fun ho => ?_) (fun ho => ?_)
      · rw [if_pos (show ow (rdL dP a i) = true from ho)] at ht
        refine Wp.call (Push_ok (x := (rdL dP a i, (i6 i, ()))) hh (by show _ ≤ 1073741824; omega)) ?_
        rintro y ⟨h', rfl, hh', hp'⟩
        refine Wp.again ⟨i + 1, h', rfl, by omega, hh', ?_⟩ hm
        rw [ht]
        exact hp'.trans ((List.Perm.cons _ hp).trans (List.perm_append_comm (l₁ := [_]) (l₂ := _)))
      · rw [if_neg (by rw [show ow (rdL dP a i) = false from ho]; simp), List.append_nil] at ht
        exact Wp.again ⟨i + 1, h, rfl, by omega, hh, by rw [ht]; exact hp⟩ hm
    · have hc := of_decide_eq_false hc
      refine Wp.done ⟨_, rfl, h, rfl, sortI_queued ha hh ?_⟩
      rw [List.take_of_length_le (by omega)] at hp
      exact hp
  · rw [K0_eq]
    show a.length - _ < _
    omega
noncomputable def hdP : List Item → Post
  | [] => dP
  | m :: _ => m.1
theorem Pop_any {h r : List Item} (q : QOf h r) (hl : r.length ≤ 1073741824) :
    ∃ y, debtqueue_Queue_Pop ((), (((), ()), (h, ()))) = some y ∧ ∃ h', y = ((hdP r, (!r.isEmpty, ())), (((), ()), (h', ()))) ∧ QOf h' r.tail := by
  cases r with
  | nil =>
    have := q.nil
    subst this
    exact ⟨_, Pop_nil, [], rfl, q⟩
  | cons m r => exact Pop_ok q (by show _ ≤ 1073741824; rw [q.len]; exact hl)
end Sym

/- The queue of debts: the reference, comparisons of lists. -/
namespace Sym
open Go
end Sym

/- The laws of the queue of debts. -/
namespace Sym
open Go
theorem QOf.drop {h r : List Item} {i : Nat} (q : QOf h (r.drop i).tail) : QOf h (r.drop (i + 1)) := by rwa [List.tail_drop] at q
end Sym

/- The laws of the queue of debts: complete, empty, any order of the list. -/
namespace Sym
open Go
theorem enum_fst : ∀ (l : List Post) (k : Nat), (enum k l).map (·.1) = l.filter ow
  | [], k => rfl
  | p :: l, k => by
    simp only [enum, List.map_append, enum_fst l (k + 1), List.filter_cons]
    split <;> simp
theorem sortI_filter (a : List Post) : ((sortI a).map (·.1)).Perm (a.filter ow) := by
  rw [← enum_fst a 0]
  exact (sortI_perm a).map _
end Sym

/- Tables of posters: which are valid, where one stands. -/
namespace Sym
open Go
abbrev A5 : Type := (I .u64) × U
def val5 (s : A5) : Nat := s.1.nat + 18446744073709551616 * U.val s.2
theorem val5_ext {s t : A5} (h : val5 s = val5 t) : s = t := by
  unfold val5 at h
  have h1 := nat_lt s.1
  have h2 := nat_lt t.1
  have h3 : s.1.nat = t.1.nat := by omega
  have h4 : U.val s.2 = U.val t.2 := by omega
  have h5 : s.1 = t.1 := by rw [← nat_of s.1, ← nat_of t.1, h3]
  exact Prod.ext h5 (U.ext h4)
theorem K0_fiveP : ∃ k, K0 = k + 5 := ⟨2 ^ 64 - 5, by rw [K0_eq]⟩
theorem poster_sum_ok (a b : U) : ∃ y, poster_sum ((a, (b, ())), ()) = some y ∧ ∃ s : A5, y = ((s, ()), ()) ∧ val5 s = a.val + b.val := by
  obtain ⟨a0, a1, a2, a3, ⟨⟩⟩ := a
  obtain ⟨b0, b1, b2, b3, ⟨⟩⟩ := b
  refine Wp.out (T := fun o => ∃ y, o = some y ∧ ∃ s : A5, y = ((s, ()), ()) ∧ val5 s = U.val (a0, a1, a2, a3, ()) + U.val (b0, b1, b2, b3, ())) ?_
  unfold poster_sum
  obtain ⟨k, hk⟩ := K0_fiveP
  rw [hk]
  have step : ∀ (x y c : I .u64), c.nat ≤ 1 → ∃ r, add64F ((x, (y, (c, ()))), ()) = some r ∧ ∃ z q : I .u64, r = ((z, (q, ())), ()) ∧ z.nat + 18446744073709551616 * q.nat = x.nat + y.nat + c.nat ∧ q.nat ≤ 1 := fun x y c hc => by
    obtain ⟨z, q, h1, h2, h3⟩ := add64_nat x y c hc
    exact ⟨_, h1, z, q, rfl, h2, h3⟩
  refine Wp.unroll (Wp.brnT rfl (Wp.brnT rfl (Wp.brnT rfl ?_)))
  refine Wp.call (step a0 b0 (I.of .u64 0) (by decide)) ?_
  rintro _ ⟨z0, q0, rfl, e0, l0⟩
  refine Wp.brnT rfl (Wp.next ?_)
  refine Wp.unroll (Wp.brnT rfl (Wp.brnT rfl (Wp.brnT rfl ?_)))
  refine Wp.call (step a1 b1 q0 l0) ?_
  rintro _ ⟨z1, q1, rfl, e1, l1⟩
  refine Wp.brnT rfl (Wp.next ?_)
  refine Wp.unroll (Wp.brnT rfl (Wp.brnT rfl (Wp.brnT rfl ?_)))
  refine Wp.call (step a2 b2 q1 l1) ?_
  rintro _ ⟨z2, q2, rfl, e2, l2⟩
  refine Wp.brnT rfl (Wp.next ?_)
  refine Wp.unroll (Wp.brnT rfl (Wp.brnT rfl (Wp.brnT rfl ?_)))
  refine Wp.call (step a3 b3 q2 l2) ?_
  rintro _ ⟨z3, q3, rfl, e3, l3⟩
  refine Wp.brnT rfl (Wp.next ?_)
  refine Wp.unroll (Wp.brnF rfl (Wp.stop ?_))
  refine ⟨_, rfl, (z0, (z1, z2, z3, q3, ())), rfl, ?_⟩
  have h0 : (I.of .u64 0).nat = 0 := rfl
  rw [h0] at e0
  simp only [val5, U.val]
  omega
abbrev Post.costs (p : Post) : U := p.2.2.1
abbrev Post.rewards (p : Post) : U := p.2.2.2.1
abbrev Post.paid (p : Post) : U := p.2.2.2.2.1
def EntryOk (p : Post) : Prop := (Post.addr p).val ≠ 0 ∧ (Post.due p).val + (Post.paid p).val = (Post.costs p).val + (Post.rewards p).val ∧ ((Post.since p).val = 0 ↔ (Post.due p).val = 0)
def TableOk (l : List Post) : Prop := l.length ≤ 64 ∧ ∀ i, i < l.length → EntryOk (rdL dP l i) ∧ (0 < i → (Post.addr (rdL dP l (i - 1))).val < (Post.addr (rdL dP l i)).val)
open Classical in
noncomputable def tabB (l : List Post) : Bool := decide (TableOk l)
open Classical in
theorem tabB_t {l : List Post} : tabB l = true ↔ TableOk l := by unfold tabB; exact decide_eq_true_iff
open Classical in
theorem tabB_f {l : List Post} : tabB l = false ↔ ¬ TableOk l := by unfold tabB; exact decide_eq_false_iff_not
theorem eqb_zU (a : U) : Ty.eqb (.arr 4 (.int .u64)) a Z_U = decide (a.val = 0) := by
  rw [eqb_u256]
  rw [show U.val Z_U = 0 from rfl]
theorem poster_isZero_eq (a : U) : poster_isZero ((a, ()), ()) = some ((decide (a.val = 0), ()), ()) := by
  show some _ = _
  rw [show Ty.eqb (.arr 4 (.int .u64)) ((a, ()), ()).1.1 Z_U = decide (a.val = 0) from eqb_zU a]
  rfl
theorem eqbB_iff (a b : Bool) : Ty.eqb .bool a b = true ↔ a = b := eqb_iff .bool rfl a b
end Sym

/- Tables of posters: both programs' Valid and Find. -/
namespace Sym
open Go
def TabTo (l : List Post) (i : Nat) : Prop := ∀ k, k < i → EntryOk (rdL dP l k) ∧ (0 < k → (Post.addr (rdL dP l (k - 1))).val < (Post.addr (rdL dP l k)).val)
theorem TabTo.succ {l : List Post} {i : Nat} (h : TabTo l i) (h1 : EntryOk (rdL dP l i)) (h2 : 0 < i → (Post.addr (rdL dP l (i - 1))).val < (Post.addr (rdL dP l i)).val) : TabTo l (i + 1) := by
  intro k hk
  rcases (by omega : k < i ∨ k = i) with h3 | rfl
  · exact h k h3
  · exact ⟨h1, h2⟩
theorem not_tab {l : List Post} {i : Nat} (hi : i < l.length) (h : ¬ (EntryOk (rdL dP l i) ∧ (0 < i → (Post.addr (rdL dP l (i - 1))).val < (Post.addr (rdL dP l i)).val))) : tabB l = false := tabB_f.2 fun ht => h (ht.2 i hi)
theorem PValid_eq {l : List Post} (hl : l.length ≤ 1073741824) : poster_Valid ((l, ()), ()) = some ((tabB l, ()), ()) := by
  refine Wp.out (T := fun o => o = some ((tabB l, ()), ())) ?_
  unfold poster_Valid
  simp only [lenL_eq, i6_ofNat, of64_0, of64_1]
  refine Wp.iter (fun s => ∃ i, s = ((l, (l, (i6 l.length, (i6 i, ())))), ()) ∧ i ≤ l.length ∧ TabTo l i) (fun s => l.length - s.1.2.2.2.1.val.toNat) ?_ ⟨0, rfl, by omega, fun k hk => by omega⟩ ?_
  · rintro s ⟨i, rfl, hi, ht⟩
    simp only [i6_ltb (show i < 9223372036854775808 by omega) (show l.length < 9223372036854775808 by omega), i6_ltb (show 0 < 9223372036854775808 by omega) (show i < 9223372036854775808 by omega), i6_nat (show i < 9223372036854775808 by omega), i6_add (show i + 1 < 9223372036854775808 by omega)]
    refine Wp.brn (fun hc => ?_) (fun hc => ?_)
    · have hc := of_decide_eq_true hc
      have hm : l.length - (i6 (i + 1)).val.toNat < l.length - (i6 i).val.toNat := by rw [i6_val (by omega), i6_val (by omega)]; omega
      have bi : inB (i6 i) l.length = true := i6_inB (by omega) (by omega)
      refine Wp.brnT bi ?_
      have hEq : EntryOk (rdL dP l i) ↔ ((Post.addr (rdL dP l i)).val ≠ 0 ∧ (Post.due (rdL dP l i)).val + (Post.paid (rdL dP l i)).val = (Post.costs (rdL dP l i)).val + (Post.rewards (rdL dP l i)).val ∧ ((Post.since (rdL dP l i)).val = 0 ↔ (Post.due (rdL dP l i)).val = 0)) := Iff.rfl
      refine Wp.jn (fun s => ∃ b1 b2 b3 n, s = ((l, (l, (i6 l.length, (i6 i, (n, (b1, (b2, (b3, ())))))))), (rdL dP l i, ())) ∧ (Post.addr (rdL dP l i)).val ≠ 0 ∧ (0 < i → (Post.addr (rdL dP l (i - 1))).val < (Post.addr (rdL dP l i)).val)) ?_ ?_
      · rintro s ⟨b1, b2, b3, n, rfl, ha, hlt⟩
        refine Wp.call (poster_sum_ok _ _) ?_
        rintro _ ⟨s1, rfl, e1⟩
        refine Wp.call (poster_sum_ok _ _) ?_
        rintro _ ⟨s2, rfl, e2⟩
        have e1 : val5 s1 = (Post.due (rdL dP l i)).val + (Post.paid (rdL dP l i)).val := e1
        have e2 : val5 s2 = (Post.costs (rdL dP l i)).val + (Post.rewards (rdL dP l i)).val := e2
        have hs : Ty.eqb (.arr 5 (.int .u64)) s1 s2 = true ↔ s1 = s2 := eqb_iff (.arr 5 (.int .u64)) rfl s1 s2
        refine Wp.brn (fun h => ?_) (fun h => ?_)
        · have h : ¬ s1 = s2 := fun e => by
            have e3 := hs.2 e
            have : bnot (Ty.eqb (.arr 5 (.int .u64)) s1 s2) = true := h
            rw [e3] at this
            cases this
          refine Wp.done ?_
          rw [not_tab hc fun h2 => h (val5_ext (by rw [e1, e2]; exact (hEq.1 h2.1).2.1))]
          rfl
        · have h : s1 = s2 := hs.1 (by
            have : bnot (Ty.eqb (.arr 5 (.int .u64)) s1 s2) = false := h
            revert this
            cases Ty.eqb (.arr 5 (.int .u64)) s1 s2 <;> simp [bnot])
          have h5 : (Post.due (rdL dP l i)).val + (Post.paid (rdL dP l i)).val = (Post.costs (rdL dP l i)).val + (Post.rewards (rdL dP l i)).val := by rw [← e1, ← e2, h]
          refine Wp.optF (poster_isZero_eq _) ?_
          have hz : Ty.eqb .bool (I.eqb (Post.since (rdL dP l i)) (I.of .u64 0)) (decide ((Post.due (rdL dP l i)).val = 0)) = true ↔ ((Post.since (rdL dP l i)).val = 0 ↔ (Post.due (rdL dP l i)).val = 0) := by
            rw [eqbB_iff]
            constructor
            · intro hb
              constructor
              · intro h0
                exact of_decide_eq_true (hb.symm.trans (iff_eqb.2 h0))
              · intro h0
                exact iff_eqb.1 (hb.trans (decide_eq_true h0))
            · intro h3
              by_cases h0 : (Post.due (rdL dP l i)).val = 0
              · exact (iff_eqb.2 (h3.2 h0)).trans (decide_eq_true h0).symm
              · exact (niff_eqb.2 (fun e => h0 (h3.1 e))).trans (decide_eq_false h0).symm
          refine Wp.brn (fun h => ?_) (fun h => ?_)
          · refine Wp.done ?_
            rw [not_tab hc fun h2 => by
              have e3 := hz.2 (hEq.1 h2.1).2.2
              have : bnot (Ty.eqb .bool (I.eqb (Post.since (rdL dP l i)) (I.of .u64 0)) (decide ((Post.due (rdL dP l i)).val = 0))) = true := h
              rw [e3] at this
              cases this]
            rfl
          · have h6 := hz.1 (by
              have : bnot (Ty.eqb .bool (I.eqb (Post.since (rdL dP l i)) (I.of .u64 0)) (decide ((Post.due (rdL dP l i)).val = 0))) = false := h
              revert this
              cases Ty.eqb .bool (I.eqb (Post.since (rdL dP l i)) (I.of .u64 0)) (decide ((Post.due (rdL dP l i)).val = 0)) <;> simp [bnot])
            simp only [i6_add (show i + 1 < 9223372036854775808 by omega)]
            exact Wp.again ⟨i + 1, rfl, by omega, ht.succ (hEq.2 ⟨ha, h5, h6⟩) hlt⟩ hm
      · intro j hj
        refine Wp.brn (fun h => ?_) (fun h => ?_)
        · have h := iff_eqb.1 h
          refine Wp.done ?_
          rw [not_tab hc fun h2 => (hEq.1 h2.1).1 h]
          rfl
        · have ha := niff_eqb.1 h
          refine Wp.brn (fun h0 => ?_) (fun h0 => ?_)
          · have h0 := of_decide_eq_true h0
            simp only [i6_sub (show i < 9223372036854775808 by omega) (show 1 ≤ i by omega), i6_nat (show i - 1 < 9223372036854775808 by omega)]
            refine Wp.brnT (i6_inB (by omega) (by omega)) ?_
            refine Wp.brn (fun hl => ?_) (fun hl => ?_)
            · have hl := iff_leb.1 hl
              refine Wp.done ?_
              rw [not_tab hc fun h2 => by have := h2.2 h0; exact absurd this (Int.not_lt.2 hl)]
              rfl
            · have hl := niff_leb.1 hl
              exact hj _ ⟨_, _, _, _, rfl, ha, fun _ => hl⟩
          · have h0 := of_decide_eq_false h0
            exact hj _ ⟨_, _, _, _, rfl, ha, fun h => by omega⟩
    · have hc := of_decide_eq_false hc
      refine Wp.done ?_
      have e : I.leb (i6 l.length) (I.of .i64 64) = tabB l := by
        by_cases h64 : l.length ≤ 64
        · rw [tabB_t.2 ⟨h64, fun k hk => ht k (by omega)⟩]
          exact iff_leb.2 (by rw [i6_val (by omega), show (I.of .i64 64).val = 64 from rfl]; omega)
        · rw [tabB_f.2 fun h => h64 h.1]
          exact niff_leb.2 (by rw [i6_val (by omega), show (I.of .i64 64).val = 64 from rfl]; omega)
      rw [← e]
      rfl
  · rw [K0_eq]
    show l.length - _ < _
    omega
def atN (l : List Post) (a : I .u64) : Nat := l.findIdx fun p => I.eqb (Post.addr p) a
def atI (l : List Post) (a : I .u64) : I .i64 := if atN l a < l.length then i6 (atN l a) else I.of .i64 (-1)
theorem atN_of {l : List Post} {a : I .u64} {i : Nat} (hi : i < l.length) (h1 : I.eqb (Post.addr (rdL dP l i)) a = true) (h2 : ∀ k, k < i → I.eqb (Post.addr (rdL dP l k)) a = false) : atN l a = i := by
  unfold atN
  rw [List.findIdx_eq hi]
  refine ⟨by rw [← rdL_eq dP l i hi]; exact h1, fun k hk => ?_⟩
  rw [← rdL_eq dP l k (by omega)]
  exact h2 k hk
theorem atN_none {l : List Post} {a : I .u64} (h2 : ∀ k, k < l.length → I.eqb (Post.addr (rdL dP l k)) a = false) : atN l a = l.length := by
  unfold atN
  rw [List.findIdx_eq_length]
  intro x hx
  obtain ⟨k, hk, rfl⟩ := mem_rdL dP hx
  exact h2 k hk
theorem PFind_eq {l : List Post} (a : I .u64) (hl : l.length ≤ 1073741824) : poster_Find ((l, (a, ())), ()) = some ((atI l a, ()), ()) := by
  refine Wp.out (T := fun o => o = some ((atI l a, ()), ())) ?_
  unfold poster_Find
  simp only [lenL_eq, i6_ofNat, of64_0, of64_1]
  refine Wp.iter (fun s => ∃ i, s = ((l, (((), ()), (i6 l.length, (i6 i, ())))), (a, ())) ∧ i ≤ l.length ∧ ∀ k, k < i → I.eqb (Post.addr (rdL dP l k)) a = false) (fun s => l.length - s.1.2.2.2.1.val.toNat) ?_ ⟨0, rfl, by omega, fun k hk => by omega⟩ ?_
  · rintro s ⟨i, rfl, hi, ht⟩
    simp only [i6_ltb (show i < 9223372036854775808 by omega) (show l.length < 9223372036854775808 by omega), i6_nat (show i < 9223372036854775808 by omega), i6_add (show i + 1 < 9223372036854775808 by omega)]
    refine Wp.brn (fun hc => ?_) (fun hc => ?_)
    · have hc := of_decide_eq_true hc
      refine Wp.brnT (i6_inB (by omega) (by omega)) ?_
      refine Wp.brn (fun h => ?_) (fun h => ?_)
      · refine Wp.done ?_
        have e := atN_of hc h ht
        unfold atI
        rw [e, if_pos hc]
        rfl
      · refine Wp.again ⟨i + 1, rfl, by omega, fun k hk => ?_⟩ (by show l.length - (i6 (i + 1)).val.toNat < l.length - (i6 i).val.toNat; rw [i6_val (by omega), i6_val (by omega)]; omega)
        rcases (by omega : k < i ∨ k = i) with h3 | rfl
        · exact ht k h3
        · exact h
    · have hc := of_decide_eq_false hc
      refine Wp.done ?_
      have e := atN_none fun k hk => ht k (by omega)
      unfold atI
      rw [if_neg (by omega)]
      rfl
  · rw [K0_eq]
    show l.length - _ < _
    omega
end Sym

/- Tables of posters: Settle, sums. -/
namespace Sym
open Go
noncomputable def settled (p : Post) (n : U) : Post :=
  (p.addr, (U.of (p.due.val - n.val), (p.costs, (p.rewards, (U.of (p.paid.val + n.val), ((if p.due.val - n.val = 0 then I.of .u64 0 else p.since), ()))))))
noncomputable def settleS (l : List Post) (a : I .u64) (n : U) : List Post × I .i64 :=
  if tabB l = true then
    if atN l a < l.length then
      if n.val ≤ (Post.due (rdL dP l (atN l a))).val then
        if (Post.paid (rdL dP l (atN l a))).val + n.val < U.top then (setAt l (atN l a) (settled (rdL dP l (atN l a)) n), I.of .i64 0)
        else ([], I.of .i64 4)
      else ([], I.of .i64 10)
    else ([], I.of .i64 8)
  else ([], I.of .i64 2)
theorem atI_neg {l : List Post} {a : I .u64} (hl : l.length ≤ 1073741824) : I.ltb (atI l a) (I.of .i64 0) = decide (¬ atN l a < l.length) := by
  unfold atI
  by_cases h : atN l a < l.length
  · rw [if_pos h, decide_eq_false (by simpa using h)]
    exact niff_ltb.2 (by rw [i6_val (by omega)]; show (0 : Int) ≤ _; omega)
  · rw [if_neg h, decide_eq_true h]
    rfl
theorem Clone_ok (l : List Post) (hl : l.length ≤ 1073741824) : slices_Clone___api_Poster_api_Poster_ ((l, ()), ()) = some ((), (l, ())) := by
  refine Wp.out (T := fun o => o = _) ?_
  unfold slices_Clone___api_Poster_api_Poster_
  refine Wp.brn (fun h => ?_) (fun h => ?_)
  · have h : l.length = 0 := by
      have : emptyN l.length = true := h
      exact Nat.eq_of_beq_eq_true this
    have := List.eq_nil_of_length_eq_zero h
    subst this
    show both _ _ _ = _
    have hb : brn (fitsLen (lenL (appL ([] : List Post) []))) (some ((), (appL ([] : List Post) [], ()))) none = some ((), (([] : List Post), ())) := rfl
    exact both_eq rfl
  · exact Wp.brnT (fits_le (by show ([] ++ l).length ≤ _; simpa using hl)) rfl
theorem PSettle_eq (l : List Post) (a : I .u64) (n : U) (hl : l.length ≤ 1073741824) : poster_Settle ((l, (a, (n, ()))), ()) = some (((settleS l a n).1, ((settleS l a n).2, ())), ()) := by
  refine Wp.out (T := fun o => o = _) ?_
  unfold poster_Settle
  refine Wp.optF (PFind_eq a hl) (Wp.optF (PValid_eq hl) ?_)
  unfold settleS
  refine Wp.brn (fun h => ?_) (fun h => ?_)
  · have h : tabB l = false := by have : bnot (tabB l) = true := h; revert this; cases tabB l <;> simp [bnot]
    rw [if_neg (by rw [h]; simp)]
    rfl
  · have h : tabB l = true := by have : bnot (tabB l) = false := h; revert this; cases tabB l <;> simp [bnot]
    rw [if_pos h]
    refine Wp.brn (fun h => ?_) (fun h => ?_)
    · have h := of_decide_eq_true ((atI_neg hl).symm.trans h)
      rw [if_neg h]
      rfl
    · have h := of_decide_eq_false ((atI_neg hl).symm.trans h)
      have h : atN l a < l.length := by simpa using h
      rw [if_pos h]
      have e : atI l a = i6 (atN l a) := if_pos h
      simp only [e, i6_nat (show atN l a < 9223372036854775808 by omega)]
      have bi : inB (i6 (atN l a)) l.length = true := i6_inB h (by omega)
      refine Wp.brnT bi ?_
      refine Wp.optF (uint256_Sub_eq _ _) ?_
      generalize rdL dP l (atN l a) = p
      by_cases hd : n.val ≤ (Post.due p).val
      · rw [if_pos hd]
        have es : subS (Post.due p) n = (U.of ((Post.due p).val - n.val), I.of .i64 0) := if_pos hd
        rw [es]
        refine Wp.brnF rfl ?_
        refine Wp.optF (Add_errS _ _) ?_
        by_cases hp : (Post.paid p).val + n.val < U.top
        · rw [if_pos hp]
          rw [errS_lt hp]
          refine Wp.brnF rfl ?_
          refine Wp.jn (fun s => s = ((l, (i6 (atN l a), ())), (settled p n, ()))) ?_ ?_
          · rintro s rfl
            refine Wp.optF (Clone_ok l hl) ?_
            simp only [i6_nat (show atN l a < 9223372036854775808 by omega)]
            exact Wp.brnT bi rfl
          · intro j hj
            refine Wp.optF (poster_isZero_eq _) ?_
            have hv : (U.of ((Post.due p).val - n.val)).val = (Post.due p).val - n.val := U.val_of (by have := U.lt (Post.due p); omega)
            refine Wp.brn (fun hz => ?_) (fun hz => ?_)
            · have hz := of_decide_eq_true hz
              have hz : (Post.due p).val - n.val = 0 := hv.symm.trans hz
              refine hj _ ?_
              unfold settled
              rw [if_pos hz]
            · have hz := of_decide_eq_false hz
              have hz : ¬ (Post.due p).val - n.val = 0 := fun e => hz (hv.trans e)
              refine hj _ ?_
              unfold settled
              rw [if_neg hz]
        · rw [if_neg hp]
          have e4 : errS ((Post.paid p).val + n.val) = (U.of 0, I.of .i64 4) := errS_ge (Nat.le_of_not_lt hp)
          rw [show errS (U.val p.2.2.2.2.1 + n.val) = (U.of 0, I.of .i64 4) from e4]
          exact Wp.brnT rfl rfl
      · rw [if_neg hd]
        have es : subS (Post.due p) n = (U.of 0, I.of .i64 4) := if_neg hd
        rw [es]
        exact Wp.brnT rfl rfl
end Sym

/- Payments: sums, both programs' plans. -/
namespace Sym
open Go
abbrev Pay : Type := S_api_Payment
noncomputable abbrev dY : Pay := Z_S_api_Payment
theorem zU_of : Z_U = U.of 0 := by apply U.ext; rfl
def sumN (l : List Nat) : Nat := l.foldr (· + ·) 0
theorem sumN_app (l m : List Nat) : sumN (l ++ m) = sumN l + sumN m := by
  induction l with
  | nil => simp [sumN]
  | cons x l ih => simp only [sumN, List.cons_append, List.foldr_cons] at *; omega
theorem sumN_take {X : Type} (d : X) (f : X → Nat) {l : List X} {i : Nat} (h : i < l.length) : sumN ((l.take (i + 1)).map f) = sumN ((l.take i).map f) + f (rdL d l i) := by
  rw [List.take_succ_eq_append_getElem h, List.map_append, sumN_app, ← rdL_eq d l i h]
  simp [sumN]
theorem sumN_le {X : Type} (f : X → Nat) (l : List X) (i : Nat) : sumN ((l.take i).map f) ≤ sumN (l.map f) := by
  have : sumN (l.map f) = sumN ((l.take i).map f) + sumN ((l.drop i).map f) := by
    rw [← sumN_app, ← List.map_append, List.take_append_drop]
  omega
def amt (q : Pay) : Nat := U.val q.2.1
theorem PSum_eq {l : List Pay} (hl : l.length ≤ 1073741824) : payout_Sum ((l, ()), ()) = some (((errS (sumN (l.map amt))).1, ((errS (sumN (l.map amt))).2, ())), ()) := by
  refine Wp.out (T := fun o => o = _) ?_
  unfold payout_Sum
  simp only [lenL_eq, i6_ofNat, of64_0, of64_1]
  refine Wp.iter (fun s => ∃ i, s = ((l, (i6 l.length, (i6 i, ()))), (Z_U, (U.of (sumN ((l.take i).map amt)), ()))) ∧ i ≤ l.length ∧ sumN ((l.take i).map amt) < U.top) (fun s => l.length - s.1.2.2.1.val.toNat) ?_ ⟨0, by rw [zU_of]; rfl, by omega, by show (0 : Nat) < _; decide⟩ ?_
  · rintro s ⟨i, rfl, hi, ht⟩
    simp only [i6_ltb (show i < 9223372036854775808 by omega) (show l.length < 9223372036854775808 by omega), i6_nat (show i < 9223372036854775808 by omega), i6_add (show i + 1 < 9223372036854775808 by omega)]
    refine Wp.brn (fun hc => ?_) (fun hc => ?_)
    · have hc := of_decide_eq_true hc
      refine Wp.brnT (i6_inB (by omega) (by omega)) ?_
      refine Wp.optF (Add_errS' ht _) ?_
      have hs := sumN_take dY amt hc
      have hs' : sumN ((l.take i).map amt) + U.val (rdL Z_S_api_Payment l i).2.1 = sumN ((l.take (i + 1)).map amt) := hs.symm
      rw [hs']
      by_cases h : sumN ((l.take (i + 1)).map amt) < U.top
      · rw [errS_lt h]
        refine Wp.brnF rfl ?_
        exact Wp.again ⟨i + 1, rfl, by omega, h⟩ (by show l.length - (i6 (i + 1)).val.toNat < l.length - (i6 i).val.toNat; rw [i6_val (by omega), i6_val (by omega)]; omega)
      · have h2 := sumN_le amt l (i + 1)
        rw [errS_ge (n := sumN ((l.take (i + 1)).map amt)) (by omega), errS_ge (n := sumN (l.map amt)) (by omega), zU_of]
        exact Wp.brnT rfl (Wp.done rfl)
    · have hc := of_decide_eq_false hc
      rw [List.take_of_length_le (by omega)] at ht ⊢
      rw [errS_lt ht]
      exact Wp.done rfl
  · rw [K0_eq]
    show l.length - _ < _
    omega
def dueN (p : Post) : Nat := U.val p.due
theorem TotalDue_eq {l : List Post} (hl : l.length ≤ 1073741824) : poster_TotalDue ((l, ()), ()) = if tabB l = true then some (((errS (sumN (l.map dueN))).1, ((errS (sumN (l.map dueN))).2, ())), ()) else some ((Z_U, (I.of .i64 2, ())), ()) := by
  refine Wp.out (T := fun o => o = _) ?_
  unfold poster_TotalDue
  simp only [lenL_eq, i6_ofNat, of64_0, of64_1]
  refine Wp.optF (PValid_eq hl) ?_
  refine Wp.brn (fun h => ?_) (fun h => ?_)
  · have h : tabB l = false := by have : bnot (tabB l) = true := h; revert this; cases tabB l <;> simp [bnot]
    rw [if_neg (by rw [h]; simp)]
    rfl
  · have h : tabB l = true := by have : bnot (tabB l) = false := h; revert this; cases tabB l <;> simp [bnot]
    rw [if_pos h]
    refine Wp.iter (fun s => ∃ i, s = ((l, (i6 l.length, (i6 i, ()))), (Z_U, (U.of (sumN ((l.take i).map dueN)), ()))) ∧ i ≤ l.length ∧ sumN ((l.take i).map dueN) < U.top) (fun s => l.length - s.1.2.2.1.val.toNat) ?_ ⟨0, by rw [zU_of]; rfl, by omega, by show (0 : Nat) < _; decide⟩ ?_
    · rintro s ⟨i, rfl, hi, ht⟩
      simp only [i6_ltb (show i < 9223372036854775808 by omega) (show l.length < 9223372036854775808 by omega), i6_nat (show i < 9223372036854775808 by omega), i6_add (show i + 1 < 9223372036854775808 by omega)]
      refine Wp.brn (fun hc => ?_) (fun hc => ?_)
      · have hc := of_decide_eq_true hc
        refine Wp.brnT (i6_inB (by omega) (by omega)) ?_
        refine Wp.optF (Add_errS' ht _) ?_
        have hs := sumN_take dP dueN hc
        have hs' : sumN ((l.take i).map dueN) + U.val (rdL Z_S_api_Poster l i).2.1 = sumN ((l.take (i + 1)).map dueN) := hs.symm
        rw [hs']
        by_cases h : sumN ((l.take (i + 1)).map dueN) < U.top
        · rw [errS_lt h]
          refine Wp.brnF rfl ?_
          exact Wp.again ⟨i + 1, rfl, by omega, h⟩ (by show l.length - (i6 (i + 1)).val.toNat < l.length - (i6 i).val.toNat; rw [i6_val (by omega), i6_val (by omega)]; omega)
        · have h2 := sumN_le dueN l (i + 1)
          rw [errS_ge (n := sumN ((l.take (i + 1)).map dueN)) (by omega), errS_ge (n := sumN (l.map dueN)) (by omega), zU_of]
          exact Wp.brnT rfl (Wp.done rfl)
      · have hc := of_decide_eq_false hc
        rw [List.take_of_length_le (by omega)] at ht ⊢
        rw [errS_lt ht]
        exact Wp.done rfl
    · rw [K0_eq]
      show l.length - _ < _
      omega
noncomputable def planS : List Post → Nat → List Pay
  | [], _ => []
  | p :: r, n => if n = 0 then [] else (p.addr, (U.of (min (dueN p) n), ())) :: planS r (n - min (dueN p) n)
theorem planS_zero (l : List Post) : planS l 0 = [] := by cases l <;> simp [planS]
theorem planS_len : ∀ (l : List Post) (n : Nat), (planS l n).length ≤ l.length
  | [], n => Nat.le_refl _
  | p :: r, n => by
    have := planS_len r (n - min (dueN p) n)
    simp only [planS]
    split <;> simp <;> omega
noncomputable def planR (l : List Post) (pool : U) : List Pay × I .i64 :=
  if tabB l = true then (planS ((sortI l).map (·.1)) pool.val, I.of .i64 0) else ([], I.of .i64 2)
theorem nz_u {a : U} : bnot (Ty.eqb (.arr 4 (.int .u64)) a Z_U) = decide (a.val ≠ 0) := by
  rw [eqb_zU]
  by_cases h : a.val = 0 <;> simp [h, bnot]
theorem PPlan_eq (l : List Post) (pool : U) (hl : l.length ≤ 1073741824) : payout_Plan ((l, (pool, ())), ()) = some (((planR l pool).1, ((planR l pool).2, ())), ()) := by
  refine Wp.out (T := fun o => o = _) ?_
  unfold payout_Plan planR
  refine Wp.optF (PValid_eq hl) ?_
  refine Wp.brn (fun h => ?_) (fun h => ?_)
  · have h : tabB l = false := by have : bnot (tabB l) = true := h; revert this; cases tabB l <;> simp [bnot]
    rw [if_neg (by rw [h]; simp)]
    rfl
  · have h : tabB l = true := by have : bnot (tabB l) = false := h; revert this; cases tabB l <;> simp [bnot]
    rw [if_pos h]
    refine Wp.call (New_ok hl) ?_
    rintro _ ⟨h0, rfl, q0⟩
    have hs := sortI_len l
    have q0 : QOf h0 (sortI l) := q0
    refine Wp.call (Pop_any q0 (by omega)) ?_
    rintro _ ⟨h1, rfl, q1⟩
    refine Wp.iter (fun s => ∃ r h out n, s = ((!r.isEmpty, ()), (n, (out, (((), ()), (h, (hdP r, ())))))) ∧ QOf h r.tail ∧ out ++ planS (r.map (·.1)) (U.val n) = planS ((sortI l).map (·.1)) pool.val ∧ out.length + r.length ≤ (sortI l).length) (fun s => (sortI l).length - s.2.2.1.length) ?_ ⟨sortI l, h1, [], pool, rfl, q1, rfl, by simp⟩ ?_
    · rintro s ⟨r, h, out, n, rfl, q, ho, hol⟩
      have fin : out = planS ((sortI l).map (·.1)) pool.val → Wp (fun o => o = some (((planS ((sortI l).map (·.1)) pool.val, I.of .i64 0).1, ((planS ((sortI l).map (·.1)) pool.val, I.of .i64 0).2, ())), ())) (some ((out, ((I.of .i64 0), ())), ())) := fun e => by rw [e]; rfl
      refine Wp.jn (fun s => ∃ z b m r', r = m :: r' ∧ U.val n ≠ 0 ∧ s = ((n, (z, (b, ()))), (n, (out, (((), ()), (h, (m.1, ()))))))) ?_ ?_
      · rintro s ⟨z, b, m, r', rfl, hn, rfl⟩
        refine Wp.optF (uint256_Min_eq _ _) ?_
        refine Wp.optF (SatSub_ok _ _) ?_
        have hol' : out.length + (r'.length + 1) ≤ (sortI l).length := hol
        refine Wp.brnT (fits_le (by show (out ++ [_]).length ≤ _; simp; omega)) ?_
        have q : QOf h r' := q
        refine Wp.call (Pop_any q (by omega)) ?_
        rintro _ ⟨h', rfl, q'⟩
        have e1 : minS (Post.due m.1) n = U.of (min (dueN m.1) (U.val n)) := by
          rw [← U.of_val (minS (Post.due m.1) n), minS_val]
          rfl
        refine Wp.again ⟨r', h', out ++ [(Post.addr m.1, (minS (Post.due m.1) n, ()))], U.of (U.val n - (minS (Post.due m.1) n).val), rfl, q', ?_, by rw [List.length_append]; simp; omega⟩ ?_
        · rw [← ho, U.val_of (by have := U.lt n; omega), minS_val, e1]
          simp only [List.map_cons, planS, if_neg hn, List.append_assoc, List.singleton_append]
          rfl
        · show (sortI l).length - (out ++ [_]).length < (sortI l).length - out.length
          simp
          omega
      · intro j hj
        cases r with
        | nil =>
          refine Wp.brnF rfl (Wp.done (fin ?_))
          rw [← ho]
          simp [planS]
        | cons m r' =>
          refine Wp.brnT rfl ?_
          refine Wp.brn (fun hz => ?_) (fun hz => ?_)
          · have hz := of_decide_eq_true (nz_u.symm.trans hz)
            exact hj _ ⟨_, _, m, r', rfl, hz, rfl⟩
          · have hz := of_decide_eq_false (nz_u.symm.trans hz)
            have hz : U.val n = 0 := by simpa using hz
            refine Wp.done (fin ?_)
            rw [← ho, hz, planS_zero, List.append_nil]
    · rw [K0_eq]
      show (sortI l).length - _ < _
      omega
end Sym

/- Sums that stop at the top; numbers by shape. -/
namespace Sym
open Go
theorem pontagelaw0_Mod_ok (x n : I .i64) (h : 0 < n.val) : ∃ y : I .i64, pontagelaw0_Mod ((x, n, ()), ()) = some ((y, ()), ()) ∧ 0 ≤ y.val ∧ y.val < n.val := by
  have hn := i64_range n
  have e : (I.conv .u64 n).val = n.val := of_u64 ⟨by omega, by omega⟩
  have hx := u64_range (I.conv .u64 x)
  have er : (I.rem (I.conv .u64 x) (I.conv .u64 n)).val = (I.conv .u64 x).val % n.val := by rw [rem_u64 (by omega), e]
  have h3 := Int.emod_nonneg (I.conv .u64 x).val (b := n.val) (by omega)
  have h4 := Int.emod_lt_of_pos (I.conv .u64 x).val (b := n.val) (by omega)
  have ec : (I.conv .i64 (I.rem (I.conv .u64 x) (I.conv .u64 n))).val = (I.conv .u64 x).val % n.val := by
    show (I.of .i64 _).val = _
    rw [er]
    exact of_i64 ⟨by omega, by omega⟩
  refine ⟨I.conv .i64 (I.rem (I.conv .u64 x) (I.conv .u64 n)), ?_, by omega, by omega⟩
  refine Wp.out (T := fun o => o = _) ?_
  unfold pontagelaw0_Mod
  refine Wp.brnT (iff_nz.2 ?_) rfl
  show (I.conv .u64 n).val ≠ 0
  omega
end Sym

/- Tables of posters: what is generated is well formed. -/
namespace Sym
open Go
theorem TableOk.lt {l : List Post} (h : TableOk l) : ∀ j, j < l.length → ∀ i, i < j → (Post.addr (rdL dP l i)).val < (Post.addr (rdL dP l j)).val := by
  intro j
  induction j with
  | zero => intro _ i hi; omega
  | succ j ih =>
    intro hj i hi
    have h1 := (h.2 (j + 1) hj).2 (by omega)
    rw [Nat.add_sub_cancel] at h1
    rcases (by omega : i < j ∨ i = j) with h2 | rfl
    · have := ih (by omega) i h2
      omega
    · exact h1
theorem table_iff {l : List Post} : TableOk l ↔ l.length ≤ 64 ∧ (∀ p ∈ l, EntryOk p) ∧ l.Pairwise fun p q => (Post.addr p).val < (Post.addr q).val := by
  constructor
  · intro h
    refine ⟨h.1, fun p hp => ?_, List.pairwise_iff_getElem.2 fun i j hi hj hij => ?_⟩
    · obtain ⟨k, hk, rfl⟩ := mem_rdL dP hp
      exact (h.2 k hk).1
    · rw [← rdL_eq dP l i hi, ← rdL_eq dP l j hj]
      exact h.lt j hj i hij
  · rintro ⟨h1, h2, h3⟩
    refine ⟨h1, fun i hi => ⟨h2 _ (rdL_mem dP l i hi), fun h0 => ?_⟩⟩
    have := List.pairwise_iff_getElem.1 h3 (i - 1) i (by omega) hi (by omega)
    rw [rdL_eq dP l i hi, rdL_eq dP l (i - 1) (by omega)]
    exact this
theorem set_ok {l : List Post} (h : TableOk l) {k : Nat} (hk : k < l.length) {v : Post} (hv : EntryOk v) (ha : Post.addr v = Post.addr (rdL dP l k)) : TableOk (setAt l k v) := by
  have hlen : (setAt l k v).length = l.length := by rw [setAt_eq, List.length_set]
  have haddr : ∀ i, Post.addr (rdL dP (setAt l k v) i) = Post.addr (rdL dP l i) := by
    intro i
    rw [rdL_set]
    split
    · rename_i e
      rw [ha, e.1]
    · rfl
  refine ⟨by rw [hlen]; exact h.1, fun i hi => ?_⟩
  rw [hlen] at hi
  rw [haddr, haddr]
  refine ⟨?_, (h.2 i hi).2⟩
  rw [rdL_set]
  split
  · exact hv
  · exact (h.2 i hi).1
theorem settled_ok {p : Post} {n : U} (h : EntryOk p) (h1 : n.val ≤ (Post.due p).val) (h2 : (Post.paid p).val + n.val < U.top) : EntryOk (settled p n) := by
  obtain ⟨ha, hb, hc⟩ := h
  have hd := U.lt (Post.due p)
  refine ⟨ha, ?_, ?_⟩
  · show (U.of ((Post.due p).val - n.val)).val + (U.of ((Post.paid p).val + n.val)).val = _
    rw [U.val_of (by omega), U.val_of h2]
    show _ = (Post.costs p).val + (Post.rewards p).val
    omega
  · show (if (Post.due p).val - n.val = 0 then I.of .u64 0 else Post.since p).val = 0 ↔ (U.of ((Post.due p).val - n.val)).val = 0
    rw [U.val_of (by omega)]
    split
    · rename_i e
      rw [e]
      exact ⟨fun _ => rfl, fun _ => rfl⟩
    · rename_i e
      rw [hc]
      omega
theorem tab_not {l : List Post} (h : TableOk l) : bnot (tabB l) = false := by rw [tabB_t.2 h]; rfl
theorem atN_spec {l : List Post} {a : I .u64} (h : ¬ atN l a < l.length) : ∀ k, k < l.length → (Post.addr (rdL dP l k)).val ≠ a.val := by
  intro k hk e
  have h1 : atN l a ≤ l.length := List.findIdx_le_length
  have h2 : atN l a = l.length := by omega
  unfold atN at h2
  rw [List.findIdx_eq_length] at h2
  have := h2 _ (rdL_mem dP l k hk)
  exact absurd (iff_eqb.2 e) (by rw [this]; simp)
theorem atN_at {l : List Post} {a : I .u64} (h : atN l a < l.length) : Post.addr (rdL dP l (atN l a)) = a := by
  have := List.findIdx_getElem (p := fun p : Post => I.eqb (Post.addr p) a) (xs := l) (w := h)
  rw [rdL_eq dP l _ h]
  exact I.eq_of this
end Sym

/- Tables of posters: what is generated is well formed: Accrue, the calls. -/
namespace Sym
open Go
theorem accrued_ok {p : Post} (h : EntryOk p) (c w : U) (s : I .u64) (hs : s.val ≠ 0) (h1 : (Post.due p).val + (c.val + w.val) < U.top) (h2 : (Post.costs p).val + c.val < U.top) (h3 : (Post.rewards p).val + w.val < U.top) (s' : I .u64)
    (hs' : (s' = s ∧ (Post.due p).val = 0 ∧ 0 < (Post.due p).val + (c.val + w.val)) ∨ (s' = Post.since p ∧ ¬ ((Post.due p).val = 0 ∧ 0 < (Post.due p).val + (c.val + w.val)))) :
    EntryOk (p.1, (U.of ((Post.due p).val + (c.val + w.val)), (U.of ((Post.costs p).val + c.val), (U.of ((Post.rewards p).val + w.val), (p.2.2.2.2.1, (s', ())))))) := by
  obtain ⟨ha, hb, hc⟩ := h
  refine ⟨ha, ?_, ?_⟩
  · show (U.of _).val + (Post.paid p).val = (U.of _).val + (U.of _).val
    rw [U.val_of h1, U.val_of h2, U.val_of h3]
    omega
  · show s'.val = 0 ↔ (U.of _).val = 0
    rw [U.val_of h1]
    rcases hs' with ⟨rfl, e1, e2⟩ | ⟨rfl, e⟩
    · constructor
      · intro e; exact absurd e hs
      · intro e; omega
    · rw [hc]
      omega
abbrev Call : Type := S_pontagelaw16_Call
end Sym

/- Payments: Apply, the laws that compare with the reference. -/
namespace Sym
open Go
noncomputable def applyS : List Post → List Pay → List Post × I .i64
  | out, [] => (out, I.of .i64 0)
  | out, q :: r => if (settleS out q.1 q.2.1).2.val = 0 then applyS (settleS out q.1 q.2.1).1 r else ([], (settleS out q.1 q.2.1).2)
theorem settle_len {l : List Post} {a : I .u64} {n : U} (h : (settleS l a n).2.val = 0) : (settleS l a n).1.length = l.length := by
  unfold settleS at h ⊢
  split at h
  · split at h
    · split at h
      · split at h
        · rename_i h1 h2 h3 h4
          rw [if_pos h1, if_pos h2, if_pos h3, if_pos h4]
          show (setAt l _ _).length = _
          rw [setAt_eq, List.length_set]
        · exact absurd h (by decide)
      · exact absurd h (by decide)
    · exact absurd h (by decide)
  · exact absurd h (by decide)
theorem PApply_eq (l : List Post) (p : List Pay) (hl : l.length ≤ 1073741824) (hp : p.length ≤ 1073741824) : payout_Apply ((l, (p, ())), ()) = some (((applyS l p).1, ((applyS l p).2, ())), ()) := by
  refine Wp.out (T := fun o => o = _) ?_
  unfold payout_Apply
  refine Wp.optF (Clone_ok l hl) ?_
  simp only [lenL_eq, i6_ofNat, of64_0, of64_1]
  refine Wp.iter (fun s => ∃ i out, s = ((out, (p, (i6 p.length, (i6 i, ())))), ()) ∧ i ≤ p.length ∧ out.length ≤ 1073741824 ∧ applyS out (p.drop i) = applyS l p) (fun s => p.length - s.1.2.2.2.1.val.toNat) ?_ ⟨0, l, rfl, by omega, hl, rfl⟩ ?_
  · rintro s ⟨i, out, rfl, hi, ho, he⟩
    simp only [i6_ltb (show i < 9223372036854775808 by omega) (show p.length < 9223372036854775808 by omega), i6_nat (show i < 9223372036854775808 by omega), i6_add (show i + 1 < 9223372036854775808 by omega)]
    refine Wp.brn (fun hc => ?_) (fun hc => ?_)
    · have hc := of_decide_eq_true hc
      refine Wp.brnT (i6_inB (by omega) (by omega)) ?_
      rw [List.drop_eq_getElem_cons hc, ← rdL_eq dY p i hc] at he
      simp only [applyS] at he
      refine Wp.optF (PSettle_eq out _ _ ho) ?_
      refine Wp.brn (fun h => ?_) (fun h => ?_)
      · have h := iff_neb.1 h
        have h : ¬ (settleS out (rdL dY p i).1 (rdL dY p i).2.1).2.val = 0 := h
        rw [if_neg h] at he
        rw [← he]
        exact Wp.done rfl
      · have h := niff_neb.1 h
        have h : (settleS out (rdL dY p i).1 (rdL dY p i).2.1).2.val = 0 := h
        rw [if_pos h] at he
        exact Wp.again ⟨i + 1, _, rfl, by omega, by rw [settle_len h]; exact ho, he⟩ (by show p.length - (i6 (i + 1)).val.toNat < p.length - (i6 i).val.toNat; rw [i6_val (by omega), i6_val (by omega)]; omega)
    · have hc := of_decide_eq_false hc
      rw [List.drop_eq_nil_iff.2 (by omega)] at he
      refine Wp.done ?_
      rw [← he]
      rfl
  · rw [K0_eq]
    show p.length - _ < _
    omega
theorem few_ltb {n : Nat} {X : Type} {l : List X} (h : l.length ≤ LIM) (hn : n < 1000000) (hc : I.ltb (I.of .i64 (n : Int)) (I.ofNat .i64 (lenL l)) = false) : l.length ≤ n := by
  have h : l.length ≤ 140737488355328 := h
  rw [i6_of, i6_ofNat, lenL_eq, i6_ltb (by omega) (by omega)] at hc
  have := of_decide_eq_false hc
  omega
end Sym

/- Payments: the law of sums and of Apply. -/
namespace Sym
open Go
end Sym

/- Payments: what a plan pays, and what the table is behind it. -/
namespace Sym
open Go
theorem sumN_perm {l m : List Nat} (h : l.Perm m) : sumN l = sumN m := by
  induction h with
  | nil => rfl
  | cons x _ ih => simp only [sumN, List.foldr_cons] at *; omega
  | swap x y l => simp only [sumN, List.foldr_cons]; omega
  | trans _ _ ih1 ih2 => exact ih1.trans ih2
theorem ow_iff {p : Post} : ow p = true ↔ dueN p ≠ 0 := by
  unfold ow
  rw [nz_u]
  simp [dueN]
theorem sum_filter (l : List Post) : sumN ((l.filter ow).map dueN) = sumN (l.map dueN) := by
  induction l with
  | nil => rfl
  | cons p l ih =>
    rw [List.filter_cons]
    split
    · simp only [sumN, List.map_cons, List.foldr_cons] at *; omega
    · rename_i h
      have : dueN p = 0 := by
        have := mt ow_iff.2 h
        omega
      simp only [sumN, List.map_cons, List.foldr_cons] at *; omega
noncomputable abbrev ord (x : List Post) : List Post := (sortI x).map (·.1)
theorem ord_sum (x : List Post) : sumN ((ord x).map dueN) = sumN (x.map dueN) := by
  rw [← sum_filter x]
  exact sumN_perm ((sortI_filter x).map dueN)
theorem ord_mem {x : List Post} {p : Post} (h : p ∈ ord x) : p ∈ x ∧ ow p = true := List.mem_filter.1 ((sortI_filter x).mem_iff.1 h)
theorem ord_apart {x : List Post} (hx : TableOk x) : (ord x).Pairwise fun p q => Post.addr p ≠ Post.addr q := by
  have h := (table_iff.1 hx).2.2
  have h2 : (x.filter ow).Pairwise fun p q => Post.addr p ≠ Post.addr q := (h.filter ow).imp fun {p q} hlt e => by rw [e] at hlt; omega
  exact (List.Perm.pairwise_iff (fun {p q} h e => h e.symm) (sortI_filter x)).2 h2
theorem plan_sum : ∀ (o : List Post) (n : Nat), n < U.top → sumN ((planS o n).map amt) = min n (sumN (o.map dueN))
  | [], n, _ => by simp [planS, sumN]
  | p :: r, n, hn => by
    simp only [planS]
    split
    · rename_i h
      subst h
      simp [sumN]
    · have ih := plan_sum r (n - min (dueN p) n) (by omega)
      have hv : (U.of (min (dueN p) n)).val = min (dueN p) n := U.val_of (by omega)
      have : amt (p.addr, (U.of (min (dueN p) n), ())) = min (dueN p) n := hv
      simp only [sumN, List.map_cons, List.foldr_cons, this] at *
      omega
theorem sum_set : ∀ (l : List Post) (k : Nat) (v : Post), k < l.length → sumN ((setAt l k v).map dueN) + dueN (rdL dP l k) = sumN (l.map dueN) + dueN v
  | [], k, v, h => by simp at h
  | p :: l, 0, v, _ => by simp only [setAt, rdL, sumN, List.map_cons, List.foldr_cons]; omega
  | p :: l, k + 1, v, h => by
    have := sum_set l k v (by simpa using h)
    simp only [setAt, rdL, sumN, List.map_cons, List.foldr_cons] at *
    omega
theorem table_at {out : List Post} (h : TableOk out) {p : Post} (hp : p ∈ out) : atN out p.addr < out.length ∧ rdL dP out (atN out p.addr) = p := by
  obtain ⟨k, hk, rfl⟩ := mem_rdL dP hp
  have e : atN out (Post.addr (rdL dP out k)) = k := atN_of hk (iff_eqb.2 rfl) (fun j hj => niff_eqb.2 (by have := h.lt k hk j hj; omega))
  rw [e]
  exact ⟨hk, rfl⟩
theorem table_inj {out : List Post} (h : TableOk out) {i j : Nat} (hi : i < out.length) (hj : j < out.length) (e : Post.addr (rdL dP out i) = Post.addr (rdL dP out j)) : i = j := by
  rcases Nat.lt_trichotomy i j with h1 | h1 | h1
  · have := h.lt j hj i h1; rw [e] at this; omega
  · exact h1
  · have := h.lt i hi j h1; rw [e] at this; omega
theorem apply_plan : ∀ (o : List Post) (n : Nat) (out : List Post), n < U.top → TableOk out → (∀ p ∈ o, p ∈ out ∧ ow p = true) → (o.Pairwise fun p q => Post.addr p ≠ Post.addr q) →
    (applyS out (planS o n)).2 = I.of .i64 4 ∨ ((applyS out (planS o n)).2 = I.of .i64 0 ∧ TableOk (applyS out (planS o n)).1 ∧ (applyS out (planS o n)).1.length = out.length ∧
      (∀ i, Post.addr (rdL dP (applyS out (planS o n)).1 i) = Post.addr (rdL dP out i)) ∧
      sumN ((applyS out (planS o n)).1.map dueN) + sumN ((planS o n).map amt) = sumN (out.map dueN) ∧
      (∀ i, (∀ p ∈ o, Post.addr p ≠ Post.addr (rdL dP out i)) → rdL dP (applyS out (planS o n)).1 i = rdL dP out i) ∧
      (∀ t, t + 1 < (planS o n).length → ∀ i, i < out.length → Post.addr (rdL dP out i) = Post.addr (rdL dP o t) → dueN (rdL dP (applyS out (planS o n)).1 i) = 0))
  | [], n, out, _, ht, _, _ => .inr ⟨rfl, ht, rfl, fun _ => rfl, by simp [planS, applyS, sumN], fun _ _ => rfl, fun t h => by simp [planS] at h⟩
  | p :: r, n, out, hn, ht, hin, hap => by
    by_cases h0 : n = 0
    · subst h0
      rw [planS_zero]
      exact .inr ⟨rfl, ht, rfl, fun _ => rfl, by simp [applyS, sumN], fun _ _ => rfl, fun t h => by simp at h⟩
    · have hpl : planS (p :: r) n = (p.addr, (U.of (min (dueN p) n), ())) :: planS r (n - min (dueN p) n) := if_neg h0
      rw [hpl]
      simp only [applyS]
      have ⟨hk, hkp⟩ := table_at ht (hin p (by simp)).1
      obtain ⟨m, hm⟩ : ∃ m, m = min (dueN p) n := ⟨_, rfl⟩
      rw [← hm]
      have hmv : (U.of m).val = m := U.val_of (by omega)
      have hmd : m ≤ dueN p := by omega
      have hst : settleS out p.addr (U.of m) = if (Post.paid p).val + m < U.top then (setAt out (atN out p.addr) (settled p (U.of m)), I.of .i64 0) else ([], I.of .i64 4) := by
        unfold settleS
        rw [if_pos (tabB_t.2 ht), if_pos hk, hkp, hmv, if_pos (show m ≤ (Post.due p).val from hmd)]
      rw [hst]
      by_cases hpd : (Post.paid p).val + m < U.top
      · rw [if_pos hpd]
        simp only [show (I.of .i64 0).val = 0 from rfl, if_true]
        obtain ⟨k, hkk⟩ : ∃ k, k = atN out p.addr := ⟨_, rfl⟩
        rw [← hkk] at hk hkp ⊢
        have hT : TableOk (setAt out k (settled p (U.of m))) := set_ok ht hk (settled_ok ((table_iff.1 ht).2.1 p (hin p (by simp)).1) (by rw [hmv]; exact hmd) (by rw [hmv]; exact hpd)) (by rw [hkp]; rfl)
        have ⟨hap1, hap2⟩ := List.pairwise_cons.1 hap
        have hlen : (setAt out k (settled p (U.of m))).length = out.length := by rw [setAt_eq, List.length_set]
        have haddr : ∀ i, Post.addr (rdL dP (setAt out k (settled p (U.of m))) i) = Post.addr (rdL dP out i) := by
          intro i
          rw [rdL_set]
          split
          · rename_i e
            rw [e.1, hkp]
            rfl
          · rfl
        have hin' : ∀ q ∈ r, q ∈ setAt out k (settled p (U.of m)) ∧ ow q = true := by
          intro q hq
          have ⟨h1, h2⟩ := hin q (List.mem_cons_of_mem _ hq)
          refine ⟨?_, h2⟩
          obtain ⟨i, hi, e⟩ := mem_rdL dP h1
          have hik : i ≠ k := by
            rintro rfl
            rw [hkp] at e
            exact hap1 q hq (by rw [e])
          have : rdL dP (setAt out k (settled p (U.of m))) i = q := by rw [rdL_set, if_neg (by omega), e]
          rw [← this]
          exact rdL_mem dP _ i (by rw [hlen]; exact hi)
        have hsum := sum_set out k (settled p (U.of m)) hk
        rw [hkp] at hsum
        have hdn : dueN (settled p (U.of m)) = dueN p - m := by
          show (U.of ((Post.due p).val - (U.of m).val)).val = _
          rw [hmv, U.val_of (by have := U.lt (Post.due p); omega)]
          rfl
        have ham : amt (p.addr, (U.of m, ())) = m := hmv
        rcases apply_plan r (n - m) (setAt out k (settled p (U.of m))) (by omega) hT hin' hap2 with h | ⟨g1, g2, g3, g4, g5, g6, g7⟩
        · exact .inl h
        · refine .inr ⟨g1, g2, g3.trans hlen, fun i => (g4 i).trans (haddr i), ?_, fun i hi => ?_, fun t htl i hi he => ?_⟩
          · simp only [List.map_cons, ham]
            have : sumN (m :: (planS r (n - m)).map amt) = m + sumN ((planS r (n - m)).map amt) := rfl
            rw [this]
            omega
          · rw [g6 i (fun q hq => by rw [haddr]; exact hi q (List.mem_cons_of_mem _ hq)), rdL_set, if_neg]
            rintro ⟨rfl, _⟩
            exact hi p (by simp) (by rw [hkp])
          · cases t with
            | zero =>
              
              have hr : 0 < (planS r (n - m)).length := by simpa using htl
              have hmn : m ≠ n := by
                rintro rfl
                rw [Nat.sub_self, planS_zero] at hr
                simp at hr
              have hmd : m = dueN p := by omega
              have hik : i = k := table_inj ht hi hk (by rw [he, hkp]; rfl)
              subst hik
              have hpr : ∀ q ∈ r, Post.addr q ≠ Post.addr (rdL dP (setAt out i (settled p (U.of m))) i) := fun q hq => by
                rw [haddr, hkp]
                exact fun e => hap1 q hq e.symm
              rw [g6 i hpr, rdL_set, if_pos ⟨rfl, hk⟩, hdn]
              omega
            | succ t =>
              exact g7 t (by simpa using htl) i (by rw [hlen]; exact hi) (by rw [haddr]; exact he)
      · rw [if_neg hpd]
        exact .inl rfl
end Sym

/- Payments: a greater pool pays nobody less. -/
namespace Sym
open Go
theorem planR_ok {x : List Post} (hx : TableOk x) (n : U) : planR x n = (planS (ord x) n.val, I.of .i64 0) := if_pos (tabB_t.2 hx)
theorem ord_len (x : List Post) : (ord x).length ≤ x.length := by rw [List.length_map]; exact sortI_len x
end Sym

/- Payments: the oldest debts first. -/
namespace Sym
open Go
end Sym

/- Payments: the payments total the smaller of the pool and the debts. -/
namespace Sym
open Go
end Sym

/- The length of a number in bits. -/
namespace Sym
open Go
theorem shr_natL {l : IntKind} (x : I .u64) (s : I l) (h0 : 0 ≤ s.val) (hs : s.val < 64) : (I.shr x s).nat = x.nat / 2 ^ s.val.toNat := by
  have hx := u64_range x
  have hm : min s.val.toNat IntKind.u64.bits = s.val.toNat := by
    have : IntKind.u64.bits = 64 := rfl
    omega
  unfold I.shr
  rw [hm, fdiv_pos _ _ hx.1]
  have h1 : ((x.nat / 2 ^ s.val.toNat : Nat) : Int) = x.val / (2 : Int) ^ s.val.toNat := by
    rw [Int.natCast_ediv, nat_val]
    simp
  rw [← h1]
  have := Nat.div_le_self x.nat (2 ^ s.val.toNat)
  have := nat_lt x
  exact of_nat (by omega)
def Bits (n k : Nat) : Prop := ∀ m, k ≤ m ↔ n < 2 ^ m
theorem Bits.inj {n j k : Nat} (h : Bits n j) (h2 : Bits n k) : j = k := by
  have a := (h k).2 ((h2 k).1 (Nat.le_refl _))
  have b := (h2 j).2 ((h j).1 (Nat.le_refl _))
  omega
theorem Bits.zero : Bits 0 0 := fun m => ⟨fun _ => Nat.pow_pos (by decide), fun _ => Nat.zero_le _⟩
theorem Bits.up {n k s : Nat} (h : Bits (n / 2 ^ s) k) (h1 : s = 0 ∨ 0 < n / 2 ^ s) : Bits n (k + s) := by
  intro m
  rcases h1 with rfl | h1
  · have := h m
    simpa using this
  · have hk : 1 ≤ k := by
      rcases Nat.eq_zero_or_pos k with h2 | h2
      · subst h2; have := (h 0).1 (Nat.le_refl _); rw [Nat.pow_zero] at this; omega
      · exact h2
    by_cases hm : s ≤ m
    · have e := h (m - s)
      have e2 : n / 2 ^ s < 2 ^ (m - s) ↔ n < 2 ^ m := by
        rw [Nat.div_lt_iff_lt_mul (Nat.pow_pos (by decide)), ← Nat.pow_add]
        rw [show m - s + s = m by omega]
      rw [← e2, ← e]
      omega
    · have : ¬ n < 2 ^ m := by
        intro hn
        have h3 : 2 ^ m ≤ 2 ^ s := Nat.pow_le_pow_right (by decide) (by omega)
        have : n / 2 ^ s = 0 := Nat.div_eq_of_lt (Nat.lt_of_lt_of_le hn h3)
        omega
      constructor
      · omega
      · intro h; exact absurd h this
def tab8 : List Nat := [0, 1, 2, 2, 3, 3, 3, 3, 4, 4, 4, 4, 4, 4, 4, 4, 5, 5, 5, 5, 5, 5, 5, 5, 5, 5, 5, 5, 5, 5, 5, 5, 6, 6, 6, 6, 6, 6, 6, 6, 6, 6, 6, 6, 6, 6, 6, 6, 6, 6, 6, 6, 6, 6, 6, 6, 6, 6, 6, 6, 6, 6, 6, 6, 7, 7, 7, 7, 7, 7, 7, 7, 7, 7, 7, 7, 7, 7, 7, 7, 7, 7, 7, 7, 7, 7, 7, 7, 7, 7, 7, 7, 7, 7, 7, 7, 7, 7, 7, 7, 7, 7, 7, 7, 7, 7, 7, 7, 7, 7, 7, 7, 7, 7, 7, 7, 7, 7, 7, 7, 7, 7, 7, 7, 7, 7, 7, 7, 8, 8, 8, 8, 8, 8, 8, 8, 8, 8, 8, 8, 8, 8, 8, 8, 8, 8, 8, 8, 8, 8, 8, 8, 8, 8, 8, 8, 8, 8, 8, 8, 8, 8, 8, 8, 8, 8, 8, 8, 8, 8, 8, 8, 8, 8, 8, 8, 8, 8, 8, 8, 8, 8, 8, 8, 8, 8, 8, 8, 8, 8, 8, 8, 8, 8, 8, 8, 8, 8, 8, 8, 8, 8, 8, 8, 8, 8, 8, 8, 8, 8, 8, 8, 8, 8, 8, 8, 8, 8, 8, 8, 8, 8, 8, 8, 8, 8, 8, 8, 8, 8, 8, 8, 8, 8, 8, 8, 8, 8, 8, 8, 8, 8, 8, 8, 8, 8, 8, 8, 8, 8, 8, 8, 8, 8, 8, 8]
theorem tab8_eq : KS_0001020203030303_256_633d86 = bytesL tab8 := by kernel_rfl
theorem tab8_ok : ∀ i, i < 256 → rdL 0 tab8 i ≤ 8 ∧ ∀ m, m ≤ 8 → (rdL 0 tab8 i ≤ m ↔ i < 2 ^ m) := by decide +kernel
theorem tab8_bits {i : Nat} (h : i < 256) : Bits i (rdL 0 tab8 i) := by
  intro m
  have ⟨h1, h2⟩ := tab8_ok i h
  by_cases hm : m ≤ 8
  · exact h2 m hm
  · have : 2 ^ 8 ≤ 2 ^ m := Nat.pow_le_pow_right (by decide) (by omega)
    omega
theorem rdL_bytes : ∀ (l : List Nat) (i : Nat), rdL (I.of .u8 0) (bytesL l) i = I.of .u8 ((rdL 0 l i : Nat) : Int)
  | [], _ => rfl
  | _ :: _, 0 => rfl
  | _ :: l, i + 1 => rdL_bytes l i
theorem nat_conv8 (x : I .u64) (h : x.nat < 256) : I.nat (I.conv .u8 x) = x.nat ∧ (I.conv .u8 x).val = x.nat := by
  have hx := nat_val x
  have : (I.conv .u8 x).val = x.val := of_u8 (by omega)
  unfold I.nat at *
  rw [this]
  omega
theorem tab_val {x : I .u64} (h : x.nat < 256) : (I.conv (k := .u8) .i64 (rdL (I.of .u8 0) KS_0001020203030303_256_633d86 (I.nat (I.conv .u8 x)))) = i6 (rdL 0 tab8 x.nat) ∧ inB (I.conv .u8 x) 256 = true := by
  have ⟨h1, h2⟩ := nat_conv8 x h
  have ⟨h3, _⟩ := tab8_ok x.nat h
  constructor
  · rw [h1, tab8_eq, rdL_bytes]
    apply I.ext'
    rw [i6_val (by omega)]
    show (I.of .i64 (I.of .u8 ((rdL 0 tab8 x.nat : Nat) : Int)).val).val = _
    rw [of_u8 (by omega), of_i64 (by omega)]
  · exact iff_inB.2 (by rw [h2]; omega)
theorem leb_nat (n : Nat) (x : I .u64) (h : n < 18446744073709551616) : I.leb (I.of .u64 (n : Int)) x = decide (n ≤ x.nat) := by
  have := nat_val x
  have h2 : (I.of .u64 (n : Int)).val = n := of_u64 ⟨by omega, by omega⟩
  by_cases hc : n ≤ x.nat
  · rw [decide_eq_true hc]; exact iff_leb.2 (by omega)
  · rw [decide_eq_false hc]; exact niff_leb.2 (by omega)
theorem Len64_ok (a : I .u64) : ∃ y, math_bits_Len64 ((a, ()), ()) = some y ∧ ∃ k, y = ((i6 k, ()), ()) ∧ Bits a.nat k ∧ k ≤ 64 := by
  have hb : ∀ k, Bits a.nat k → k ≤ 64 := fun k h => (h 64).2 (by have := nat_lt a; omega)
  refine Wp.out (T := fun o => ∃ y, o = some y ∧ ∃ k, y = ((i6 k, ()), ()) ∧ Bits a.nat k ∧ k ≤ 64) ?_
  unfold math_bits_Len64
  refine Wp.jn (fun s => ∃ x n, s = ((x, (i6 n, ())), ()) ∧ x.nat = a.nat / 2 ^ n ∧ (n = 0 ∨ 0 < x.nat) ∧ n ≤ 32 ∧ x.nat < 4294967296) ?_ ?_
  · rintro s ⟨x, n, rfl, hx, h0, hn, hl⟩
    refine Wp.jn (fun s => ∃ y m, s = ((y, (i6 m, ())), ()) ∧ y.nat = a.nat / 2 ^ m ∧ (m = 0 ∨ 0 < y.nat) ∧ m ≤ 48 ∧ y.nat < 65536) ?_ ?_
    · rintro s ⟨y, m, rfl, hy, h1, hm, hl2⟩
      have e2 : I.of .u64 256 = I.of .u64 ((256 : Nat) : Int) := rfl
      simp only [e2, leb_nat 256 y (by decide)]
      refine Wp.brn (fun hc => ?_) (fun hc => ?_)
      · have hc := of_decide_eq_true hc
        have hs : (I.shr y (I.of .u64 8)).nat = y.nat / 256 := shr_natL y (I.of .u64 8) (by decide) (by decide)
        have hlt : (I.shr y (I.of .u64 8)).nat < 256 := by omega
        have ⟨t1, t2⟩ := tab_val hlt
        have ⟨t3, _⟩ := tab8_ok _ hlt
        refine Wp.brnT t2 ?_
        simp only [t1]
        have e8 : I.of .i64 8 = i6 8 := rfl
        rw [e8, i6_add (by omega), i6_add (by omega)]
        have hB : Bits a.nat (rdL 0 tab8 (I.shr y (I.of .u64 8)).nat + (m + 8)) := by
          refine Bits.up ?_ (.inr ?_)
          · rw [Nat.pow_add, ← Nat.div_div_eq_div_mul, ← hy]
            rw [show y.nat / 2 ^ 8 = (I.shr y (I.of .u64 8)).nat from hs.symm]
            exact tab8_bits hlt
          · rw [Nat.pow_add, ← Nat.div_div_eq_div_mul, ← hy]
            omega
        refine ⟨_, rfl, _, rfl, ?_, hb _ ?_⟩
        · rw [Nat.add_comm]; exact hB
        · rw [Nat.add_comm]; exact hB
      · have hc := of_decide_eq_false hc
        have hlt : y.nat < 256 := by omega
        have ⟨t1, t2⟩ := tab_val hlt
        have ⟨t3, _⟩ := tab8_ok _ hlt
        refine Wp.brnT t2 ?_
        simp only [t1]
        rw [i6_add (by omega)]
        have hB : Bits a.nat (rdL 0 tab8 y.nat + m) := by
          refine Bits.up (by rw [← hy]; exact tab8_bits hlt) (by rw [← hy]; exact h1)
        refine ⟨_, rfl, _, rfl, ?_, hb _ ?_⟩
        · rw [Nat.add_comm]; exact hB
        · rw [Nat.add_comm]; exact hB
    · intro j hj
      have e2 : I.of .u64 65536 = I.of .u64 ((65536 : Nat) : Int) := rfl
      simp only [e2, leb_nat 65536 x (by decide)]
      refine Wp.brn (fun hc => hj _ ?_) (fun hc => hj _ ?_)
      · have hc := of_decide_eq_true hc
        have hs : (I.shr x (I.of .u64 16)).nat = x.nat / 65536 := shr_natL x (I.of .u64 16) (by decide) (by decide)
        refine ⟨_, n + 16, by rw [show I.of .i64 16 = i6 16 from rfl, i6_add (by omega)], ?_, .inr (by rw [hs]; omega), by omega, by rw [hs]; omega⟩
        rw [hs, Nat.pow_add, ← Nat.div_div_eq_div_mul, ← hx]
      · have hc := of_decide_eq_false hc
        exact ⟨x, n, rfl, hx, h0, by omega, by omega⟩
  · intro j hj
    have e2 : I.of .u64 4294967296 = I.of .u64 ((4294967296 : Nat) : Int) := rfl
    have ha := nat_lt a
    simp only [e2, leb_nat 4294967296 a (by decide)]
    refine Wp.brn (fun hc => hj _ ?_) (fun hc => hj _ ?_)
    · have hc := of_decide_eq_true hc
      have hs : (I.shr a (I.of .u64 32)).nat = a.nat / 4294967296 := shr_natL a (I.of .u64 32) (by decide) (by decide)
      exact ⟨_, 32, rfl, hs, .inr (by rw [hs]; omega), by omega, by rw [hs]; omega⟩
    · have hc := of_decide_eq_false hc
      exact ⟨a, 0, rfl, by simp, .inl rfl, by omega, by omega⟩
end Sym

/- Pricer: the length of a number, who is found, shares of units. -/
namespace Sym
open Go
theorem Wp.jnI {X R : Type} {T : R → Prop} {J : X → R} {f : (X → R) → R} (h : Wp T (f J)) : Wp T (Sym.jn J f) := h
theorem u64_nz {x : I .u64} : I.neb x (I.of .u64 0) = decide (x.nat ≠ 0) := by
  have hx := nat_val x
  have h0 : (I.of .u64 0).val = 0 := rfl
  by_cases h : x.nat = 0
  · rw [decide_eq_false (by simpa using h)]; exact niff_neb.2 (by omega)
  · rw [decide_eq_true h]; exact iff_neb.2 (by omega)
theorem BitLen_ok (a : U) : ∃ y, uint256_BitLen ((a, ()), ()) = some y ∧ ∃ k, y = ((i6 k, ()), ()) ∧ Bits a.val k ∧ k ≤ 256 := by
  obtain ⟨k0, hk0⟩ := K0_fiveP
  obtain ⟨z0, z1, z2, z3, ⟨⟩⟩ := a
  have hb : ∀ k, Bits (U.val (z0, z1, z2, z3, ())) k → k ≤ 256 := fun k h => (h 256).2 (U.lt _)
  have l0 := nat_lt z0
  have l1 := nat_lt z1
  have l2 := nat_lt z2
  have l3 := nat_lt z3
  refine Wp.out (T := fun o => ∃ y, o = some y ∧ ∃ k, y = ((i6 k, ()), ()) ∧ Bits (U.val (z0, z1, z2, z3, ())) k ∧ k ≤ 256) ?_
  unfold uint256_BitLen
  have e3 : I.of .i64 3 = i6 3 := rfl
  have fin : ∀ (j : Nat) (z : I .u64), j ≤ 3 → 0 < z.nat → U.val (z0, z1, z2, z3, ()) / 2 ^ (64 * j) = z.nat →
      ∃ y, math_bits_Len64 ((z, ()), ()) = some y ∧ ∃ k, (some ((I.add (I.mul (I.of .i64 64) (i6 j)) y.1.1, ()), ()) : Option (((I .i64) × Unit) × Unit)) = some ((i6 k, ()), ()) ∧ Bits (U.val (z0, z1, z2, z3, ())) k := by
    intro j z hj hz he
    obtain ⟨y, hy, k, rfl, hB, hk⟩ := Len64_ok z
    refine ⟨_, hy, k + 64 * j, ?_, Bits.up (by rw [he]; exact hB) (.inr (by rw [he]; exact hz))⟩
    have hm : I.mul (I.of .i64 64) (i6 j) = i6 (64 * j) := by
      apply I.ext'
      rw [mul_i64 (by rw [i6_val (by omega)]; show _ ≤ (64 : Int) * j ∧ (64 : Int) * j < _; omega), i6_val (by omega), i6_val (by omega)]
      show (64 : Int) * j = _
      omega
    show some ((I.add _ (i6 k), ()), ()) = _
    rw [hm, i6_add (by omega), Nat.add_comm]
  simp only [hk0, e3, u64_nz]
  refine Wp.unroll (Wp.brnT rfl (Wp.brnT rfl (Wp.brn (fun h => Wp.brnT rfl ?_) (fun h => Wp.next ?_))))
  · have h : z3.nat ≠ 0 := of_decide_eq_true h
    obtain ⟨y, hy, k, e, hB⟩ := fin 3 z3 (by omega) (by omega) (by show (z0.nat + 18446744073709551616 * (z1.nat + 18446744073709551616 * (z2.nat + 18446744073709551616 * z3.nat))) / 2 ^ 192 = _; omega)
    exact Wp.optF hy (Wp.stop ⟨_, e, k, rfl, hB, hb k hB⟩)
  have h : ¬ z3.nat ≠ 0 := of_decide_eq_false h
  refine Wp.unroll (Wp.brnT rfl (Wp.brnT rfl (Wp.brn (fun h => Wp.brnT rfl ?_) (fun h => Wp.next ?_))))
  · have h : z2.nat ≠ 0 := of_decide_eq_true h
    obtain ⟨y, hy, k, e, hB⟩ := fin 2 z2 (by omega) (by omega) (by show (z0.nat + 18446744073709551616 * (z1.nat + 18446744073709551616 * (z2.nat + 18446744073709551616 * z3.nat))) / 2 ^ 128 = _; omega)
    exact Wp.optF hy (Wp.stop ⟨_, e, k, rfl, hB, hb k hB⟩)
  have h : ¬ z2.nat ≠ 0 := of_decide_eq_false h
  refine Wp.unroll (Wp.brnT rfl (Wp.brnT rfl (Wp.brn (fun h => Wp.brnT rfl ?_) (fun h => Wp.next ?_))))
  · have h : z1.nat ≠ 0 := of_decide_eq_true h
    obtain ⟨y, hy, k, e, hB⟩ := fin 1 z1 (by omega) (by omega) (by show (z0.nat + 18446744073709551616 * (z1.nat + 18446744073709551616 * (z2.nat + 18446744073709551616 * z3.nat))) / 2 ^ 64 = _; omega)
    exact Wp.optF hy (Wp.stop ⟨_, e, k, rfl, hB, hb k hB⟩)
  have h : ¬ z1.nat ≠ 0 := of_decide_eq_false h
  refine Wp.unroll (Wp.brnT rfl (Wp.brnT rfl (Wp.brn (fun h => Wp.brnT rfl ?_) (fun h => Wp.next ?_))))
  · have h : z0.nat ≠ 0 := of_decide_eq_true h
    obtain ⟨y, hy, k, e, hB⟩ := fin 0 z0 (by omega) (by omega) (by show (z0.nat + 18446744073709551616 * (z1.nat + 18446744073709551616 * (z2.nat + 18446744073709551616 * z3.nat))) / 2 ^ 0 = _; omega)
    exact Wp.optF hy (Wp.stop ⟨_, e, k, rfl, hB, hb k hB⟩)
  have h : ¬ z0.nat ≠ 0 := of_decide_eq_false h
  refine Wp.unroll (Wp.brnF rfl (Wp.stop ?_))
  refine ⟨_, rfl, 0, rfl, ?_, by omega⟩
  have : U.val (z0, z1, z2, z3, ()) = 0 := by show z0.nat + 18446744073709551616 * (z1.nat + 18446744073709551616 * (z2.nat + 18446744073709551616 * z3.nat)) = 0; omega
  rw [this]
  exact Bits.zero
def allocN (units last upto now : I .u64) : Nat := if now.nat = last.nat then units.nat else units.nat * (upto.nat - last.nat) / (now.nat - last.nat)
theorem U_fst0 {n : Nat} (h : n < 18446744073709551616) : (U.of n).1 = I.of .u64 (n : Int) := by
  show I.of .u64 ((n % 18446744073709551616 : Nat) : Int) = _
  rw [Nat.mod_eq_of_lt h]
theorem eqb_nat {x y : I .u64} : I.eqb x y = decide (x.nat = y.nat) := by
  have := nat_val x
  have := nat_val y
  by_cases h : x.nat = y.nat
  · rw [decide_eq_true h]; exact iff_eqb.2 (by omega)
  · rw [decide_eq_false h]; exact niff_eqb.2 (by omega)
theorem sub_nat_le' (a b : I .u64) (h : b.nat ≤ a.nat) : (I.sub a b).nat = a.nat - b.nat := by
  have := nat_val a
  have := nat_val b
  have := sub_u64 (a := a) (b := b) (by omega)
  have := nat_val (I.sub a b)
  omega
theorem allocN_le {units last upto now : I .u64} (h1 : last.nat ≤ upto.nat) (h2 : upto.nat ≤ now.nat) : allocN units last upto now ≤ units.nat := by
  unfold allocN
  split
  · omega
  · refine Nat.div_le_of_le_mul ?_
    rw [Nat.mul_comm]
    exact Nat.mul_le_mul_right _ (by omega)
theorem Alloc_eq (units last upto now : I .u64) (h1 : last.nat ≤ upto.nat) (h2 : upto.nat ≤ now.nat) :
    alloc_Allocate ((units, (last, (upto, (now, ())))), ()) = some ((I.of .u64 (allocN units last upto now : Int), (I.of .i64 0, ())), ()) := by
  have hle := allocN_le (units := units) h1 h2
  have hu := nat_lt units
  refine Wp.out (T := fun o => o = _) ?_
  unfold alloc_Allocate
  refine Wp.jnI (Wp.jnI ?_)
  simp only [ltb_nat]
  refine Wp.brnF (decide_eq_false (by omega)) ?_
  refine Wp.brnF (decide_eq_false (by omega)) ?_
  simp only [eqb_nat]
  refine Wp.brn (fun h => ?_) (fun h => ?_)
  · have h := of_decide_eq_true h
    have : I.of .u64 (allocN units last upto now : Int) = units := by
      unfold allocN
      rw [if_pos h, nat_val]
      exact I.ext' units.ok
    rw [this]
    rfl
  · have h := of_decide_eq_false h
    have d1 := sub_nat_le' upto last h1
    have d2 := sub_nat_le' now last (by omega)
    refine Wp.optF (u256_FromUint64 _) (Wp.optF (u256_FromUint64 _) (Wp.optF (u256_FromUint64 _) ?_))
    refine Wp.optF (MulDiv_ok _ _ _ (by rw [u64U_val, d2]; omega) (by rw [u64U_val, u64U_val, d1, d2]; omega)) ?_
    simp only [u64U_val, d1, d2]
    have e : allocN units last upto now = units.nat * (upto.nat - last.nat) / (now.nat - last.nat) := if_neg h
    rw [e] at hle ⊢
    rw [U_fst0 (by omega)]
    rfl
end Sym

/- Pricer: what its functions compute. -/
namespace Sym
open Go
abbrev PrT : Type := S_api_Pricer
abbrev PrT.price (s : PrT) : U := s.1
abbrev PrT.units (s : PrT) : I .u64 := s.2.1
abbrev PrT.last (s : PrT) : I .u64 := s.2.2.1
abbrev PrT.reports (s : PrT) : I .u64 := s.2.2.2.1
abbrev PrT.surplus (s : PrT) : S := s.2.2.2.2.1
abbrev PrT.posters (s : PrT) : List Post := s.2.2.2.2.2.1
abbrev RepT : Type := S_api_Report
abbrev OutT : Type := S_pricer_Outcome
def Prm.rpu (p : Prm) : U := p.2.2.2.2.2.2.2.1
noncomputable def sinceB (l : List Post) (n : I .u64) : Bool := l.all fun p => decide ((Post.since p).nat ≤ n.nat)
noncomputable def prV (s : PrT) : Bool := sinceB s.posters s.reports && (tabB s.posters && validB s.surplus)
theorem prV_t {s : PrT} : prV s = true ↔ (∀ p ∈ s.posters, (Post.since p).nat ≤ s.reports.nat) ∧ TableOk s.posters ∧ validB s.surplus = true := by
  unfold prV sinceB
  simp only [Bool.and_eq_true, List.all_eq_true, decide_eq_true_eq, tabB_t]
theorem PrValid_eq (s : PrT) (hl : s.posters.length ≤ 1073741824) : pricer_Valid ((s, ()), ()) = some ((prV s, ()), ()) := by
  refine Wp.out (T := fun o => o = _) ?_
  unfold pricer_Valid
  simp only [lenL_eq, i6_ofNat, of64_0, of64_1]
  obtain ⟨l, hl'⟩ : ∃ l, l = s.posters := ⟨_, rfl⟩
  rw [← hl'] at hl
  have e : s.2.2.2.2.2.1 = l := hl'.symm
  simp only [e]
  refine Wp.iter (fun t => ∃ i, t = ((l, (i6 l.length, (i6 i, ()))), (s, ())) ∧ i ≤ l.length ∧ ∀ k, k < i → (Post.since (rdL dP l k)).nat ≤ s.reports.nat) (fun t => l.length - t.1.2.2.1.val.toNat) ?_ ⟨0, rfl, by omega, by intro k hk; omega⟩ ?_
  · rintro t ⟨i, rfl, hi, hinv⟩
    simp only [i6_ltb (show i < 9223372036854775808 by omega) (show l.length < 9223372036854775808 by omega), i6_nat (show i < 9223372036854775808 by omega), i6_add (show i + 1 < 9223372036854775808 by omega)]
    refine Wp.brn (fun hc => ?_) (fun hc => ?_)
    · have hc := of_decide_eq_true hc
      refine Wp.brnT (i6_inB (by omega) (by omega)) ?_
      simp only [ltb_nat]
      refine Wp.brn (fun h => ?_) (fun h => ?_)
      · have h : s.reports.nat < (Post.since (rdL dP l i)).nat := of_decide_eq_true h
        refine Wp.done ?_
        have : prV s = false := by
          cases hv : prV s with
          | false => rfl
          | true =>
            have := (prV_t.1 hv).1 (rdL dP l i) (by rw [← hl']; exact rdL_mem dP _ i hc)
            omega
        rw [this]
        rfl
      · have h : ¬ s.reports.nat < (Post.since (rdL dP l i)).nat := of_decide_eq_false h
        refine Wp.again ⟨i + 1, rfl, by omega, fun k hk => ?_⟩ (by show l.length - (i6 (i + 1)).val.toNat < l.length - (i6 i).val.toNat; rw [i6_val (by omega), i6_val (by omega)]; omega)
        by_cases hki : k = i
        · subst hki; omega
        · exact hinv k (by omega)
    · have hc := of_decide_eq_false hc
      have hs : sinceB s.posters s.reports = true := by
        unfold sinceB
        rw [← hl', List.all_eq_true]
        intro p hp
        obtain ⟨k, hk, rfl⟩ := mem_rdL dP hp
        exact decide_eq_true (hinv k (by omega))
      refine Wp.done (Wp.optF (PValid_eq (l := s.posters) (by rw [← hl']; exact hl)) ?_)
      unfold prV
      rw [hs, Bool.true_and]
      refine Wp.brn (fun h => ?_) (fun h => ?_)
      · have h : tabB s.posters = true := h
        rw [h]
        exact Wp.optF (Valid_eq s.surplus) rfl
      · have h : tabB s.posters = false := h
        rw [h]
        rfl
  · rw [K0_eq]
    show l.length - _ < _
    omega
noncomputable def accrued (p : Post) (c w : U) (since : I .u64) : Post :=
  (p.1, (U.of (p.due.val + (c.val + w.val)), (U.of (p.costs.val + c.val), (U.of (p.rewards.val + w.val), (p.paid, ((if p.due.val = 0 ∧ 0 < p.due.val + (c.val + w.val) then since else p.since), ()))))))
def accFits (p : Post) (c w : U) : Prop := p.due.val + (c.val + w.val) < U.top ∧ p.costs.val + c.val < U.top ∧ p.rewards.val + w.val < U.top
open Classical in
noncomputable def accrueS (l : List Post) (a : I .u64) (c w : U) (since : I .u64) : List Post × I .i64 :=
  if accFits (rdL dP l (atN l a)) c w then (setAt l (atN l a) (accrued (rdL dP l (atN l a)) c w since), I.of .i64 0) else ([], I.of .i64 4)
theorem errS_ok {n : Nat} : I.neb (errS n).2 (I.of .i64 0) = decide (¬ n < U.top) := by
  by_cases h : n < U.top
  · rw [errS_lt h, decide_eq_false (by simpa using h)]; rfl
  · rw [errS_ge (by omega), decide_eq_true h]; rfl
theorem Accrue_eq (l : List Post) (a : I .u64) (c w : U) (since : I .u64) (hT : TableOk l) (hf : atN l a < l.length) (hs : since.nat ≠ 0) :
    poster_Accrue ((l, (a, (c, (w, (since, ()))))), ()) = some (((accrueS l a c w since).1, ((accrueS l a c w since).2, ())), ()) := by
  refine Wp.out (T := fun o => o = _) ?_
  have hl := hT.1
  unfold poster_Accrue accrueS
  have e : atI l a = i6 (atN l a) := if_pos hf
  refine Wp.optF (PFind_eq (l := l) a (by omega)) ?_
  refine Wp.jnI (Wp.jnI ?_)
  refine Wp.optF (PValid_eq (l := l) (by omega)) ?_
  refine Wp.brnF (tab_not hT) ?_
  have e0 : I.eqb since (I.of .u64 0) = false := by rw [eqb_nat]; exact decide_eq_false hs
  refine Wp.brnF e0 ?_
  rw [e]
  generalize atN l a = k at hf ⊢
  simp only [i6_nat (show k < 9223372036854775808 by omega)]
  refine Wp.brnF (by rw [of64_0, i6_ltb (by omega) (by omega)]; exact decide_eq_false (by omega)) ?_
  refine Wp.brnT (i6_inB (by exact hf) (by omega)) ?_
  generalize rdL dP l k = p
  refine Wp.optF (Add_errS c w) (Wp.optF (Add_errS _ _) (Wp.optF (Add_errS _ _) (Wp.optF (Add_errS _ _) (Wp.jnI ?_))))
  simp only [errS_ok]
  refine Wp.brn (fun h => ?_) (fun h => ?_)
  · have h := of_decide_eq_true h
    rw [if_neg (fun hh => by have := hh.1; omega)]
    rfl
  have h := of_decide_eq_false h
  have h1 : c.val + w.val < U.top := by omega
  simp only [errS_lt h1, U.val_of h1]
  refine Wp.brn (fun h => ?_) (fun h => ?_)
  · have h := of_decide_eq_true h
    rw [if_neg (fun hh => by have := hh.1; exact h this)]
    rfl
  have h := of_decide_eq_false h
  have h2 : p.2.1.val + (c.val + w.val) < U.top := by omega
  simp only [errS_lt h2]
  refine Wp.brn (fun h => ?_) (fun h => ?_)
  · have h := of_decide_eq_true h
    rw [if_neg (fun hh => by have := hh.2.1; exact h this)]
    rfl
  have h := of_decide_eq_false h
  have h3 : p.2.2.1.val + c.val < U.top := by omega
  simp only [errS_lt h3]
  refine Wp.brn (fun h => ?_) (fun h => ?_)
  · have h := of_decide_eq_true h
    rw [if_neg (fun hh => by have := hh.2.2; exact h this)]
    rfl
  have h := of_decide_eq_false h
  have h4 : p.2.2.2.1.val + w.val < U.top := by omega
  simp only [errS_lt h4]
  rw [if_pos ⟨h2, h3, h4⟩]
  refine Wp.jnI (Wp.optF (poster_isZero_eq _) ?_)
  have hq : ∀ (q : Post), Wp (fun o => o = some ((setAt l k q, (I.of .i64 0, ())), ())) (optF none (slices_Clone___api_Poster_api_Poster_ ((l, ()), ())) fun y8 => brn (inB (i6 k) (lenL y8.2.1)) (some ((setL y8.2.1 (I.nat (i6 k)) q, (I.of .i64 0, ())), ())) none) := by
    intro q
    refine Wp.optF (Clone_ok l (by omega)) (Wp.brnT (i6_inB (by exact hf) (by omega)) ?_)
    rw [i6_nat (by omega)]
    rfl
  have hd : (U.of (p.2.1.val + (c.val + w.val))).val = p.2.1.val + (c.val + w.val) := U.val_of h2
  refine Wp.brn (fun h => ?_) (fun h => ?_)
  · have h : p.2.1.val = 0 := of_decide_eq_true h
    refine Wp.optF (poster_isZero_eq _) ?_
    refine Wp.brn (fun h' => ?_) (fun h' => ?_)
    · have h' := of_decide_eq_false (bnot_t h')
      rw [hd] at h'
      have e : accrued p c w since = (p.1, (U.of (p.due.val + (c.val + w.val)), (U.of (p.costs.val + c.val), (U.of (p.rewards.val + w.val), (p.paid, (since, ())))))) := by
        unfold accrued; rw [if_pos ⟨h, by show 0 < p.2.1.val + _; omega⟩]
      rw [e]
      have := hq (p.1, (U.of (p.due.val + (c.val + w.val)), (U.of (p.costs.val + c.val), (U.of (p.rewards.val + w.val), (p.paid, (since, ()))))))
      exact this
    · have h' := of_decide_eq_true (bnot_f h')
      rw [hd] at h'
      have e : accrued p c w since = (p.1, (U.of (p.due.val + (c.val + w.val)), (U.of (p.costs.val + c.val), (U.of (p.rewards.val + w.val), (p.paid, (p.since, ())))))) := by
        unfold accrued; rw [if_neg (fun hh => by have := hh.2; have : 0 < p.2.1.val + (c.val + w.val) := this; omega)]
      rw [e]
      exact hq _
  · have h : ¬ p.2.1.val = 0 := of_decide_eq_false h
    have e : accrued p c w since = (p.1, (U.of (p.due.val + (c.val + w.val)), (U.of (p.costs.val + c.val), (U.of (p.rewards.val + w.val), (p.paid, (p.since, ())))))) := by
      unfold accrued; rw [if_neg (fun hh => h hh.1)]
    rw [e]
    exact hq _
end Sym

/- Pricer: a report. -/
namespace Sym
open Go
abbrev RepT.from' (r : RepT) : I .u64 := r.1
abbrev RepT.upto (r : RepT) : I .u64 := r.2.1
abbrev RepT.cost (r : RepT) : U := r.2.2.1
abbrev BITS128 : Nat := 340282366920938463463374607431768211456
noncomputable def checkS (s : PrT) (p : Prm) (r : RepT) (now : I .u64) : I .i64 :=
  if prV s = true then
    if validP p = true then
      if atN s.posters r.from' < s.posters.length then
        if s.last.nat ≤ r.upto.nat ∧ r.upto.nat ≤ now.nat then
          if r.cost.val < BITS128 then
            if s.reports.nat = 18446744073709551615 then I.of .i64 4 else I.of .i64 0
          else I.of .i64 2
        else I.of .i64 14
      else I.of .i64 8
    else I.of .i64 15
  else I.of .i64 2
theorem bits_le {n k : Nat} (h : Bits n k) (hk : k ≤ 256) : I.ltb (I.of .i64 128) (i6 k) = decide (¬ n < BITS128) := by
  have e : I.of .i64 128 = i6 128 := rfl
  rw [e, i6_ltb (by omega) (by omega)]
  have := h 128
  have e2 : (2 : Nat) ^ 128 = BITS128 := by decide
  rw [e2] at this
  by_cases hc : n < BITS128
  · rw [decide_eq_false (by omega), decide_eq_false (by simpa using hc)]
  · rw [decide_eq_true (by omega), decide_eq_true hc]
theorem check_eq (s : PrT) (p : Prm) (r : RepT) (now : I .u64) (hl : s.posters.length ≤ 1073741824) :
    pricer_checkReport ((s, (p, (r, (now, ())))), ()) = some ((checkS s p r now, ()), ()) := by
  refine Wp.out (T := fun o => o = _) ?_
  unfold pricer_checkReport checkS
  refine Wp.optF (PrValid_eq s hl) ?_
  refine Wp.brn (fun h => ?_) (fun h => ?_)
  · have h : prV s = false := bnot_t h
    rw [if_neg (by rw [h]; simp)]; rfl
  have h : prV s = true := bnot_f h
  rw [if_pos h]
  refine Wp.optF (PrmValid_eq p) ?_
  refine Wp.brn (fun h => ?_) (fun h => ?_)
  · have h : validP p = false := bnot_t h
    rw [if_neg (by rw [h]; simp)]; rfl
  have h : validP p = true := bnot_f h
  rw [if_pos h]
  refine Wp.optF (PFind_eq (l := s.posters) r.from' hl) ?_
  rw [show (((atI s.posters r.from', ()), ()) : ((I .i64) × Unit) × Unit).1.1 = atI s.posters r.from' from rfl, atI_neg hl]
  refine Wp.brn (fun h => ?_) (fun h => ?_)
  · rw [if_neg (of_decide_eq_true h)]; rfl
  rw [if_pos (by simpa using of_decide_eq_false h)]
  refine Wp.jnI ?_
  simp only [ltb_nat]
  have fin : ∀ b : Bool, b = decide (¬ (s.last.nat ≤ r.upto.nat ∧ r.upto.nat ≤ now.nat)) → Wp (fun o => o = some (((if s.last.nat ≤ r.upto.nat ∧ r.upto.nat ≤ now.nat then if r.cost.val < BITS128 then if s.reports.nat = 18446744073709551615 then I.of .i64 4 else I.of .i64 0 else I.of .i64 2 else I.of .i64 14), ()), ()))
      (brn b (some ((I.of .i64 14, ()), ())) (optF none (uint256_BitLen ((r.2.2.1, ()), ())) fun y4 => brn (I.ltb (I.of .i64 128) y4.1.1) (some ((I.of .i64 2, ()), ())) (brn (I.eqb s.2.2.2.1 (I.of .u64 18446744073709551615)) (some ((I.of .i64 4, ()), ())) (some ((I.of .i64 0, ()), ()))))) := by
    intro b hb
    subst hb
    refine Wp.brn (fun h => ?_) (fun h => ?_)
    · rw [if_neg (of_decide_eq_true h)]; rfl
    rw [if_pos (Classical.byContradiction (of_decide_eq_false h))]
    refine Wp.call (BitLen_ok r.cost) ?_
    rintro _ ⟨k, rfl, hB, hk⟩
    rw [show (((i6 k, ()), ()) : ((I .i64) × Unit) × Unit).1.1 = i6 k from rfl, bits_le hB hk]
    refine Wp.brn (fun h => ?_) (fun h => ?_)
    · rw [if_neg (of_decide_eq_true h)]; rfl
    rw [if_pos (Classical.byContradiction (of_decide_eq_false h))]
    simp only [eqb_nat]
    have e0 : (I.of .u64 18446744073709551615).nat = 18446744073709551615 := rfl
    rw [e0]
    refine Wp.brn (fun h => ?_) (fun h => ?_)
    · rw [if_pos (of_decide_eq_true h)]; rfl
    rw [if_neg (of_decide_eq_false h)]; rfl
  refine Wp.brn (fun h => ?_) (fun h => ?_)
  · exact fin true (decide_eq_true (by have : r.upto.nat < s.last.nat := of_decide_eq_true h; omega)).symm
  · refine fin _ ?_
    have : ¬ r.upto.nat < s.last.nat := of_decide_eq_false h
    show decide (now.nat < r.upto.nat) = _
    rw [decide_eq_decide]
    omega
noncomputable abbrev zPr : PrT := (Z_U, ((I.of .u64 0), ((I.of .u64 0), ((I.of .u64 0), (Z_S_api_Int256, ([], ()))))))
noncomputable abbrev zOut : OutT := (I.of .u64 0, (Z_U, ([], ())))
def repN (s : PrT) (r : RepT) (now : I .u64) : Nat := allocN s.units s.last r.upto now
theorem allocate_eq (s : PrT) (p : Prm) (r : RepT) (now : I .u64) (h1 : s.last.nat ≤ r.upto.nat) (h2 : r.upto.nat ≤ now.nat) :
    pricer_allocate ((s, (p, (r, (now, ())))), ()) = some (if p.rpu.val * repN s r now < U.top then ((I.of .u64 (repN s r now : Int), (U.of (p.rpu.val * repN s r now), ([], ()))), (I.of .i64 0, ())) else (zOut, (I.of .i64 4, ())), ()) := by
  have hle := allocN_le (units := s.units) h1 h2
  have hu := nat_lt s.units
  refine Wp.out (T := fun o => o = _) ?_
  unfold pricer_allocate repN
  refine Wp.optF (Alloc_eq s.units s.last r.upto now h1 h2) ?_
  refine Wp.brnF rfl ?_
  refine Wp.optF (u256_FromUint64 _) (Wp.optF (Mul_ok _ _) ?_)
  have e : (u64U (I.of .u64 (allocN s.units s.last r.upto now : Int))).val = allocN s.units s.last r.upto now := by rw [u64U_val]; exact of_nat (by omega)
  simp only [e]
  have e2 : p.2.2.2.2.2.2.2.1 = p.rpu := rfl
  rw [e2, errS_ok]
  refine Wp.brn (fun h => ?_) (fun h => ?_)
  · rw [if_neg (of_decide_eq_true h)]
    have := of_decide_eq_true h
    rw [errS_ge (by omega)]
    rfl
  · have h := of_decide_eq_false h
    have h : p.rpu.val * allocN s.units s.last r.upto now < U.top := by omega
    rw [if_pos h, errS_lt h]
    rfl
noncomputable def surpS (pool : U) (l : List Post) (pay : List Pay) : S := S.of (((pool.val - sumN (pay.map amt) : Nat) : Int) - (sumN (l.map dueN) : Int))
theorem Surplus_eq (a b : U) : l1price_Surplus ((a, (b, ())), ()) = some ((S.of ((a.val : Int) - b.val), ()), ()) := by
  refine Wp.out (T := fun o => o = _) ?_
  unfold l1price_Surplus
  exact Wp.optF (Diff_eq a b) rfl
open Classical in
noncomputable def adjustS (s : PrT) (p : Prm) (pool : U) (t : OutT) : PrT × I .i64 :=
  if sumN (s.posters.map dueN) < U.top then
    if t.1.nat = 0 then (s, I.of .i64 0)
    else if I.neb (nextS s.price (surpS pool s.posters t.2.2.1) s.surplus t.1 p).2 (I.of .i64 0) = true then (zPr, (nextS s.price (surpS pool s.posters t.2.2.1) s.surplus t.1 p).2)
    else (((nextS s.price (surpS pool s.posters t.2.2.1) s.surplus t.1 p).1, (s.units, (s.last, (s.reports, (surpS pool s.posters t.2.2.1, (s.posters, ())))))), I.of .i64 0)
  else (zPr, I.of .i64 4)
theorem adjust_eq (s : PrT) (p : Prm) (pool : U) (t : OutT) (hT : TableOk s.posters) (hp : t.2.2.1.length ≤ 1073741824) (hs : sumN (t.2.2.1.map amt) < U.top) :
    pricer_adjust ((s, (p, (pool, (t, ())))), ()) = some (((adjustS s p pool t).1, ((adjustS s p pool t).2, ())), ()) := by
  have hl := hT.1
  refine Wp.out (T := fun o => o = _) ?_
  unfold pricer_adjust adjustS
  refine Wp.optF (PSum_eq hp) ?_
  simp only [errS_lt hs]
  refine Wp.brnF rfl ?_
  have hd := TotalDue_eq (l := s.posters) (by omega)
  rw [if_pos (tabB_t.2 hT)] at hd
  refine Wp.optF hd ?_
  simp only [errS_ok]
  refine Wp.brn (fun h => ?_) (fun h => ?_)
  · have h := of_decide_eq_true h
    rw [if_neg h, errS_ge (by omega)]
    rfl
  have h := of_decide_eq_false h
  have hsd : sumN (s.posters.map dueN) < U.top := by omega
  rw [if_pos hsd, errS_lt hsd]
  simp only [eqb_nat]
  have e0 : (I.of .u64 0).nat = 0 := rfl
  rw [e0]
  refine Wp.brn (fun h => ?_) (fun h => ?_)
  · rw [if_pos (of_decide_eq_true h)]; rfl
  rw [if_neg (of_decide_eq_false h)]
  refine Wp.optF (SatSub_ok _ _) (Wp.optF (Surplus_eq _ _) ?_)
  have e1 : S.of (((U.of (pool.val - (U.of (sumN (t.2.2.1.map amt))).val)).val : Int) - ((U.of (sumN (s.posters.map dueN))).val : Int)) = surpS pool s.posters t.2.2.1 := by
    unfold surpS
    rw [U.val_of hs, U.val_of hsd, U.val_of (by have := pool.lt; omega)]
  simp only [e1]
  refine Wp.optF (Next_eq _ _ _ _ _) ?_
  refine Wp.brn (fun h => ?_) (fun h => ?_)
  · rw [if_pos h]; rfl
  · rw [if_neg (by rw [show I.neb (nextS s.price (surpS pool s.posters t.2.2.1) s.surplus t.1 p).2 (I.of .i64 0) = false from h]; simp)]; 
    have h := niff_neb.1 h
    have h : (nextS s.price (surpS pool s.posters t.2.2.1) s.surplus t.1 p).2 = I.of .i64 0 := I.ext' h
    rfl
end Sym

/- Pricer: a report as a whole. -/
namespace Sym
open Go
theorem deltaZ_cases {n o : Int} {u E J : Nat} : ((deltaZ n o u E J).2 = I.of .i64 4 ∨ (deltaZ n o u E J).2 = I.of .i64 0) ∧ validB (deltaZ n o u E J).1 = true := by
  have h0 : validB (S.of 0) = true := S.of_valid (by decide)
  unfold deltaZ
  split
  · split
    · split
      · rename_i h
        exact ⟨.inr rfl, S.of_valid (Nat.lt_of_le_of_lt (Int.natAbs_ediv_le_natAbs _ _) h)⟩
      · exact ⟨.inl rfl, h0⟩
    · exact ⟨.inl rfl, h0⟩
  · exact ⟨.inl rfl, h0⟩
theorem errS_cases (n : Nat) : (errS n).2 = I.of .i64 4 ∨ (errS n).2 = I.of .i64 0 := by
  unfold errS; split
  · exact .inr rfl
  · exact .inl rfl
theorem next_err {c : U} {a b : S} {u : I .u64} {p : Prm} (hp : validP p = true) (ha : validB a = true) (hb : validB b = true) : (nextS c a b u p).2 = I.of .i64 4 ∨ (nextS c a b u p).2 = I.of .i64 0 := by
  unfold nextS
  rw [if_pos hp, if_pos ha, if_pos hb]
  split
  · exact .inr rfl
  · rename_i hu
    rw [deltaS_t hp ha hb hu]
    have ⟨h1, h2⟩ := deltaZ_cases (n := a.int) (o := b.int) (u := u.nat) (E := (Prm.eq p).nat) (J := (Prm.inertia p).nat)
    split
    · exact h1
    · unfold clampS
      rw [if_pos h2]
      split
      · exact .inr rfl
      · exact errS_cases _
theorem accrueS_ok {l : List Post} {a : I .u64} {c w : U} {since : I .u64} (hT : TableOk l) (hf : atN l a < l.length) (hs : since.nat ≠ 0) :
    ((accrueS l a c w since).2 = I.of .i64 4 ∧ (accrueS l a c w since).1 = []) ∨
    ((accrueS l a c w since).2 = I.of .i64 0 ∧ accFits (rdL dP l (atN l a)) c w ∧ (accrueS l a c w since).1 = setAt l (atN l a) (accrued (rdL dP l (atN l a)) c w since) ∧ TableOk (accrueS l a c w since).1) := by
  unfold accrueS
  split
  · rename_i h
    refine .inr ⟨rfl, h, rfl, ?_⟩
    have hv := nat_val since
    refine set_ok hT hf ?_ rfl
    refine accrued_ok (hT.2 _ hf).1 c w since (by omega) h.1 h.2.1 h.2.2 _ ?_
    by_cases hd : (Post.due (rdL dP l (atN l a))).val = 0 ∧ 0 < (Post.due (rdL dP l (atN l a))).val + (c.val + w.val)
    · rw [if_pos hd]; exact .inl ⟨rfl, hd.1, hd.2⟩
    · rw [if_neg hd]; exact .inr ⟨rfl, hd⟩
  · exact .inl ⟨rfl, rfl⟩
noncomputable def repTab (s : PrT) (p : Prm) (r : RepT) (now : I .u64) : List Post × I .i64 := accrueS s.posters r.from' r.cost (U.of (p.rpu.val * repN s r now)) (I.add s.reports (I.of .u64 1))
noncomputable def repPay (l : List Post) (pool : U) : List Pay := planS (ord l) pool.val
noncomputable def repMid (s : PrT) (l : List Post) : PrT := (s.price, (s.units, (s.last, (I.add s.reports (I.of .u64 1), (s.surplus, (l, ()))))))
noncomputable def repOut (s : PrT) (p : Prm) (r : RepT) (now : I .u64) (pay : List Pay) : OutT := (I.of .u64 (repN s r now : Int), (U.of (p.rpu.val * repN s r now), (pay, ())))
noncomputable def repFin (s : PrT) (n : Nat) (r : RepT) (q : PrT) : PrT := (q.1, (I.sub q.2.1 (I.of .u64 (n : Int)), (r.upto, q.2.2.2)))
noncomputable def reportS (s : PrT) (p : Prm) (pool : U) (r : RepT) (now : I .u64) : PrT × OutT × I .i64 :=
  if (checkS s p r now).val = 0 then
    if p.rpu.val * repN s r now < U.top then
      if (repTab s p r now).2.val = 0 then
        if (applyS (repTab s p r now).1 (repPay (repTab s p r now).1 pool)).2.val = 0 then
          if (adjustS (repMid s (applyS (repTab s p r now).1 (repPay (repTab s p r now).1 pool)).1) p pool (repOut s p r now (repPay (repTab s p r now).1 pool))).2.val = 0 then
            (repFin s (repN s r now) r (adjustS (repMid s (applyS (repTab s p r now).1 (repPay (repTab s p r now).1 pool)).1) p pool (repOut s p r now (repPay (repTab s p r now).1 pool))).1, repOut s p r now (repPay (repTab s p r now).1 pool), I.of .i64 0)
          else (zPr, zOut, I.of .i64 4)
        else (zPr, zOut, I.of .i64 4)
      else (zPr, zOut, I.of .i64 4)
    else (zPr, zOut, I.of .i64 4)
  else (zPr, zOut, checkS s p r now)
structure Chk (s : PrT) (p : Prm) (r : RepT) (now : I .u64) : Prop where
  since : ∀ q ∈ s.posters, (Post.since q).nat ≤ s.reports.nat
  tab : TableOk s.posters
  sur : validB s.surplus = true
  par : validP p = true
  fnd : atN s.posters r.from' < s.posters.length
  lo : s.last.nat ≤ r.upto.nat
  hi : r.upto.nat ≤ now.nat
  cost : r.cost.val < BITS128
  cnt : s.reports.nat < 18446744073709551615
theorem check_zero {s : PrT} {p : Prm} {r : RepT} {now : I .u64} (h : (checkS s p r now).val = 0) : Chk s p r now := by
  unfold checkS at h
  split at h
  · rename_i h1
    split at h
    · rename_i h2
      split at h
      · rename_i h3
        split at h
        · rename_i h4
          split at h
          · rename_i h5
            split at h
            · exact absurd h (by decide)
            · rename_i h6
              have ⟨a, b, c⟩ := prV_t.1 h1
              have := nat_lt s.reports
              exact ⟨a, b, c, h2, h3, h4.1, h4.2, h5, by omega⟩
          · exact absurd h (by decide)
        · exact absurd h (by decide)
      · exact absurd h (by decide)
    · exact absurd h (by decide)
  · exact absurd h (by decide)
theorem check_of {s : PrT} {p : Prm} {r : RepT} {now : I .u64} (h : Chk s p r now) : (checkS s p r now).val = 0 := by
  unfold checkS
  rw [if_pos (prV_t.2 ⟨h.since, h.tab, h.sur⟩), if_pos h.par, if_pos h.fnd, if_pos ⟨h.lo, h.hi⟩, if_pos h.cost, if_neg (by have := h.cnt; omega)]
  rfl
theorem rep_count {s : PrT} {p : Prm} {r : RepT} {now : I .u64} (h : Chk s p r now) : (I.add s.reports (I.of .u64 1)).nat = s.reports.nat + 1 := by
  have := h.cnt
  have := nat_val s.reports
  have h1 : (I.of .u64 1).val = 1 := rfl
  have := add_u64 (a := s.reports) (b := I.of .u64 1) (by omega)
  have := nat_val (I.add s.reports (I.of .u64 1))
  omega
theorem repPay_len (l : List Post) (pool : U) : (repPay l pool).length ≤ l.length := Nat.le_trans (planS_len _ _) (ord_len l)
theorem repPay_sum (l : List Post) (pool : U) : sumN ((repPay l pool).map amt) = min pool.val (sumN (l.map dueN)) := by
  unfold repPay
  rw [plan_sum (ord l) pool.val pool.lt, ord_sum]
theorem rep_apply {l : List Post} (hT : TableOk l) (pool : U) :
    (applyS l (repPay l pool)).2 = I.of .i64 4 ∨ ((applyS l (repPay l pool)).2 = I.of .i64 0 ∧ TableOk (applyS l (repPay l pool)).1 ∧ (applyS l (repPay l pool)).1.length = l.length ∧
      (∀ i, Post.addr (rdL dP (applyS l (repPay l pool)).1 i) = Post.addr (rdL dP l i)) ∧ sumN ((applyS l (repPay l pool)).1.map dueN) + sumN ((repPay l pool).map amt) = sumN (l.map dueN)) := by
  rcases apply_plan (ord l) pool.val l pool.lt hT (fun p hp => ord_mem hp) (ord_apart hT) with h | ⟨h1, h2, h3, h4, h5, _, _⟩
  · exact .inl h
  · exact .inr ⟨h1, h2, h3, h4, h5⟩
theorem four_ne : (I.of .i64 4).val ≠ 0 := by decide
theorem i64_zero {e : I .i64} (h : e.val = 0) : e = I.of .i64 0 := I.ext' h
theorem Report_eq (s : PrT) (p : Prm) (pool : U) (r : RepT) (now : I .u64) (hl : s.posters.length ≤ 1073741824) :
    pricer_Report ((s, (p, (pool, (r, (now, ()))))), ()) = some (((reportS s p pool r now).1, ((reportS s p pool r now).2.1, ((reportS s p pool r now).2.2, ()))), ()) := by
  refine Wp.out (T := fun o => o = _) ?_
  unfold pricer_Report reportS
  refine Wp.optF (check_eq s p r now hl) ?_
  refine Wp.brn (fun h => ?_) (fun h => ?_)
  · have h : ¬ (checkS s p r now).val = 0 := iff_neb.1 h
    rw [if_neg h]
    rfl
  have h0 : (checkS s p r now).val = 0 := niff_neb.1 h
  rw [if_pos h0]
  have hC := check_zero h0
  refine Wp.optF (allocate_eq s p r now hC.lo hC.hi) (Wp.jnI ?_)
  by_cases hw : p.rpu.val * repN s r now < U.top
  case neg =>
    simp only [if_neg hw]
    exact Wp.brnF rfl (Wp.jnI (Wp.brnF rfl (Wp.jnI (Wp.brnF rfl (Wp.jnI (Wp.brnF rfl (Wp.brnT rfl rfl)))))))
  simp only [if_pos hw]
  refine Wp.brnT rfl ?_
  have hcnt := rep_count hC
  refine Wp.optF (Accrue_eq s.posters r.from' r.cost _ _ hC.tab hC.fnd (by rw [hcnt]; omega)) ?_
  have hA := accrueS_ok (c := r.cost) (w := U.of (p.rpu.val * repN s r now)) (since := I.add s.reports (I.of .u64 1)) hC.tab hC.fnd (by rw [hcnt]; omega)
  have hL : accrueS s.posters r.from' r.cost (U.of (p.rpu.val * repN s r now)) (I.add s.reports (I.of .u64 1)) = repTab s p r now := rfl
  rw [hL] at hA ⊢
  rcases hA with ⟨hA, _⟩ | ⟨hA, _, _, hT⟩
  · rw [if_neg (by rw [hA]; exact four_ne)]
    simp only [hA]
    exact Wp.jnI (Wp.brnF rfl (Wp.jnI (Wp.brnF rfl (Wp.jnI (Wp.brnF rfl (Wp.brnT rfl rfl))))))
  rw [if_pos (by rw [hA]; rfl)]
  simp only [hA]
  refine Wp.jnI (Wp.brnT rfl ?_)
  generalize (repTab s p r now).1 = l at hT ⊢
  have hl64 := hT.1
  have hP := PPlan_eq l pool (by omega)
  rw [planR_ok hT pool] at hP
  refine Wp.optF hP (Wp.jnI (Wp.brnT rfl ?_))
  have hpl := repPay_len l pool
  refine Wp.optF (PApply_eq l (planS (ord l) pool.val) (by omega) (by show (repPay l pool).length ≤ _; omega)) ?_
  rw [show planS (ord l) pool.val = repPay l pool from rfl]
  rcases rep_apply hT pool with hB | ⟨hB, hT2, _, _, _⟩
  · rw [if_neg (by rw [hB]; exact four_ne)]
    simp only [hB]
    exact Wp.jnI (Wp.brnF rfl (Wp.brnT rfl rfl))
  rw [if_pos (by rw [hB]; rfl)]
  simp only [hB]
  refine Wp.jnI (Wp.brnT rfl ?_)
  have hsum := repPay_sum l pool
  have hpo := pool.lt
  refine Wp.optF (adjust_eq (repMid s (applyS l (repPay l pool)).1) p pool (repOut s p r now (repPay l pool)) hT2 (by show (repPay l pool).length ≤ _; omega) (by show sumN ((repPay l pool).map amt) < _; omega)) ?_
  have hE : (adjustS (repMid s (applyS l (repPay l pool)).1) p pool (repOut s p r now (repPay l pool))).2 = I.of .i64 4 ∨ (adjustS (repMid s (applyS l (repPay l pool)).1) p pool (repOut s p r now (repPay l pool))).2 = I.of .i64 0 := by
    unfold adjustS
    split
    · rename_i hd
      split
      · exact .inr rfl
      · split
        · refine next_err hC.par (S.of_valid ?_) hC.sur
          show (((pool.val - sumN ((repPay l pool).map amt) : Nat) : Int) - (sumN ((applyS l (repPay l pool)).1.map dueN) : Int)).natAbs < U.top
          have hd : sumN ((applyS l (repPay l pool)).1.map dueN) < U.top := hd
          omega
        · exact .inr rfl
    · exact .inl rfl
  rcases hE with hE | hE
  · rw [if_neg (by rw [hE]; exact four_ne)]
    simp only [hE]
    exact Wp.brnT rfl rfl
  · rw [if_pos (by rw [hE]; rfl)]
    simp only [hE]
    exact Wp.brnF rfl rfl
end Sym

/- Pricer: posters and units added. -/
namespace Sym
open Go
noncomputable def newP (a : I .u64) : Post := (a, (Z_U, (Z_U, (Z_U, (Z_U, ((I.of .u64 0), ()))))))
noncomputable def addUnitsS (s : PrT) (n : I .u64) : PrT × I .i64 :=
  if prV s = true then
    if s.units.nat + n.nat < 18446744073709551616 then ((s.price, (I.of .u64 ((s.units.nat + n.nat : Nat) : Int), s.2.2)), I.of .i64 0)
    else (zPr, I.of .i64 4)
  else (zPr, I.of .i64 2)
theorem AddUnits_eq (s : PrT) (n : I .u64) (hl : s.posters.length ≤ 1073741824) : pricer_AddUnits ((s, (n, ())), ()) = some (((addUnitsS s n).1, ((addUnitsS s n).2, ())), ()) := by
  refine Wp.out (T := fun o => o = _) ?_
  unfold pricer_AddUnits addUnitsS
  refine Wp.optF (PrValid_eq s hl) ?_
  refine Wp.brn (fun h => ?_) (fun h => ?_)
  · have h : prV s = false := bnot_t h
    rw [if_neg (by rw [h]; simp)]; rfl
  have h : prV s = true := bnot_f h
  rw [if_pos h]
  obtain ⟨z, q, hz, hv, hq⟩ := add64_nat s.units n (I.of .u64 0) (by decide)
  have hv : z.nat + 18446744073709551616 * q.nat = s.units.nat + n.nat := hv
  have hzl := nat_lt z
  refine Wp.optF hz ?_
  simp only [u64_nz]
  refine Wp.brn (fun h => ?_) (fun h => ?_)
  · have h := of_decide_eq_true h
    rw [if_neg (by omega)]; rfl
  · have h := of_decide_eq_false h
    rw [if_pos (by omega)]
    have e : z = I.of .u64 ((s.units.nat + n.nat : Nat) : Int) := by
      have : s.units.nat + n.nat = z.nat := by omega
      rw [this, nat_val]
      exact (I.ext' z.ok).symm
    have hc : pricer_cloned ((s, ()), ()) = some ((s, ()), ()) := by
      refine Wp.out (T := fun o => o = _) ?_
      unfold pricer_cloned
      exact Wp.optF (Clone_ok s.posters hl) rfl
    refine Wp.optF hc ?_
    rw [← e]
    rfl
end Sym

/- Pricer: what an accepted report has done. -/
namespace Sym
open Go
theorem applyS_all {Q : Post → Prop} (hQ : ∀ p n, Q p → Q (settled p n)) : ∀ (ps : List Pay) (l : List Post), (∀ q ∈ l, Q q) → ∀ q ∈ (applyS l ps).1, Q q
  | [], l, h => h
  | y :: ps, l, h => by
    simp only [applyS]
    split
    · refine applyS_all hQ ps _ fun q hq => ?_
      unfold settleS at hq
      split at hq
      · split at hq
        · split at hq
          · split at hq
            · obtain ⟨i, hi, rfl⟩ := mem_rdL dP hq
              rw [rdL_set]
              split
              · rename_i hk _ _ _
                exact hQ _ _ (h _ (rdL_mem dP l _ hk))
              · refine h _ (rdL_mem dP l _ ?_)
                have : (setAt l (atN l y.1) (settled (rdL dP l (atN l y.1)) y.2.1)).length = l.length := by rw [setAt_eq, List.length_set]
                rw [← this]; exact hi
            · cases hq
          · cases hq
        · cases hq
      · cases hq
    · intro q hq; cases hq
theorem applyS_at {R : Post → Post → Prop} (hr : ∀ p, R p p) (ht : ∀ p q r, R p q → R q r → R p r) (hR : ∀ p n, R (settled p n) p) : ∀ (ps : List Pay) (l : List Post), (applyS l ps).2.val = 0 → ∀ i, R (rdL dP (applyS l ps).1 i) (rdL dP l i)
  | [], l, _, i => hr _
  | y :: ps, l, h, i => by
    simp only [applyS] at h ⊢
    split
    · rename_i h0
      rw [if_pos h0] at h
      refine ht _ _ _ (applyS_at hr ht hR ps _ h i) ?_
      unfold settleS at h0 ⊢
      split at h0
      · split at h0
        · split at h0
          · split at h0
            · rename_i a b c d
              rw [if_pos a, if_pos b, if_pos c, if_pos d]
              show R (rdL dP (setAt l _ _) i) _
              rw [rdL_set]
              split
              · rename_i e; rw [e.1]; exact hR _ _
              · exact hr _
            · exact absurd h0 four_ne
          · exact absurd h0 (by decide)
        · exact absurd h0 (by decide)
      · exact absurd h0 (by decide)
    · rename_i h0
      rw [if_neg h0] at h
      exact absurd h h0
noncomputable def repL1 (s : PrT) (p : Prm) (r : RepT) (now : I .u64) : List Post :=
  setAt s.posters (atN s.posters r.from') (accrued (rdL dP s.posters (atN s.posters r.from')) r.cost (U.of (p.rpu.val * repN s r now)) (I.add s.reports (I.of .u64 1)))
structure RepOk (s : PrT) (p : Prm) (pool : U) (r : RepT) (now : I .u64) (x : PrT) (t : OutT) : Prop where
  chk : Chk s p r now
  w : p.rpu.val * repN s r now < U.top
  fits : accFits (rdL dP s.posters (atN s.posters r.from')) r.cost (U.of (p.rpu.val * repN s r now))
  tab1 : TableOk (repL1 s p r now)
  ap : (applyS (repL1 s p r now) (repPay (repL1 s p r now) pool)).2.val = 0
  tab2 : TableOk x.posters
  len : x.posters.length = s.posters.length
  addr : ∀ i, Post.addr (rdL dP x.posters i) = Post.addr (rdL dP s.posters i)
  posters : x.posters = (applyS (repL1 s p r now) (repPay (repL1 s p r now) pool)).1
  due : sumN (x.posters.map dueN) + sumN ((repPay (repL1 s p r now) pool).map amt) = sumN ((repL1 s p r now).map dueN)
  total : sumN (x.posters.map dueN) < U.top
  units : x.units = I.sub s.units (I.of .u64 (repN s r now : Int))
  last : x.last = r.upto
  reports : x.reports = I.add s.reports (I.of .u64 1)
  surplus : x.surplus = (if repN s r now = 0 then s.surplus else surpS pool x.posters (repPay (repL1 s p r now) pool))
  price : x.price = (if repN s r now = 0 then s.price else (nextS s.price (surpS pool x.posters (repPay (repL1 s p r now) pool)) s.surplus (I.of .u64 (repN s r now : Int)) p).1)
  out : t = repOut s p r now (repPay (repL1 s p r now) pool)
theorem rep_zero_lt {s : PrT} {p : Prm} {r : RepT} {now : I .u64} (h : Chk s p r now) : repN s r now ≤ s.units.nat ∧ (I.of .u64 (repN s r now : Int)).nat = repN s r now := by
  have h1 := allocN_le (units := s.units) h.lo h.hi
  have h2 := nat_lt s.units
  exact ⟨h1, of_nat (by unfold repN; omega)⟩
theorem rep_ok {s : PrT} {p : Prm} {pool : U} {r : RepT} {now : I .u64} (h : (reportS s p pool r now).2.2.val = 0) : RepOk s p pool r now (reportS s p pool r now).1 (reportS s p pool r now).2.1 := by
  unfold reportS at h ⊢
  by_cases h0 : (checkS s p r now).val = 0
  case neg => rw [if_neg h0] at h; exact absurd h h0
  rw [if_pos h0] at h ⊢
  have hC := check_zero h0
  by_cases hw : p.rpu.val * repN s r now < U.top
  case neg => rw [if_neg hw] at h; exact absurd h four_ne
  rw [if_pos hw] at h ⊢
  have hcnt := rep_count hC
  have ⟨hn1, hn2⟩ := rep_zero_lt hC
  have hA := accrueS_ok (c := r.cost) (w := U.of (p.rpu.val * repN s r now)) (since := I.add s.reports (I.of .u64 1)) hC.tab hC.fnd (by rw [hcnt]; omega)
  rw [show accrueS s.posters r.from' r.cost (U.of (p.rpu.val * repN s r now)) (I.add s.reports (I.of .u64 1)) = repTab s p r now from rfl] at hA
  rcases hA with ⟨hA, _⟩ | ⟨hA, hfit, hl1, hT⟩
  · rw [if_neg (by rw [hA]; exact four_ne)] at h; exact absurd h four_ne
  rw [if_pos (by rw [hA]; rfl)] at h ⊢
  have hl1 : (repTab s p r now).1 = repL1 s p r now := hl1
  rw [hl1] at h ⊢
  rw [hl1] at hT
  rcases rep_apply hT pool with hB | ⟨hB, hT2, hlen, hadr, hdue⟩
  · rw [if_neg (by rw [hB]; exact four_ne)] at h; exact absurd h four_ne
  have hB0 : (applyS (repL1 s p r now) (repPay (repL1 s p r now) pool)).2.val = 0 := by rw [hB]; rfl
  rw [if_pos hB0] at h ⊢
  have hl0 : (repL1 s p r now).length = s.posters.length := by unfold repL1; rw [setAt_eq, List.length_set]
  have ha0 : ∀ i, Post.addr (rdL dP (repL1 s p r now) i) = Post.addr (rdL dP s.posters i) := by
    intro i
    unfold repL1
    rw [rdL_set]
    split
    · rename_i e; rw [e.1]; rfl
    · rfl
  by_cases hD : (adjustS (repMid s (applyS (repL1 s p r now) (repPay (repL1 s p r now) pool)).1) p pool (repOut s p r now (repPay (repL1 s p r now) pool))).2.val = 0
  case neg => rw [if_neg hD] at h; exact absurd h four_ne
  rw [if_pos hD] at h ⊢
  have key : sumN ((applyS (repL1 s p r now) (repPay (repL1 s p r now) pool)).1.map dueN) < U.top ∧
      (adjustS (repMid s (applyS (repL1 s p r now) (repPay (repL1 s p r now) pool)).1) p pool (repOut s p r now (repPay (repL1 s p r now) pool))).1 =
        ((if repN s r now = 0 then s.price else (nextS s.price (surpS pool (applyS (repL1 s p r now) (repPay (repL1 s p r now) pool)).1 (repPay (repL1 s p r now) pool)) s.surplus (I.of .u64 (repN s r now : Int)) p).1),
          (s.units, (s.last, (I.add s.reports (I.of .u64 1), ((if repN s r now = 0 then s.surplus else surpS pool (applyS (repL1 s p r now) (repPay (repL1 s p r now) pool)).1 (repPay (repL1 s p r now) pool)), ((applyS (repL1 s p r now) (repPay (repL1 s p r now) pool)).1, ())))))) := by
    unfold adjustS at hD ⊢
    have e1 : (repMid s (applyS (repL1 s p r now) (repPay (repL1 s p r now) pool)).1).posters = (applyS (repL1 s p r now) (repPay (repL1 s p r now) pool)).1 := rfl
    have e2 : (repOut s p r now (repPay (repL1 s p r now) pool)).1.nat = repN s r now := hn2
    rw [e1] at hD ⊢
    split at hD
    · rename_i hs
      refine ⟨hs, ?_⟩
      rw [if_pos hs]
      rw [e2] at hD ⊢
      split at hD
      · rename_i hz
        rw [if_pos hz, if_pos hz, if_pos hz]
        rfl
      · rename_i hz
        rw [if_neg hz, if_neg hz, if_neg hz]
        split at hD
        · rename_i hN
          exact absurd hD (iff_neb.1 hN)
        · rename_i hN
          rw [if_neg hN]
          rfl
    · exact absurd hD four_ne
  rw [key.2]
  exact ⟨hC, hw, hfit, hT, hB0, hT2, hlen.trans hl0, fun i => (hadr i).trans (ha0 i), rfl, hdue, key.1, rfl, rfl, rfl, rfl, rfl, rfl⟩
theorem rep_valid {s : PrT} {p : Prm} {pool : U} {r : RepT} {now : I .u64} {x : PrT} {t : OutT} (h : RepOk s p pool r now x t) : prV x = true := by
  have hcnt := rep_count h.chk
  refine prV_t.2 ⟨?_, h.tab2, ?_⟩
  · rw [h.reports, hcnt, h.posters]
    refine applyS_all (Q := fun q => (Post.since q).nat ≤ s.reports.nat + 1) ?_ _ _ ?_
    · intro q n hq
      show (if _ then I.of .u64 0 else q.since).nat ≤ _
      split
      · exact Nat.zero_le _
      · exact hq
    · intro q hq
      obtain ⟨i, hi, rfl⟩ := mem_rdL dP hq
      unfold repL1 at hi ⊢
      rw [setAt_eq, List.length_set] at hi
      rw [rdL_set]
      split
      · show (if _ then I.add s.reports (I.of .u64 1) else Post.since _).nat ≤ _
        split
        · rw [hcnt]; exact Nat.le_refl _
        · have := h.chk.since _ (rdL_mem dP s.posters _ h.chk.fnd)
          exact Nat.le_succ_of_le this
      · have := h.chk.since _ (rdL_mem dP s.posters i hi)
        omega
  · rw [h.surplus]
    split
    · exact h.chk.sur
    · unfold surpS
      have := pool.lt
      have := h.total
      refine S.of_valid ?_
      omega
end Sym
