/- Parameters: which are valid. -/
import Derived.Test.YtmjjppoaianfmaaPart5
import Derived.Test.YtmjjppoaianfmaaPart6
namespace Sym
open Go

abbrev Prm : Type := I .u64 × I .u64 × I .u64 × U × I .u64 × U × I .u64 × U × I .u64 × I .u64 × I .u64 × I .u64 × Unit

def getK (p : Prm) : Nat → U
  | 1 => u64U p.1
  | 2 => u64U p.2.1
  | 3 => u64U p.2.2.1
  | 4 => p.2.2.2.1
  | 5 => u64U p.2.2.2.2.1
  | 6 => p.2.2.2.2.2.1
  | 7 => u64U p.2.2.2.2.2.2.1
  | 8 => p.2.2.2.2.2.2.2.1
  | 9 => u64U p.2.2.2.2.2.2.2.2.1
  | 10 => u64U p.2.2.2.2.2.2.2.2.2.1
  | 11 => u64U p.2.2.2.2.2.2.2.2.2.2.1
  | _ => u64U p.2.2.2.2.2.2.2.2.2.2.2.1

def loK (p : Prm) : Nat → I .u64
  | 1 => I.of .u64 1
  | 2 => I.of .u64 0
  | 3 => I.of .u64 1
  | 4 => I.of .u64 1
  | 5 => I.of .u64 1
  | 6 => I.of .u64 0
  | 7 => I.of .u64 0
  | 8 => I.of .u64 0
  | 9 => I.of .u64 1
  | 10 => I.of .u64 1
  | 11 => I.of .u64 0
  | _ => p.2.2.2.2.2.2.2.2.2.2.1

def hiK : Nat → I .u64
  | 1 => I.of .u64 1099511627776
  | 2 => I.of .u64 1048576
  | 3 => I.of .u64 1048576
  | 4 => I.of .u64 18446744073709551615
  | 5 => I.of .u64 1099511627776
  | 6 => I.of .u64 18446744073709551615
  | 7 => I.of .u64 10000
  | 8 => I.of .u64 18446744073709551615
  | 9 => I.of .u64 1099511627776
  | 10 => I.of .u64 1048576
  | 11 => I.of .u64 1048576
  | _ => I.of .u64 16777216

theorem Get_eq (p : Prm) (k : Nat) (h1 : 1 ≤ k) (h2 : k ≤ 12) : params_Get ((p, I.of .i64 (k : Int), ()), ()) = some ((getK p k, I.of .i64 0, ()), ()) := by
  match k, h1, h2 with
  | 1, _, _ => rfl
  | 2, _, _ => rfl
  | 3, _, _ => rfl
  | 4, _, _ => rfl
  | 5, _, _ => rfl
  | 6, _, _ => rfl
  | 7, _, _ => rfl
  | 8, _, _ => rfl
  | 9, _, _ => rfl
  | 10, _, _ => rfl
  | 11, _, _ => rfl
  | 12, _, _ => rfl
  | k + 13, _, h => omega

theorem bounds_eq (p : Prm) (k : Nat) (h1 : 1 ≤ k) (h2 : k ≤ 12) : params_bounds ((p, I.of .i64 (k : Int), ()), ()) = some ((loK p k, hiK k, ()), ()) := by
  match k, h1, h2 with
  | 1, _, _ => rfl
  | 2, _, _ => rfl
  | 3, _, _ => rfl
  | 4, _, _ => rfl
  | 5, _, _ => rfl
  | 6, _, _ => rfl
  | 7, _, _ => rfl
  | 8, _, _ => rfl
  | 9, _, _ => rfl
  | 10, _, _ => rfl
  | 11, _, _ => rfl
  | 12, _, _ => rfl
  | k + 13, _, h => omega

def okK (p : Prm) (k : Nat) : Bool := decide ((loK p k).nat ≤ (getK p k).val ∧ (getK p k).val ≤ (hiK k).nat)

/-- The first key that is not right, from k on, n keys. -/
def fiF (p : Prm) : Nat → Nat → I .i64
  | 0, _ => I.of .i64 0
  | n + 1, k => if okK p k = true then fiF p n (k + 1) else I.of .i64 (k : Int)

def fiS (p : Prm) : I .i64 := fiF p 12 1

theorem cmp_ltb (a b : U) : I.ltb (cmpS a b) (I.of .i64 0) = decide (a.val < b.val) := by
  unfold cmpS
  by_cases h : a.val < b.val
  · rw [if_pos h]; simp [h]; rfl
  · rw [if_neg h]
    by_cases h2 : b.val < a.val
    · rw [if_pos h2]; simp [h]; rfl
    · rw [if_neg h2]; simp [h]; rfl

theorem cmp_gtb (a b : U) : I.ltb (I.of .i64 0) (cmpS a b) = decide (b.val < a.val) := by
  unfold cmpS
  by_cases h : a.val < b.val
  · rw [if_pos h]; simp [show ¬ b.val < a.val by omega]; rfl
  · rw [if_neg h]
    by_cases h2 : b.val < a.val
    · rw [if_pos h2]; simp [h2]; rfl
    · rw [if_neg h2]; simp [h2]; rfl

theorem FirstInvalid_eq (p : Prm) : params_FirstInvalid ((p, ()), ()) = some ((fiS p, ()), ()) := by
  refine Wp.out (T := fun o => o = some ((fiS p, ()), ())) ?_
  unfold params_FirstInvalid
  refine Wp.iter (Inv := fun x => ∃ k : Nat, 1 ≤ k ∧ k ≤ 13 ∧ x = ((I.of .i64 (k : Int), ()), (p, ())) ∧ fiF p (13 - k) k = fiS p) (fun x => 14 - x.1.1.val.toNat) ?_ ⟨1, by omega, by omega, rfl, rfl⟩ ?_
  · rintro x ⟨k, hk1, hk2, rfl, hf⟩
    have hkv : (I.of .i64 (k : Int)).val = k := of_i64 ⟨by omega, by omega⟩
    refine Wp.brn (fun hc => ?_) (fun hc => ?_)
    · rw [iff_leb] at hc
      replace hc : (I.of .i64 (k : Int)).val ≤ 12 := hc
      have hk : k ≤ 12 := by omega
      refine Wp.optF (Get_eq p k hk1 hk) (Wp.optF (bounds_eq p k hk1 hk) (Wp.optF (u256_FromUint64 _) (Wp.optF (uint256_Cmp_eq _ _) ?_)))
      obtain ⟨n, hn⟩ : ∃ n, 13 - k = n + 1 := ⟨12 - k, by omega⟩
      rw [hn] at hf
      have hf' : (if okK p k = true then fiF p n (k + 1) else I.of .i64 (k : Int)) = fiS p := hf
      refine Wp.brn (fun h1 => ?_) (fun h1 => ?_)
      · rw [cmp_ltb] at h1
        replace h1 := of_decide_eq_true h1
        refine Wp.done ?_
        rw [if_neg (by unfold okK; rw [u64U_val] at h1; simp; intro h; omega)] at hf'
        show some ((I.of .i64 (k : Int), ()), ()) = _
        rw [hf']
      · rw [cmp_ltb] at h1
        replace h1 := of_decide_eq_false h1
        refine Wp.optF (u256_FromUint64 _) (Wp.optF (uint256_Cmp_eq _ _) ?_)
        refine Wp.brn (fun h2 => ?_) (fun h2 => ?_)
        · rw [cmp_gtb] at h2
          replace h2 := of_decide_eq_true h2
          refine Wp.done ?_
          rw [if_neg (by unfold okK; rw [u64U_val] at h2; simp; intro h; exact h2)] at hf'
          show some ((I.of .i64 (k : Int), ()), ()) = _
          rw [hf']
        · rw [cmp_gtb] at h2
          replace h2 := of_decide_eq_false h2
          rw [u64U_val] at h1 h2
          rw [if_pos (by unfold okK; simp; omega)] at hf'
          have hv2 : (I.of .i64 ((k + 1 : Nat) : Int)).val = ((k + 1 : Nat) : Int) := of_i64 ⟨by omega, by omega⟩
          have ha : I.add (I.of .i64 (k : Int)) (I.of .i64 1) = I.of .i64 ((k + 1 : Nat) : Int) := by
            apply I.ext'
            rw [add_i64 (by rw [hkv]; show _ ≤ (k : Int) + 1 ∧ (k : Int) + 1 < _; omega), hkv, hv2]
            show (k : Int) + 1 = ((k + 1 : Nat) : Int)
            omega
          refine Wp.again ⟨k + 1, by omega, by omega, ?_, ?_⟩ ?_
          · show ((I.add (I.of .i64 (k : Int)) (I.of .i64 1), ()), (p, ())) = _
            rw [ha]
          · rw [show 13 - (k + 1) = n by omega]; exact hf'
          · show 14 - (I.add (I.of .i64 (k : Int)) (I.of .i64 1)).val.toNat < 14 - (I.of .i64 (k : Int)).val.toNat
            rw [ha, hkv, hv2]
            omega
    · rw [niff_leb] at hc
      replace hc : 12 < (I.of .i64 (k : Int)).val := hc
      have hk : k = 13 := by omega
      subst hk
      refine Wp.done ?_
      show some ((I.of .i64 0, ()), ()) = _
      rw [← hf]; rfl
  · show 14 - (1 : Int).toNat < K0
    rw [K0_eq]; decide

theorem in_eq (a b c : I .u64) : pontageref12_in ((a, b, c, ()), ()) = some ((decide (b.nat ≤ a.nat ∧ a.nat ≤ c.nat), ()), ()) := by
  have ha := nat_val a
  have hb := nat_val b
  have hc := nat_val c
  refine Wp.out (T := fun o => o = some ((decide (b.nat ≤ a.nat ∧ a.nat ≤ c.nat), ()), ())) ?_
  unfold pontageref12_in
  refine Wp.brn (fun h => ?_) (fun h => ?_)
  · rw [iff_leb] at h
    show some ((I.leb a c, ()), ()) = _
    have : I.leb a c = decide (b.nat ≤ a.nat ∧ a.nat ≤ c.nat) := by
      by_cases h2 : a.nat ≤ c.nat
      · rw [decide_eq_true (by omega), iff_leb]; omega
      · rw [decide_eq_false (by omega), niff_leb]; omega
    rw [this]
  · rw [niff_leb] at h
    show some ((false, ()), ()) = _
    rw [decide_eq_false (by omega)]

theorem Uint64_eq (a : U) : pontageref1_Uint64 ((a, ()), ()) = some (if a.val < 18446744073709551616 then ((a.1, true, ()), ()) else ((I.of .u64 0, false, ()), ())) := by
  refine Wp.out (T := fun o => o = some (if a.val < 18446744073709551616 then ((a.1, true, ()), ()) else ((I.of .u64 0, false, ()), ()))) ?_
  have h0 := nat_lt a.1
  have n1 := nat_val a.2.1
  have n2 := nat_val a.2.2.1
  have n3 := nat_val a.2.2.2.1
  have hv : a.val = a.1.nat + 18446744073709551616 * (a.2.1.nat + 18446744073709551616 * (a.2.2.1.nat + 18446744073709551616 * a.2.2.2.1.nat)) := rfl
  have e0 : (I.of .u64 0).val = 0 := rfl
  unfold pontageref1_Uint64
  refine Wp.brn (fun h => ?_) (fun h => ?_)
  · rw [iff_neb, e0] at h; replace h : a.2.1.val ≠ 0 := h
    show some ((I.of .u64 0, false, ()), ()) = _
    rw [if_neg (by omega)]
  · rw [niff_neb, e0] at h; replace h : a.2.1.val = 0 := h
    refine Wp.brn (fun h2 => ?_) (fun h2 => ?_)
    · rw [iff_neb, e0] at h2; replace h2 : a.2.2.1.val ≠ 0 := h2
      show some ((I.of .u64 0, false, ()), ()) = _
      rw [if_neg (by omega)]
    · rw [niff_neb, e0] at h2; replace h2 : a.2.2.1.val = 0 := h2
      refine Wp.brn (fun h3 => ?_) (fun h3 => ?_)
      · rw [iff_neb, e0] at h3; replace h3 : a.2.2.2.1.val ≠ 0 := h3
        show some ((I.of .u64 0, false, ()), ()) = _
        rw [if_neg (by omega)]
      · rw [niff_neb, e0] at h3; replace h3 : a.2.2.2.1.val = 0 := h3
        show some ((a.1, true, ()), ()) = _
        rw [if_pos (by omega)]

theorem atLeast_eq (a : U) (b : I .u64) : pontageref12_atLeast ((a, b, ()), ()) = some ((decide (b.nat ≤ a.val ∧ a.val ≤ 18446744073709551615), ()), ()) := by
  refine Wp.out (T := fun o => o = some ((decide (b.nat ≤ a.val ∧ a.val ≤ 18446744073709551615), ()), ())) ?_
  have hb := nat_val b
  have h0 := nat_val a.1
  have h0' := nat_lt a.1
  have hv : a.val = a.1.nat + 18446744073709551616 * (a.2.1.nat + 18446744073709551616 * (a.2.2.1.nat + 18446744073709551616 * a.2.2.2.1.nat)) := rfl
  unfold pontageref12_atLeast
  refine Wp.optF (Uint64_eq a) ?_
  by_cases h : a.val < 18446744073709551616
  · rw [if_pos h]
    refine Wp.brnT rfl ?_
    show some ((I.leb b a.1, ()), ()) = _
    have : I.leb b a.1 = decide (b.nat ≤ a.val ∧ a.val ≤ 18446744073709551615) := by
      by_cases h2 : b.nat ≤ a.1.nat
      · rw [decide_eq_true (by omega), iff_leb]; omega
      · rw [decide_eq_false (by omega), niff_leb]; omega
    rw [this]
  · rw [if_neg h]
    refine Wp.brnF rfl ?_
    show some ((false, ()), ()) = _
    rw [decide_eq_false (by omega)]

theorem in_u (a b c : I .u64) : pontageref12_in ((a, b, c, ()), ()) = some ((decide (b.nat ≤ (u64U a).val ∧ (u64U a).val ≤ c.nat), ()), ()) := by
  rw [in_eq, u64U_val]

theorem brn_if {R : Type} (b : Bool) (x y : R) : brn (bnot b) x y = if b = true then y else x := by cases b <;> rfl

theorem RFirstInvalid_eq (p : Prm) : pontageref12_FirstInvalid ((p, ()), ()) = some ((fiS p, ()), ()) := by
  refine Wp.out (T := fun o => o = some ((fiS p, ()), ())) ?_
  unfold pontageref12_FirstInvalid
  refine Wp.optF (in_u _ _ _) (Wp.optF (in_u _ _ _) (Wp.optF (in_u _ _ _) (Wp.optF (atLeast_eq _ _) (Wp.optF (in_u _ _ _) (Wp.optF (atLeast_eq _ _) (Wp.optF (in_u _ _ _) (Wp.optF (atLeast_eq _ _) (Wp.optF (in_u _ _ _) (Wp.optF (in_u _ _ _) (Wp.optF (in_u _ _ _) (Wp.optF (in_u _ _ _) ?_)))))))))))
  have step : ∀ (n k : Nat) (r : Option (((I .i64) × Unit) × Unit)), r = some ((fiF p n (k + 1), ()), ()) → brn (bnot (okK p k)) (some ((I.of .i64 (k : Int), ()), ())) r = some ((fiF p (n + 1) k, ()), ()) := by
    intro n k r hr
    rw [brn_if, hr]
    show _ = some ((if okK p k = true then fiF p n (k + 1) else I.of .i64 (k : Int), ()), ())
    split <;> rfl
  exact step 11 1 _ (step 10 2 _ (step 9 3 _ (step 8 4 _ (step 7 5 _ (step 6 6 _ (step 5 7 _ (step 4 8 _ (step 3 9 _ (step 2 10 _ (step 1 11 _ (step 0 12 _ rfl)))))))))))

def validP (p : Prm) : Bool := I.eqb (fiS p) (I.of .i64 0)

theorem PValid_eq (p : Prm) : params_Valid ((p, ()), ()) = some ((validP p, ()), ()) := by
  refine Wp.out (T := fun o => o = some ((validP p, ()), ())) ?_
  unfold params_Valid
  exact Wp.optF (FirstInvalid_eq p) rfl

theorem RPValid_eq (p : Prm) : pontageref12_Valid ((p, ()), ()) = some ((validP p, ()), ()) := by
  refine Wp.out (T := fun o => o = some ((validP p, ()), ())) ?_
  unfold pontageref12_Valid
  exact Wp.optF (RFirstInvalid_eq p) rfl

theorem fiF_zero (p : Prm) : ∀ (n k : Nat), 1 ≤ k → k + n ≤ 14 → (I.eqb (fiF p n k) (I.of .i64 0) = true ↔ ∀ j, k ≤ j → j < k + n → okK p j = true)
  | 0, k, h1, h2 => ⟨fun _ j _ _ => by omega, fun _ => rfl⟩
  | n + 1, k, h1, h2 => by
    show I.eqb (if okK p k = true then fiF p n (k + 1) else I.of .i64 (k : Int)) (I.of .i64 0) = true ↔ _
    by_cases h : okK p k = true
    · rw [if_pos h, fiF_zero p n (k + 1) (by omega) (by omega)]
      constructor
      · intro hj j h3 h4
        by_cases hjk : j = k
        · subst hjk; exact h
        · exact hj j (by omega) (by omega)
      · intro hj j h3 h4
        exact hj j (by omega) (by omega)
    · rw [if_neg h, iff_eqb, of_i64 ⟨by omega, by omega⟩]
      constructor
      · intro h3
        replace h3 : (k : Int) = 0 := h3
        omega
      · intro hj
        exact absurd (hj k (by omega) (by omega)) h

theorem validP_iff (p : Prm) : validP p = true ↔ ∀ j, 1 ≤ j → j < 13 → okK p j = true := fiF_zero p 12 1 (by omega) (by omega)

/-- What the divisions rest on. -/
theorem validP_div {p : Prm} (h : validP p = true) : 1 ≤ p.2.2.2.2.2.2.2.2.1.nat ∧ p.2.2.2.2.2.2.2.2.1.nat ≤ 1099511627776 ∧ 1 ≤ p.2.2.2.2.2.2.2.2.2.1.nat := by
  rw [validP_iff] at h
  have h9 := of_decide_eq_true (h 9 (by omega) (by omega))
  have h10 := of_decide_eq_true (h 10 (by omega) (by omega))
  replace h9 : (I.of .u64 1).nat ≤ (u64U p.2.2.2.2.2.2.2.2.1).val ∧ (u64U p.2.2.2.2.2.2.2.2.1).val ≤ (I.of .u64 1099511627776).nat := h9
  replace h10 : (I.of .u64 1).nat ≤ (u64U p.2.2.2.2.2.2.2.2.2.1).val ∧ (u64U p.2.2.2.2.2.2.2.2.2.1).val ≤ (I.of .u64 1048576).nat := h10
  rw [u64U_val] at h9 h10
  have e1 : (I.of .u64 1).nat = 1 := rfl
  have e2 : (I.of .u64 1099511627776).nat = 1099511627776 := rfl
  rw [e1] at h9 h10
  rw [e2] at h9
  exact ⟨h9.1, h9.2, h10.1⟩
end Sym

/- The price of a unit: what the program computes. -/
namespace Sym
open Go

theorem SatAdd_eq (a b : U) : uint256_SaturatingAdd ((a, b, ()), ()) = some ((U.of (min (a.val + b.val) (U.top - 1)), ()), ()) := by
  refine Wp.out (T := fun o => o = some ((U.of (min (a.val + b.val) (U.top - 1)), ()), ())) ?_
  unfold uint256_SaturatingAdd
  refine Wp.optF (uint256_Add_eq a b) ?_
  unfold addS
  have ha := a.lt
  by_cases h : a.val + b.val < U.top
  · rw [if_pos h]
    refine Wp.brnT rfl ?_
    show _ = _
    rw [Nat.min_eq_left (by omega)]
    rfl
  · rw [if_neg h]
    refine Wp.brnF rfl ?_
    refine Wp.optF rfl ?_
    show _ = _
    rw [Nat.min_eq_right (by omega)]
    kernel_rfl

theorem DivFloor_u {z : Int} (d : U) (hz : z.natAbs < U.top) (hd : d.val ≠ 0) : int256_DivFloor ((S.of z, d, ()), ()) = some ((S.of (z / (d.val : Int)), I.of .i64 0, ()), ()) := by
  have := DivFloor_eq (S.of z) d
  unfold divFS at this
  rw [S.of_valid hz, if_pos rfl, if_neg hd, S.int_of hz] at this
  exact this

theorem DivFloor_i {z : Int} (c : I .u64) (hz : z.natAbs < U.top) (hc : c.nat ≠ 0) : int256_DivFloor ((S.of z, u64U c, ()), ()) = some ((S.of (z / (c.nat : Int)), I.of .i64 0, ()), ()) := by
  have := DivFloor_u (u64U c) hz (by rw [u64U_val]; exact hc)
  rw [u64U_val] at this
  exact this

theorem SSub_i {z w : Int} (hz : z.natAbs < U.top) (hw : w.natAbs < U.top) : int256_Sub ((S.of z, S.of w, ()), ()) = some (((resS (z - w)).1, (resS (z - w)).2, ()), ()) := by
  have := SSub_t (S.of_valid hz) (S.of_valid hw)
  rw [S.int_of hz, S.int_of hw] at this
  exact this

theorem SMul_i {z w : Int} (hz : z.natAbs < U.top) (hw : w.natAbs < U.top) : int256_Mul ((S.of z, S.of w, ()), ()) = some (((resS (z * w)).1, (resS (z * w)).2, ()), ()) := by
  have := SMul_t (S.of_valid hz) (S.of_valid hw)
  rw [S.int_of hz, S.int_of hw] at this
  exact this

theorem posS (c : I .u64) : ((false, u64U c, ()) : S) = S.of (c.nat : Int) := by
  have h : S.of (S.int (false, u64U c, ())) = (false, u64U c, ()) := S.of_int rfl
  have h2 : S.int (false, u64U c, ()) = (c.nat : Int) := by
    show (((u64U c).val : Nat) : Int) = _
    rw [u64U_val]
  rw [← h, h2]

theorem quo_nat (a b : I .u64) : (I.quo a b).nat = a.nat / b.nat := by
  have h : ((I.quo a b).nat : Int) = ((a.nat / b.nat : Nat) : Int) := by
    rw [nat_val, quo_u64, ← nat_val a, ← nat_val b]
    exact (Int.natCast_ediv _ _).symm
  exact Int.ofNat_inj.1 h

/-- The change of the price, by whole numbers. -/
def deltaZ (n o : Int) (u E J : Nat) : S × I .i64 :=
  if (n - o).natAbs < U.top then
    if (-n / (E : Int) - (n - o) / (u : Int)).natAbs < U.top then
      if ((-n / (E : Int) - (n - o) / (u : Int)) * (u : Int)).natAbs < U.top then (S.of ((-n / (E : Int) - (n - o) / (u : Int)) * (u : Int) / ((E / J + u : Nat) : Int)), I.of .i64 0)
      else (S.of 0, I.of .i64 4)
    else (S.of 0, I.of .i64 4)
  else (S.of 0, I.of .i64 4)

theorem bnot_t {c : Bool} (h : bnot c = true) : c = false := by
  cases c
  · rfl
  · cases h
theorem bnot_f {c : Bool} (h : bnot c = false) : c = true := by
  cases c
  · cases h
  · rfl


def Prm.eq (p : Prm) : I .u64 := p.2.2.2.2.2.2.2.2.1
def Prm.inertia (p : Prm) : I .u64 := p.2.2.2.2.2.2.2.2.2.1

def deltaS (a b : S) (u : I .u64) (p : Prm) : S × I .i64 :=
  if validP p = true then
    if validB a = true then
      if validB b = true then
        if u.nat = 0 then (S.of 0, I.of .i64 2)
        else deltaZ a.int b.int u.nat (Prm.eq p).nat (Prm.inertia p).nat
      else (S.of 0, I.of .i64 2)
    else (S.of 0, I.of .i64 2)
  else (S.of 0, I.of .i64 15)

theorem deltaS_t {a b : S} {u : I .u64} {p : Prm} (hp : validP p = true) (ha : validB a = true) (hb : validB b = true) (hu : u.nat ≠ 0) : deltaS a b u p = deltaZ a.int b.int u.nat (Prm.eq p).nat (Prm.inertia p).nat := by
  unfold deltaS
  rw [if_pos hp, if_pos ha, if_pos hb, if_neg hu]

theorem u64_zero (u : I .u64) : I.eqb u (I.of .u64 0) = true ↔ u.nat = 0 := by
  rw [iff_eqb]
  have := nat_val u
  have e0 : (I.of .u64 0).val = 0 := rfl
  omega

theorem Delta_eq (a b : S) (u : I .u64) (p : Prm) : l1price_Delta ((a, b, u, p, ()), ()) = some (((deltaS a b u p).1, (deltaS a b u p).2, ()), ()) := by
  refine Wp.out (T := fun o => o = some (((deltaS a b u p).1, (deltaS a b u p).2, ()), ())) ?_
  unfold l1price_Delta
  refine Wp.jn (fun s => s.1.1 = u ∧ s.2.1 = a ∧ s.2.2.1 = b ∧ s.2.2.2.1 = p ∧ validP p = true ∧ validB a = true ∧ validB b = true ∧ u.nat ≠ 0) ?_ ?_
  · rintro ⟨⟨u', ⟨⟩⟩, a', b', p', z', ⟨⟩⟩ ⟨e0, e1, e2, e3, hp, ha, hb, hu⟩
    simp only at e0 e1 e2 e3
    subst e0 e1 e2 e3
    obtain ⟨hE1, hE2, hJ⟩ : 1 ≤ (Prm.eq p').nat ∧ (Prm.eq p').nat ≤ 1099511627776 ∧ 1 ≤ (Prm.inertia p').nat := validP_div hp
    rw [deltaS_t hp ha hb hu]
    have hx := S.lt a'
    have hy := S.lt b'
    have hxn : (-S.int a').natAbs < U.top := by omega
    refine Wp.optF (Neg_t ha) (Wp.optF (u256_FromUint64 _) ?_)
    refine Wp.optF (DivFloor_i (Prm.eq p') hxn (by omega)) ?_
    have hq := floor_abs (-S.int a') (Prm.eq p').nat (by omega)
    refine Wp.optF (SSub_t (x := a') (y := b') ha hb) ?_
    unfold deltaZ
    by_cases h1 : (S.int a' - S.int b').natAbs < U.top
    · rw [resS_lt h1, if_pos h1]
      refine Wp.brnF rfl (Wp.optF (u256_FromUint64 _) ?_)
      refine Wp.optF (DivFloor_i u' h1 hu) ?_
      have hq2 := floor_abs (S.int a' - S.int b') u'.nat hu
      refine Wp.optF (SSub_i (z := -S.int a' / ((Prm.eq p').nat : Int)) (w := (S.int a' - S.int b') / (u'.nat : Int)) (by omega) (by omega)) ?_
      generalize hd : -S.int a' / ((Prm.eq p').nat : Int) - (S.int a' - S.int b') / (u'.nat : Int) = d
      by_cases h2 : d.natAbs < U.top
      · rw [resS_lt h2, if_pos h2]
        refine Wp.brnF rfl (Wp.optF (u256_FromUint64 _) ?_)
        have hun := top_u64 u'
        have hm := SMul_i (z := d) (w := (u'.nat : Int)) h2 (by omega)
        rw [← posS] at hm
        refine Wp.optF hm ?_
        by_cases h3 : (d * (u'.nat : Int)).natAbs < U.top
        · rw [resS_lt h3, if_pos h3]
          refine Wp.brnF rfl ?_
          refine Wp.brnT ?_ ?_
          · rw [iff_nz]
            have := nat_val (Prm.inertia p')
            show (Prm.inertia p').val ≠ 0
            omega
          refine Wp.optF (u256_FromUint64 _) (Wp.optF (u256_FromUint64 _) (Wp.optF (SatAdd_eq (u64U (I.quo (Prm.eq p') (Prm.inertia p'))) (u64U u')) ?_))
          have hn1 := nat_lt (I.quo (Prm.eq p') (Prm.inertia p'))
          have hn2 := nat_lt u'
          have hsum : (U.of (min ((u64U (I.quo (Prm.eq p') (Prm.inertia p'))).val + (u64U u').val) (U.top - 1))).val = (Prm.eq p').nat / (Prm.inertia p').nat + u'.nat := by
            rw [u64U_val, u64U_val, Nat.min_eq_left (by unfold U.top; omega), U.val_of (by unfold U.top; omega), quo_nat]
          refine Wp.optF (DivFloor_u (U.of (min ((u64U (I.quo (Prm.eq p') (Prm.inertia p'))).val + (u64U u').val) (U.top - 1))) h3 (by rw [hsum]; exact Nat.ne_of_gt (Nat.lt_of_lt_of_le (Nat.pos_of_ne_zero hu) (Nat.le_add_left _ _)))) ?_
          rw [hsum]
          rfl
        · rw [resS_ge (by omega), if_neg h3]
          exact Wp.brnT rfl rfl
      · rw [resS_ge (by omega), if_neg h2]
        exact Wp.brnT rfl rfl
    · rw [resS_ge (by omega), if_neg h1]
      exact Wp.brnT rfl rfl
  · intro j hj
    refine Wp.optF (PValid_eq p) ?_
    refine Wp.brn (fun h => ?_) (fun h => ?_)
    · have hp : validP p = false := bnot_t h
      unfold deltaS
      rw [hp]
      rfl
    · have hp : validP p = true := bnot_f h
      refine Wp.optF (Valid_eq a) ?_
      refine Wp.brn (fun h => ?_) (fun h => ?_)
      · have ha : validB a = false := bnot_t h
        unfold deltaS
        rw [if_pos hp, ha]
        rfl
      · have ha : validB a = true := bnot_f h
        refine Wp.optF (Valid_eq b) ?_
        refine Wp.brn (fun h => ?_) (fun h => ?_)
        · have hb : validB b = false := bnot_t h
          unfold deltaS
          rw [if_pos hp, if_pos ha, hb]
          rfl
        · have hb : validB b = true := bnot_f h
          refine Wp.brn (fun h => ?_) (fun h => ?_)
          · have hu := (u64_zero u).1 h
            unfold deltaS
            rw [if_pos hp, if_pos ha, if_pos hb, if_pos hu]
            rfl
          · have hu : u.nat ≠ 0 := fun h0 => by
              rw [(u64_zero u).2 h0] at h; cases h
            exact hj _ ⟨rfl, rfl, rfl, rfl, hp, ha, hb, hu⟩

/-- The next price. -/
def nextS (c : U) (a b : S) (u : I .u64) (p : Prm) : U × I .i64 :=
  if validP p = true then
    if validB a = true then
      if validB b = true then
        if u.nat = 0 then (c, I.of .i64 0)
        else if I.neb (deltaS a b u p).2 (I.of .i64 0) = true then (U.of 0, (deltaS a b u p).2) else clampS c (deltaS a b u p).1
      else (U.of 0, I.of .i64 2)
    else (U.of 0, I.of .i64 2)
  else (U.of 0, I.of .i64 15)

theorem Next_eq (c : U) (a b : S) (u : I .u64) (p : Prm) : l1price_Next ((c, a, b, u, p, ()), ()) = some (((nextS c a b u p).1, (nextS c a b u p).2, ()), ()) := by
  refine Wp.out (T := fun o => o = some (((nextS c a b u p).1, (nextS c a b u p).2, ()), ())) ?_
  unfold l1price_Next
  refine Wp.jn (fun s => s.1.1 = u ∧ s.2.1 = c ∧ s.2.2.1 = a ∧ s.2.2.2.1 = b ∧ s.2.2.2.2.1 = p ∧ validP p = true ∧ validB a = true ∧ validB b = true ∧ u.nat ≠ 0) ?_ ?_
  · rintro ⟨⟨u', ⟨⟩⟩, c', a', b', p', z', ⟨⟩⟩ ⟨e0, e1, e2, e3, e4, hp, ha, hb, hu⟩
    simp only at e0 e1 e2 e3 e4
    subst e0 e1 e2 e3 e4
    refine Wp.optF (Delta_eq _ _ _ _) ?_
    unfold nextS
    rw [if_pos hp, if_pos ha, if_pos hb, if_neg hu]
    refine Wp.brn (fun h => ?_) (fun h => ?_)
    · rw [if_pos h]
      rfl
    · rw [if_neg (by rw [h]; decide)]
      exact Wp.optF (AddClamped_eq _ _) rfl
  · intro j hj
    refine Wp.optF (PValid_eq p) ?_
    refine Wp.brn (fun h => ?_) (fun h => ?_)
    · have hp : validP p = false := bnot_t h
      unfold nextS
      rw [hp]
      rfl
    · have hp : validP p = true := bnot_f h
      refine Wp.jn (fun s => s.1.1 = u ∧ s.1.2.1 = (!(validB a && validB b)) ∧ s.2.1 = c ∧ s.2.2.1 = a ∧ s.2.2.2.1 = b ∧ s.2.2.2.2.1 = p) ?_ ?_
      · rintro ⟨⟨u', v', ⟨⟩⟩, c', a', b', p', z', ⟨⟩⟩ ⟨e0, e00, e1, e2, e3, e4⟩
        simp only at e0 e00 e1 e2 e3 e4
        subst e0 e00 e1 e2 e3 e4
        refine Wp.brn (fun h => ?_) (fun h => ?_)
        · replace h : (!(validB a' && validB b')) = true := h
          unfold nextS
          rw [if_pos hp]
          by_cases ha : validB a' = true
          · rw [if_pos ha]
            have hb : validB b' = false := by rw [ha] at h; simpa using h
            rw [hb]
            rfl
          · rw [if_neg ha]
            rfl
        · replace h : (!(validB a' && validB b')) = false := h
          have hab : validB a' = true ∧ validB b' = true := by simpa using h
          refine Wp.brn (fun h => ?_) (fun h => ?_)
          · have hu := (u64_zero u').1 h
            unfold nextS
            rw [if_pos hp, if_pos hab.1, if_pos hab.2, if_pos hu]
            rfl
          · have hu : u'.nat ≠ 0 := fun h0 => by
              rw [(u64_zero u').2 h0] at h; cases h
            exact hj _ ⟨rfl, rfl, rfl, rfl, rfl, hp, hab.1, hab.2, hu⟩
      · intro j2 hj2
        refine Wp.optF (Valid_eq a) ?_
        refine Wp.brn (fun h => ?_) (fun h => ?_)
        · have ha : validB a = false := bnot_t h
          exact hj2 _ ⟨rfl, by rw [ha]; rfl, rfl, rfl, rfl, rfl⟩
        · have ha : validB a = true := bnot_f h
          refine Wp.optF (Valid_eq b) ?_
          exact hj2 _ ⟨rfl, by rw [ha]; rfl, rfl, rfl, rfl, rfl⟩
end Sym

/- The price of a unit: the laws over valid parameters. -/
namespace Sym
open Go

def genP : Prm := (I.of .u64 7000000, I.of .u64 10, I.of .u64 102, u64U (I.of .u64 100000000), I.of .u64 32000000, u64U (I.of .u64 60000000), I.of .u64 1000, u64U (I.of .u64 10), I.of .u64 160000000, I.of .u64 10, I.of .u64 16, I.of .u64 65536, ())

theorem Genesis_eq : params_Genesis ((), ()) = some ((genP, ()), ()) := by kernel_rfl

theorem genP_valid : validP genP = true := by kernel_rfl

theorem zd : deltaZ (-160000000) 0 16000000 160000000 10 = (S.of 5, I.of .i64 0) := by
  unfold deltaZ
  rw [if_pos (by decide), if_pos (by decide), if_pos (by decide)]
  exact congrArg (fun z => (S.of z, I.of .i64 0)) (by decide)

theorem awake19 : pontagelaw19_awake ((), ()) = some ((true, ()), ()) := by
  refine Wp.out (T := fun o => o = some ((true, ()), ())) ?_
  unfold pontagelaw19_awake
  have a1 : (-160000000 : Int).natAbs < U.top := by decide
  have a0 : (0 : Int).natAbs < U.top := by decide
  have hd : deltaS (S.of (-160000000)) (S.of 0) (I.of .u64 16000000) genP = (S.of 5, I.of .i64 0) := by
    rw [deltaS_t genP_valid (S.of_valid a1) (S.of_valid a0) (by decide), S.int_of a1, S.int_of a0]
    exact zd
  have e1 : int256_FromInt64 ((I.of .i64 (-160000000), ()), ()) = some ((S.of (-160000000), ()), ()) := by
    have := SFrom_eq (I.of .i64 (-160000000))
    rw [show (I.of .i64 (-160000000)).val = -160000000 from of_i64 (by omega)] at this
    exact this
  have e2 : int256_FromInt64 ((I.of .i64 0, ()), ()) = some ((S.of 0, ()), ()) := SFrom_eq (I.of .i64 0)
  have e3 : int256_FromInt64 ((I.of .i64 5, ()), ()) = some ((S.of 5, ()), ()) := by
    have := SFrom_eq (I.of .i64 5)
    rw [show (I.of .i64 5).val = 5 from of_i64 (by omega)] at this
    exact this
  refine Wp.optF e1 (Wp.optF e2 (Wp.optF Genesis_eq ?_))
  refine Wp.optF (Delta_eq (S.of (-160000000)) (S.of 0) (I.of .u64 16000000) genP) ?_
  rw [hd]
  refine Wp.optF e3 (Wp.optF e3 (Wp.optF Genesis_eq ?_))
  refine Wp.optF (Next_eq (u64U (I.of .u64 3)) (S.of 5) (S.of 5) (I.of .u64 0) genP) ?_
  have hn : nextS (u64U (I.of .u64 3)) (S.of 5) (S.of 5) (I.of .u64 0) genP = (u64U (I.of .u64 3), I.of .i64 0) := by
    unfold nextS
    have h5 : validB (S.of 5) = true := S.of_valid (by decide)
    have h0 : (I.of .u64 0).nat = 0 := rfl
    rw [if_pos genP_valid, if_pos h5, if_pos h5, if_pos h0]
  rw [hn]
  refine Wp.optF e3 ?_
  refine Wp.brnT (eqbS_self _) (Wp.brnT rfl (Wp.brnT (eqb_self' _) rfl))

theorem validP_of (p : Prm) (h1 : 1 ≤ p.1.nat ∧ p.1.nat ≤ 1099511627776) (h2 : p.2.1.nat ≤ 1048576) (h3 : 1 ≤ p.2.2.1.nat ∧ p.2.2.1.nat ≤ 1048576) (h4 : 1 ≤ U.val p.2.2.2.1 ∧ U.val p.2.2.2.1 ≤ 18446744073709551615) (h5 : 1 ≤ p.2.2.2.2.1.nat ∧ p.2.2.2.2.1.nat ≤ 1099511627776) (h6 : U.val p.2.2.2.2.2.1 ≤ 18446744073709551615) (h7 : p.2.2.2.2.2.2.1.nat ≤ 10000) (h8 : U.val p.2.2.2.2.2.2.2.1 ≤ 18446744073709551615) (h9 : 1 ≤ p.2.2.2.2.2.2.2.2.1.nat ∧ p.2.2.2.2.2.2.2.2.1.nat ≤ 1099511627776) (h10 : 1 ≤ p.2.2.2.2.2.2.2.2.2.1.nat ∧ p.2.2.2.2.2.2.2.2.2.1.nat ≤ 1048576) (h11 : p.2.2.2.2.2.2.2.2.2.2.1.nat ≤ 1048576) (h12 : p.2.2.2.2.2.2.2.2.2.2.1.nat ≤ p.2.2.2.2.2.2.2.2.2.2.2.1.nat ∧ p.2.2.2.2.2.2.2.2.2.2.2.1.nat ≤ 16777216) : validP p = true := by
  rw [validP_iff]
  intro j hj1 hj2
  match j, hj1, hj2 with
  | 1, _, _ => exact decide_eq_true (by show _ ≤ (u64U p.1).val ∧ (u64U p.1).val ≤ _; rw [u64U_val]; exact h1)
  | 2, _, _ => exact decide_eq_true (by show _ ≤ (u64U p.2.1).val ∧ (u64U p.2.1).val ≤ _; rw [u64U_val]; exact ⟨Nat.zero_le _, h2⟩)
  | 3, _, _ => exact decide_eq_true (by show _ ≤ (u64U p.2.2.1).val ∧ (u64U p.2.2.1).val ≤ _; rw [u64U_val]; exact h3)
  | 4, _, _ => exact decide_eq_true h4
  | 5, _, _ => exact decide_eq_true (by show _ ≤ (u64U p.2.2.2.2.1).val ∧ (u64U p.2.2.2.2.1).val ≤ _; rw [u64U_val]; exact h5)
  | 6, _, _ => exact decide_eq_true ⟨Nat.zero_le _, h6⟩
  | 7, _, _ => exact decide_eq_true (by show _ ≤ (u64U p.2.2.2.2.2.2.1).val ∧ (u64U p.2.2.2.2.2.2.1).val ≤ _; rw [u64U_val]; exact ⟨Nat.zero_le _, h7⟩)
  | 8, _, _ => exact decide_eq_true ⟨Nat.zero_le _, h8⟩
  | 9, _, _ => exact decide_eq_true (by show _ ≤ (u64U p.2.2.2.2.2.2.2.2.1).val ∧ (u64U p.2.2.2.2.2.2.2.2.1).val ≤ _; rw [u64U_val]; exact h9)
  | 10, _, _ => exact decide_eq_true (by show _ ≤ (u64U p.2.2.2.2.2.2.2.2.2.1).val ∧ (u64U p.2.2.2.2.2.2.2.2.2.1).val ≤ _; rw [u64U_val]; exact h10)
  | 11, _, _ => exact decide_eq_true (by show _ ≤ (u64U p.2.2.2.2.2.2.2.2.2.2.1).val ∧ (u64U p.2.2.2.2.2.2.2.2.2.2.1).val ≤ _; rw [u64U_val]; exact ⟨Nat.zero_le _, h11⟩)
  | 12, _, _ => exact decide_eq_true (by show _ ≤ (u64U p.2.2.2.2.2.2.2.2.2.2.2.1).val ∧ (u64U p.2.2.2.2.2.2.2.2.2.2.2.1).val ≤ _; rw [u64U_val]; exact h12)
  | j + 13, _, h => omega

theorem rem_nat (a b : I .u64) (hb : b.nat ≠ 0) : (I.rem a b).nat = a.nat % b.nat := by
  have h1 := nat_val b
  have h : ((I.rem a b).nat : Int) = ((a.nat % b.nat : Nat) : Int) := by
    rw [nat_val, rem_u64 (by omega), ← nat_val a, ← nat_val b]
    exact (Int.natCast_emod _ _).symm
  exact Int.ofNat_inj.1 h

theorem add_nat_lt (a b : I .u64) (h : a.nat + b.nat < 18446744073709551616) : (I.add a b).nat = a.nat + b.nat := by
  rw [add_nat]; exact Nat.mod_eq_of_lt h

theorem shl_nat (a : I .u64) (h : a.nat < 64) : (I.shl (I.of .u64 1) a).nat = 2 ^ a.nat := by
  have h1 := nat_val a
  have h2 := shl_one (a := a) (by omega)
  have h3 : a.val.toNat = a.nat := rfl
  have h4 : ((2 ^ a.nat : Nat) : Int) = 2 ^ a.nat := by simp
  rw [h3, ← h4, ← nat_val] at h2
  exact Int.ofNat_inj.1 h2

/-- A power of two between. -/
theorem pow_shift (x c m : I .u64) (hm : m.nat ≠ 0) (h : c.nat + m.nat ≤ 64) : (I.shl (I.of .u64 1) (I.add c (I.rem x m))).nat ≠ 0 ∧ (I.shl (I.of .u64 1) (I.add c (I.rem x m))).nat ≤ 2 ^ (c.nat + m.nat - 1) := by
  have h1 := rem_nat x m hm
  have h2 := Nat.mod_lt x.nat (Nat.pos_of_ne_zero hm)
  have h3 := add_nat_lt c (I.rem x m) (by omega)
  have h4 := shl_nat (I.add c (I.rem x m)) (by omega)
  rw [h4]
  exact ⟨Nat.ne_of_gt (Nat.pow_pos (by decide)), Nat.pow_le_pow_right (by decide) (by omega)⟩

theorem nz_nat (x : I .u64) (h : x.nat ≠ 0) : I.nz x = true := by
  rw [iff_nz]
  have := nat_val x
  omega

theorem rem_lt (a b : I .u64) (hb : b.nat ≠ 0) : (I.rem a b).nat < b.nat := by
  rw [rem_nat a b hb]
  exact Nat.mod_lt _ (Nat.pos_of_ne_zero hb)

theorem one_add (a : I .u64) (h : a.nat < 18446744073709551615) : (I.add (I.of .u64 1) a).nat = 1 + a.nat := add_nat_lt (I.of .u64 1) a (by show 1 + _ < _; omega)

abbrev V8 : Type := I .u64 × I .u64 × I .u64 × I .u64 × I .u64 × I .u64 × I .u64 × I .u64 × Unit

theorem ValidParams_ok (v : V8) : ∃ p : Prm, pontagelaw14_ValidParams ((v, ()), ()) = some ((p, ()), ()) ∧ validP p = true := by
  have key : Wp (fun o => ∃ p : Prm, o = some ((p, ()), ()) ∧ validP p = true) (pontagelaw14_ValidParams ((v, ()), ())) := by
    obtain ⟨v0, v1, v2, v3, v4, v5, v6, v7, ⟨⟩⟩ := v
    unfold pontagelaw14_ValidParams
    have b0 := pow_shift v0 (I.of .u64 1) (I.of .u64 40) (by decide) (by decide)
    have b3 := pow_shift v3 (I.of .u64 1) (I.of .u64 60) (by decide) (by decide)
    have b4 := pow_shift v4 (I.of .u64 10) (I.of .u64 30) (by decide) (by decide)
    have b5 := pow_shift v5 (I.of .u64 1) (I.of .u64 60) (by decide) (by decide)
    have b7 := pow_shift v7 (I.of .u64 1) (I.of .u64 40) (by decide) (by decide)
    refine Wp.optF Genesis_eq ?_
    refine Wp.brnT (nn_u64 _) (Wp.brnT (nz_nat _ b0.1) (Wp.brnT (nn_u64 _) (Wp.brnT (nz_nat _ b3.1) (Wp.brnT (nn_u64 _) (Wp.brnT (nz_nat _ b4.1) (Wp.brnT (nn_u64 _) (Wp.brnT (nz_nat _ b5.1) (Wp.brnT (nn_u64 _) (Wp.brnT (nz_nat _ b7.1) ?_)))))))))
    refine ⟨_, rfl, ?_⟩
    have r0 := rem_lt v0 _ b0.1
    have r3 := rem_lt v3 _ b3.1
    have r4 := rem_lt v4 _ b4.1
    have r5 := rem_lt v5 _ b5.1
    have r7 := rem_lt v7 _ b7.1
    have r1 := rem_lt v1 (I.of .u64 40) (by decide)
    have r2 := rem_lt v2 (I.of .u64 300) (by decide)
    have r6 := rem_lt v6 (I.of .u64 10001) (by decide)
    have r8 := rem_lt v6 (I.of .u64 5000) (by decide)
    have r10 := rem_lt (I.quo v7 (I.of .u64 7)) (I.of .u64 100) (by decide)
    have t0 := Nat.le_trans b0.2 (show 2 ^ ((I.of .u64 1).nat + (I.of .u64 40).nat - 1) ≤ 1099511627776 by decide)
    have t3 := Nat.le_trans b3.2 (show 2 ^ ((I.of .u64 1).nat + (I.of .u64 60).nat - 1) ≤ 1152921504606846976 by decide)
    have t4 := Nat.le_trans b4.2 (show 2 ^ ((I.of .u64 10).nat + (I.of .u64 30).nat - 1) ≤ 549755813888 by decide)
    have t5 := Nat.le_trans b5.2 (show 2 ^ ((I.of .u64 1).nat + (I.of .u64 60).nat - 1) ≤ 1152921504606846976 by decide)
    have t7 := Nat.le_trans b7.2 (show 2 ^ ((I.of .u64 1).nat + (I.of .u64 40).nat - 1) ≤ 1099511627776 by decide)
    have n40 : (I.of .u64 40).nat = 40 := rfl
    have n300 : (I.of .u64 300).nat = 300 := rfl
    have n10001 : (I.of .u64 10001).nat = 10001 := rfl
    have n5000 : (I.of .u64 5000).nat = 5000 := rfl
    have n100 : (I.of .u64 100).nat = 100 := rfl
    refine validP_of _ ?_ ?_ ?_ ?_ ?_ ?_ ?_ ?_ ?_ ?_ ?_ ?_
    · show 1 ≤ (I.add _ _).nat ∧ (I.add _ _).nat ≤ _
      rw [one_add _ (Nat.lt_of_lt_of_le r0 (Nat.le_trans t0 (by decide)))]
      exact ⟨Nat.le_add_right _ _, Nat.le_trans (by rw [Nat.add_comm]; exact r0) t0⟩
    · show (I.rem v1 (I.of .u64 40)).nat ≤ _
      omega
    · show 1 ≤ (I.add _ (I.rem v2 (I.of .u64 300))).nat ∧ (I.add _ (I.rem v2 (I.of .u64 300))).nat ≤ _
      rw [one_add _ (by omega)]
      omega
    · show 1 ≤ (u64U (I.add _ _)).val ∧ (u64U (I.add _ _)).val ≤ _
      rw [u64U_val, one_add _ (Nat.lt_of_lt_of_le r3 (Nat.le_trans t3 (by decide)))]
      exact ⟨Nat.le_add_right _ _, Nat.le_trans (by rw [Nat.add_comm]; exact r3) (Nat.le_trans t3 (by decide))⟩
    · show 1 ≤ (I.add _ _).nat ∧ (I.add _ _).nat ≤ _
      rw [one_add _ (Nat.lt_of_lt_of_le r4 (Nat.le_trans t4 (by decide)))]
      exact ⟨Nat.le_add_right _ _, Nat.le_trans (by rw [Nat.add_comm]; exact r4) (Nat.le_trans t4 (by decide))⟩
    · show (u64U (I.rem _ _)).val ≤ _
      rw [u64U_val]
      exact Nat.le_trans (Nat.le_of_lt r5) (Nat.le_trans t5 (by decide))
    · show (I.rem v6 (I.of .u64 10001)).nat ≤ _
      omega
    · show (u64U (I.rem v6 (I.of .u64 5000))).val ≤ _
      rw [u64U_val]
      omega
    · show 1 ≤ (I.add _ _).nat ∧ (I.add _ _).nat ≤ _
      rw [one_add _ (Nat.lt_of_lt_of_le r7 (Nat.le_trans t7 (by decide)))]
      exact ⟨Nat.le_add_right _ _, Nat.le_trans (by rw [Nat.add_comm]; exact r7) t7⟩
    · show 1 ≤ (I.add _ (I.rem (I.quo v7 (I.of .u64 7)) (I.of .u64 100))).nat ∧ (I.add _ (I.rem (I.quo v7 (I.of .u64 7)) (I.of .u64 100))).nat ≤ _
      rw [one_add _ (by omega)]
      omega
    · show (I.of .u64 16).nat ≤ 1048576
      decide
    · show (I.of .u64 16).nat ≤ (I.of .u64 65536).nat ∧ (I.of .u64 65536).nat ≤ 16777216
      decide
  exact key.out

theorem surplus_law (a b : U) : pontagelaw19_L1PriceSurplus ((a, b, ()), ()) = some ((true, ()), ()) := by
  refine Wp.out (T := fun o => o = some ((true, ()), ())) ?_
  have ha := a.lt
  have hb := b.lt
  unfold pontagelaw19_L1PriceSurplus
  have hz : ((a.val : Int) - b.val).natAbs < U.top := by omega
  have hS : l1price_Surplus ((a, b, ()), ()) = some ((S.of ((a.val : Int) - b.val), ()), ()) := by
    refine Wp.out (T := fun o => o = some ((S.of ((a.val : Int) - b.val), ()), ())) ?_
    unfold l1price_Surplus
    exact Wp.optF (Diff_eq a b) rfl
  refine Wp.optF hS ?_
  have hc : clampS b (S.of ((a.val : Int) - b.val)) = (a, I.of .i64 0) := by
    unfold clampS
    rw [S.of_valid hz, if_pos rfl, S.int_of hz, if_neg (by omega), show ((b.val : Int) + ((a.val : Int) - b.val)).toNat = a.val by omega]
    unfold errS
    rw [if_pos ha, U.of_val]
  refine Wp.optF (AddClamped_eq b _) ?_
  refine Wp.optF (RDiff_eq a b) ?_
  refine Wp.brnT (eqbS_self _) ?_
  refine Wp.optF (Valid_eq _) (Wp.brnT (S.of_valid hz) ?_)
  refine Wp.optF (uint256_Cmp_eq a b) ?_
  refine Wp.brnT ?_ ?_
  · show Ty.eqb .bool (decide ((a.val : Int) - b.val < 0)) (I.ltb (cmpS a b) (I.of .i64 0)) = true
    rw [cmp_ltb, show decide ((a.val : Int) - b.val < 0) = decide (a.val < b.val) by
      by_cases h : a.val < b.val
      · rw [decide_eq_true h, decide_eq_true (by omega)]
      · rw [decide_eq_false h, decide_eq_false (by omega)]]
    cases decide (a.val < b.val) <;> rfl
  refine Wp.brnT ?_ ?_
  · show Ty.eqb (.arr 4 (.int .u64)) (clampS b (S.of ((a.val : Int) - b.val))).1 a = true
    rw [hc]
    exact eqb_self' a
  refine Wp.brnT ?_ ?_
  · show I.eqb (clampS b (S.of ((a.val : Int) - b.val))).2 (I.of .i64 0) = true
    rw [hc]
    rfl
  exact Wp.optF awake19 rfl
end Sym

/- What the fees rest on. -/

/- The compression: what both programs compute. -/
namespace Sym
open Go

abbrev B8 : Type := I .u8
/-- A natural number as an int. -/
def i6 (n : Nat) : I .i64 := I.of .i64 (n : Int)

theorem i6_val {n : Nat} (h : n < 9223372036854775808) : (i6 n).val = n := of_i64 ⟨by omega, by omega⟩
theorem i6_nat {n : Nat} (h : n < 9223372036854775808) : I.nat (i6 n) = n := by unfold I.nat; rw [i6_val h]; simp
theorem i6_add {n m : Nat} (h : n + m < 9223372036854775808) : I.add (i6 n) (i6 m) = i6 (n + m) := by
  apply I.ext'
  rw [add_i64 (by rw [i6_val (by omega), i6_val (by omega)]; omega), i6_val (by omega), i6_val (by omega), i6_val h]
  omega
theorem i6_sub {n m : Nat} (h : n < 9223372036854775808) (hm : m ≤ n) : I.sub (i6 n) (i6 m) = i6 (n - m) := by
  apply I.ext'
  rw [sub_i64 (by rw [i6_val (by omega), i6_val (by omega)]; omega), i6_val (by omega), i6_val (by omega), i6_val (by omega)]
  omega
theorem i6_ltb {n m : Nat} (hn : n < 9223372036854775808) (hm : m < 9223372036854775808) : I.ltb (i6 n) (i6 m) = decide (n < m) := by
  simp only [I.ltb, i6_val hn, i6_val hm]
  by_cases h : n < m
  · rw [decide_eq_true h, decide_eq_true (by omega)]
  · rw [decide_eq_false h, decide_eq_false (by omega)]
theorem i6_leb {n m : Nat} (hn : n < 9223372036854775808) (hm : m < 9223372036854775808) : I.leb (i6 n) (i6 m) = decide (n ≤ m) := by
  simp only [I.leb, i6_val hn, i6_val hm]
  by_cases h : n ≤ m
  · rw [decide_eq_true h, decide_eq_true (by omega)]
  · rw [decide_eq_false h, decide_eq_false (by omega)]
theorem i6_inB {n m : Nat} (hn : n < m) (hm : n < 9223372036854775808) : inB (i6 n) m = true := iff_inB.2 (by rw [i6_val hm]; omega)
theorem i6_inB' {n m : Nat} (hn : n ≤ m) (hm : n < 9223372036854775808) : inB' (i6 n) m = true := by
  simp only [inB', Bool.and_eq_true, decide_eq_true_eq, i6_val hm]
  omega
theorem i6_mn {n m : Nat} (hn : n < 9223372036854775808) (hm : m < 9223372036854775808) : I.mn (i6 n) (i6 m) = i6 (min n m) := by
  unfold I.mn
  rw [i6_val hn, i6_val hm]
  by_cases h : (m : Int) < n
  · rw [if_pos h, Nat.min_eq_right (by omega)]
  · rw [if_neg h, Nat.min_eq_left (by omega)]
theorem i6_of (n : Nat) : I.of .i64 (n : Int) = i6 n := rfl
theorem i6_ofNat (n : Nat) : I.ofNat .i64 n = i6 n := rfl

def at8 (b : List B8) (i : Nat) : B8 := rdL (I.of .u8 0) b i

/-- How far the text at p agrees with the text d back: from n on, at most f more. -/
def mLen (b : List B8) (p d : Nat) : Nat → Nat → Nat
  | 0, n => n
  | f + 1, n => if I.eqb (at8 b (p + n)) (at8 b (p + n - d)) = true then mLen b p d f (n + 1) else n

theorem mLen_le (b : List B8) (p d : Nat) : ∀ f n, n ≤ mLen b p d f n ∧ mLen b p d f n ≤ n + f
  | 0, n => ⟨Nat.le_refl _, Nat.le_refl _⟩
  | f + 1, n => by
    have := mLen_le b p d f (n + 1)
    show n ≤ (if I.eqb (at8 b (p + n)) (at8 b (p + n - d)) = true then mLen b p d f (n + 1) else n) ∧ (if I.eqb (at8 b (p + n)) (at8 b (p + n - d)) = true then mLen b p d f (n + 1) else n) ≤ _
    split <;> omega

theorem matchLen_eq (b : List B8) (p d m : Nat) (hb : b.length ≤ 1073741824) (hm : p + m ≤ b.length) (hd : 1 ≤ d) (hdp : d ≤ p) : lz_matchLen ((b, i6 p, i6 d, i6 m, ()), ()) = some ((i6 (mLen b p d m 0), ()), ()) := by
  refine Wp.out (T := fun o => o = some ((i6 (mLen b p d m 0), ()), ())) ?_
  unfold lz_matchLen
  refine Wp.iter (fun x => ∃ n, n ≤ m ∧ x = ((b, i6 p, i6 d, i6 m, i6 n, ()), ()) ∧ mLen b p d (m - n) n = mLen b p d m 0) (fun x => m - x.1.2.2.2.2.1.val.toNat) ?_ ⟨0, by omega, rfl, rfl⟩ ?_
  · rintro x ⟨n, hn, rfl, hf⟩
    simp only [i6_ltb (show n < 9223372036854775808 by omega) (show m < 9223372036854775808 by omega)]
    refine Wp.brn (fun h => ?_) (fun h => ?_)
    · have h := of_decide_eq_true h
      simp only [i6_add (show p + n < 9223372036854775808 by omega), i6_sub (show p + n < 9223372036854775808 by omega) (show d ≤ p + n by omega), i6_nat (show p + n < 9223372036854775808 by omega), i6_nat (show p + n - d < 9223372036854775808 by omega)]
      refine Wp.brnT (i6_inB (by show p + n < b.length; omega) (by omega)) (Wp.brnT (i6_inB (by show p + n - d < b.length; omega) (by omega)) ?_)
      obtain ⟨k, hk⟩ : ∃ k, m - n = k + 1 := ⟨m - n - 1, by omega⟩
      rw [hk] at hf
      have hf' : (if I.eqb (at8 b (p + n)) (at8 b (p + n - d)) = true then mLen b p d k (n + 1) else n) = mLen b p d m 0 := hf
      refine Wp.brn (fun h2 => ?_) (fun h2 => ?_)
      · rw [if_pos (show I.eqb (at8 b (p + n)) (at8 b (p + n - d)) = true from h2)] at hf'
        refine Wp.again ⟨n + 1, by omega, ?_, by rw [show m - (n + 1) = k by omega]; exact hf'⟩ ?_
        · show ((b, i6 p, i6 d, i6 m, I.add (i6 n) (i6 1), ()), ()) = _
          rw [i6_add (by omega)]
        · show m - (I.add (i6 n) (i6 1)).val.toNat < m - (i6 n).val.toNat
          rw [i6_add (by omega), i6_val (by omega), i6_val (by omega)]
          omega
      · rw [if_neg (show ¬ I.eqb (at8 b (p + n)) (at8 b (p + n - d)) = true by rw [show I.eqb (at8 b (p + n)) (at8 b (p + n - d)) = false from h2]; simp)] at hf'
        refine Wp.done ?_
        show some ((i6 n, ()), ()) = _
        rw [hf']
    · have h := of_decide_eq_false h
      refine Wp.done ?_
      show some ((i6 n, ()), ()) = _
      rw [← hf, show m - n = 0 by omega]
      rfl
  · exact K0_ge _ (by show m - (i6 0).val.toNat < _; omega)

theorem RmatchLen_eq (b : List B8) (p d : Nat) (hb : b.length ≤ 1073741824) (hm : p ≤ b.length) (hd : 1 ≤ d) (hdp : d ≤ p) : pontageref9_matchLength ((b, i6 p, i6 d, ()), ()) = some ((i6 (mLen b p d (min 131 (b.length - p)) 0), ()), ()) := by
  obtain ⟨m, em⟩ : ∃ m, m = min 131 (b.length - p) := ⟨_, rfl⟩
  rw [← em]
  refine Wp.out (T := fun o => o = some ((i6 (mLen b p d m 0), ()), ())) ?_
  unfold pontageref9_matchLength
  refine Wp.iter (fun x => ∃ n, n ≤ m ∧ x = ((b, i6 p, i6 d, i6 n, ()), ()) ∧ mLen b p d (m - n) n = mLen b p d m 0) (fun x => m - x.1.2.2.2.1.val.toNat) ?_ ⟨0, by omega, rfl, rfl⟩ ?_
  · rintro x ⟨n, hn, rfl, hf⟩
    have hout : ¬ n < m → Wp (Rnd (fun o => o = some ((i6 (mLen b p d m 0), ()), ())) (fun x => ∃ n, n ≤ m ∧ x = ((b, i6 p, i6 d, i6 n, ()), ()) ∧ mLen b p d (m - n) n = mLen b p d m 0) (fun x => m - x.1.2.2.2.1.val.toNat) (m - (i6 n).val.toNat)) (Stp.done (some ((i6 n, ()), ()))) := by
      intro h
      refine Wp.done ?_
      show some ((i6 n, ()), ()) = _
      rw [← hf, show m - n = 0 by omega]
      rfl
    refine Wp.brn (fun h0 => ?_) (fun h0 => ?_)
    · have h0 : I.ltb (i6 n) (i6 131) = true := h0
      rw [i6_ltb (by omega) (by omega)] at h0
      have h0 := of_decide_eq_true h0
      refine Wp.brn (fun h => ?_) (fun h => ?_)
      · have h : I.ltb (I.add (i6 p) (i6 n)) (i6 b.length) = true := h
        rw [i6_add (by omega), i6_ltb (by omega) (by omega)] at h
        have h := of_decide_eq_true h
        simp only [i6_add (show p + n < 9223372036854775808 by omega), i6_sub (show p + n < 9223372036854775808 by omega) (show d ≤ p + n by omega), i6_nat (show p + n < 9223372036854775808 by omega), i6_nat (show p + n - d < 9223372036854775808 by omega)]
        refine Wp.brnT (i6_inB (by show p + n < b.length; omega) (by omega)) (Wp.brnT (i6_inB (by show p + n - d < b.length; omega) (by omega)) ?_)
        obtain ⟨k, hk⟩ : ∃ k, m - n = k + 1 := ⟨m - n - 1, by omega⟩
        rw [hk] at hf
        have hf' : (if I.eqb (at8 b (p + n)) (at8 b (p + n - d)) = true then mLen b p d k (n + 1) else n) = mLen b p d m 0 := hf
        refine Wp.brn (fun h2 => ?_) (fun h2 => ?_)
        · rw [if_pos (show I.eqb (at8 b (p + n)) (at8 b (p + n - d)) = true from h2)] at hf'
          refine Wp.again ⟨n + 1, by omega, ?_, by rw [show m - (n + 1) = k by omega]; exact hf'⟩ ?_
          · show ((b, i6 p, i6 d, I.add (i6 n) (i6 1), ()), ()) = _
            rw [i6_add (by omega)]
          · show m - (I.add (i6 n) (i6 1)).val.toNat < m - (i6 n).val.toNat
            rw [i6_add (by omega), i6_val (by omega), i6_val (by omega)]
            omega
        · rw [if_neg (show ¬ I.eqb (at8 b (p + n)) (at8 b (p + n - d)) = true by rw [show I.eqb (at8 b (p + n)) (at8 b (p + n - d)) = false from h2]; simp)] at hf'
          refine Wp.done ?_
          show some ((i6 n, ()), ()) = _
          rw [hf']
      · have h : I.ltb (I.add (i6 p) (i6 n)) (i6 b.length) = false := h
        rw [i6_add (by omega), i6_ltb (by omega) (by omega)] at h
        have h := of_decide_eq_false h
        exact hout (by omega)
    · have h0 : I.ltb (i6 n) (i6 131) = false := h0
      rw [i6_ltb (by omega) (by omega)] at h0
      have h0 := of_decide_eq_false h0
      exact hout (by omega)
  · exact K0_ge _ (by show m - (i6 0).val.toNat < _; omega)

/-- The best match: from the distance d on, f more. -/
def bst (b : List B8) (p m : Nat) : Nat → Nat → Nat × Nat → Nat × Nat
  | 0, _, r => r
  | f + 1, d, r => bst b p m f (d + 1) (if r.1 < mLen b p d m 0 then (mLen b p d m 0, d) else r)

theorem bst_full (b : List B8) (p m : Nat) : ∀ f d r, r.1 = m → bst b p m f d r = r
  | 0, d, r, h => rfl
  | f + 1, d, r, h => by
    show bst b p m f (d + 1) (if r.1 < mLen b p d m 0 then (mLen b p d m 0, d) else r) = r
    have := (mLen_le b p d m 0).2
    rw [if_neg (by omega), bst_full b p m f (d + 1) r h]

theorem bst_ok (b : List B8) (p m : Nat) : ∀ f d r, r.1 ≤ m → 1 ≤ d → d + f ≤ 1025 → (1 ≤ r.1 → 1 ≤ r.2 ∧ r.2 ≤ 1024) → r.2 ≤ 1024 → (bst b p m f d r).1 ≤ m ∧ (bst b p m f d r).2 ≤ 1024 ∧ (1 ≤ (bst b p m f d r).1 → 1 ≤ (bst b p m f d r).2 ∧ (bst b p m f d r).2 ≤ 1024)
  | 0, d, r, h, _, _, h1, h2 => ⟨h, h2, h1⟩
  | f + 1, d, r, h, hd, hf, h1, h2 => by
    have h3 := (mLen_le b p d m 0).2
    refine bst_ok b p m f (d + 1) _ ?_ (by omega) (by omega) ?_ ?_
    · split <;> omega
    · split
      · intro _; simp only; omega
      · exact h1
    · split <;> omega

def bestS (b : List B8) (p : Nat) : Nat × Nat := bst b p (min 131 (b.length - p)) (min 1024 p) 1 (0, 0)

theorem bestS_ok (b : List B8) (p : Nat) : (bestS b p).1 ≤ min 131 (b.length - p) ∧ (bestS b p).2 ≤ 1024 ∧ (1 ≤ (bestS b p).1 → 1 ≤ (bestS b p).2 ∧ (bestS b p).2 ≤ 1024) :=
  bst_ok b p _ _ 1 (0, 0) (by simp) (by omega) (by omega) (by simp) (by simp)

theorem longest_eq (b : List B8) (p : Nat) (hb : b.length ≤ 1073741824) (hp : p ≤ b.length) : lz_longestMatch ((b, i6 p, ()), ()) = some ((i6 (bestS b p).1, i6 (bestS b p).2, ()), ()) := by
  obtain ⟨m, em⟩ : ∃ m, m = min 131 (b.length - p) := ⟨_, rfl⟩
  obtain ⟨D, eD⟩ : ∃ D, D = min 1024 p := ⟨_, rfl⟩
  have eS : bestS b p = bst b p m D 1 (0, 0) := by rw [em, eD]; rfl
  rw [eS]
  refine Wp.out (T := fun o => o = some ((i6 (bst b p m D 1 (0, 0)).1, i6 (bst b p m D 1 (0, 0)).2, ()), ())) ?_
  unfold lz_longestMatch
  refine Wp.iter (fun x => ∃ d r, 1 ≤ d ∧ d ≤ D + 1 ∧ r.1 ≤ m ∧ r.2 ≤ D ∧ x = ((b, i6 p, i6 r.1, i6 r.2, i6 m, i6 d, ()), ()) ∧ bst b p m (D + 1 - d) d r = bst b p m D 1 (0, 0)) (fun x => D + 1 - x.1.2.2.2.2.2.1.val.toNat) ?_ ⟨1, (0, 0), by omega, by omega, by simp, by simp, ?_, by rw [show D + 1 - 1 = D by omega]⟩ ?_
  · rintro x ⟨d, r, h1, h2, h3, h4, rfl, hf⟩
    refine Wp.jn (fun x1 => d ≤ D ∧ x1.1.1 = b ∧ x1.1.2.1 = i6 p ∧ x1.1.2.2.1 = i6 r.1 ∧ x1.1.2.2.2.1 = i6 r.2 ∧ x1.1.2.2.2.2.1 = i6 m ∧ x1.1.2.2.2.2.2.1 = i6 d) ?_ ?_
    · rintro ⟨⟨y1, y2, y3, y4, y5, y6, y7, y8, y9, ⟨⟩⟩, ⟨⟩⟩ ⟨hd, e1, e2, e3, e4, e5, e6⟩
      simp only at e1 e2 e3 e4 e5 e6
      subst e1 e2 e3 e4 e5 e6
      refine Wp.optF (matchLen_eq y1 p d m hb (by omega) h1 (by omega)) ?_
      have hml := (mLen_le y1 p d m 0).2
      obtain ⟨k, hk⟩ : ∃ k, D + 1 - d = k + 1 := ⟨D - d, by omega⟩
      rw [hk] at hf
      have hf' : bst y1 p m k (d + 1) (if r.1 < mLen y1 p d m 0 then (mLen y1 p d m 0, d) else r) = bst y1 p m D 1 (0, 0) := hf
      have hmu : D + 1 - (I.add (i6 d) (i6 1)).val.toNat < D + 1 - (i6 d).val.toNat := by
        rw [i6_add (by omega), i6_val (by omega), i6_val (by omega)]
        omega
      refine Wp.brn (fun h => ?_) (fun h => ?_)
      · have h : I.ltb (i6 r.1) (i6 (mLen y1 p d m 0)) = true := h
        rw [i6_ltb (by omega) (by omega)] at h
        have h := of_decide_eq_true h
        rw [if_pos h] at hf'
        refine Wp.again ⟨d + 1, (mLen y1 p d m 0, d), by omega, by omega, by simp only; omega, by simp only; omega, ?_, by rw [show D + 1 - (d + 1) = k by omega]; exact hf'⟩ hmu
        show ((y1, i6 p, i6 (mLen y1 p d m 0), i6 d, i6 m, I.add (i6 d) (i6 1), ()), ()) = _
        rw [i6_add (by omega)]
      · have h : I.ltb (i6 r.1) (i6 (mLen y1 p d m 0)) = false := h
        rw [i6_ltb (by omega) (by omega)] at h
        have h := of_decide_eq_false h
        rw [if_neg h] at hf'
        refine Wp.again ⟨d + 1, r, by omega, by omega, h3, h4, ?_, by rw [show D + 1 - (d + 1) = k by omega]; exact hf'⟩ hmu
        show ((y1, i6 p, i6 r.1, i6 r.2, i6 m, I.add (i6 d) (i6 1), ()), ()) = _
        rw [i6_add (by omega)]
    · intro j hj
      have eD' : I.mn (i6 1024) (i6 p) = i6 D := by rw [i6_mn (by omega) (by omega), eD]
      refine Wp.brn (fun h => ?_) (fun h => ?_)
      · have h : I.leb (i6 d) (I.mn (i6 1024) (i6 p)) = true := h
        rw [eD', i6_leb (by omega) (by omega)] at h
        have h := of_decide_eq_true h
        refine Wp.brn (fun h => ?_) (fun h5 => ?_)
        · exact hj _ ⟨by omega, rfl, rfl, rfl, rfl, rfl, rfl⟩
        · have h5 : I.ltb (i6 r.1) (i6 m) = false := h5
          rw [i6_ltb (by omega) (by omega)] at h5
          have h5 := of_decide_eq_false h5
          refine Wp.done ?_
          show some ((i6 r.1, i6 r.2, ()), ()) = _
          rw [← hf, bst_full b p m _ _ r (by omega)]
      · have h : I.leb (i6 d) (I.mn (i6 1024) (i6 p)) = false := h
        rw [eD', i6_leb (by omega) (by omega)] at h
        have h := of_decide_eq_false h
        refine Wp.done ?_
        show some ((i6 r.1, i6 r.2, ()), ()) = _
        rw [← hf, show D + 1 - d = 0 by omega]
        rfl
  · show ((b, i6 p, i6 0, i6 0, I.mn (i6 131) (I.sub (i6 b.length) (i6 p)), i6 1, ()), ()) = _
    rw [i6_sub (by omega) hp, i6_mn (by omega) (by omega), em]
  · exact K0_ge _ (by show D + 1 - (i6 1).val.toNat < _; omega)

theorem Rbest_eq (b : List B8) (p : Nat) (hb : b.length ≤ 1073741824) (hp : p ≤ b.length) : pontageref9_best ((b, i6 p, ()), ()) = some ((i6 (bestS b p).1, i6 (bestS b p).2, ()), ()) := by
  obtain ⟨m, em⟩ : ∃ m, m = min 131 (b.length - p) := ⟨_, rfl⟩
  obtain ⟨D, eD⟩ : ∃ D, D = min 1024 p := ⟨_, rfl⟩
  have eS : bestS b p = bst b p m D 1 (0, 0) := by rw [em, eD]; rfl
  rw [eS]
  refine Wp.out (T := fun o => o = some ((i6 (bst b p m D 1 (0, 0)).1, i6 (bst b p m D 1 (0, 0)).2, ()), ())) ?_
  unfold pontageref9_best
  refine Wp.iter (fun x => ∃ d r, 1 ≤ d ∧ d ≤ D + 1 ∧ r.1 ≤ m ∧ r.2 ≤ D ∧ x = ((b, i6 p, i6 r.1, i6 r.2, i6 d, ()), ()) ∧ bst b p m (D + 1 - d) d r = bst b p m D 1 (0, 0)) (fun x => D + 1 - x.1.2.2.2.2.1.val.toNat) ?_ ⟨1, (0, 0), by omega, by omega, by simp, by simp, rfl, by rw [show D + 1 - 1 = D by omega]⟩ ?_
  · rintro x ⟨d, r, h1, h2, h3, h4, rfl, hf⟩
    refine Wp.jn (fun x1 => d ≤ D ∧ x1.1.1 = b ∧ x1.1.2.1 = i6 p ∧ x1.1.2.2.1 = i6 r.1 ∧ x1.1.2.2.2.1 = i6 r.2 ∧ x1.1.2.2.2.2.1 = i6 d) ?_ ?_
    · rintro ⟨⟨y1, y2, y3, y4, y6, y7, y8, y9, ⟨⟩⟩, ⟨⟩⟩ ⟨hd, e1, e2, e3, e4, e6⟩
      simp only at e1 e2 e3 e4 e6
      subst e1 e2 e3 e4 e6
      refine Wp.optF (RmatchLen_eq y1 p d hb hp h1 (by omega)) ?_
      rw [← em]
      have hml := (mLen_le y1 p d m 0).2
      obtain ⟨k, hk⟩ : ∃ k, D + 1 - d = k + 1 := ⟨D - d, by omega⟩
      rw [hk] at hf
      have hf' : bst y1 p m k (d + 1) (if r.1 < mLen y1 p d m 0 then (mLen y1 p d m 0, d) else r) = bst y1 p m D 1 (0, 0) := hf
      have hmu : D + 1 - (I.add (i6 d) (i6 1)).val.toNat < D + 1 - (i6 d).val.toNat := by
        rw [i6_add (by omega), i6_val (by omega), i6_val (by omega)]
        omega
      refine Wp.brn (fun h => ?_) (fun h => ?_)
      · have h : I.ltb (i6 r.1) (i6 (mLen y1 p d m 0)) = true := h
        rw [i6_ltb (by omega) (by omega)] at h
        have h := of_decide_eq_true h
        rw [if_pos h] at hf'
        refine Wp.again ⟨d + 1, (mLen y1 p d m 0, d), by omega, by omega, by simp only; omega, by simp only; omega, ?_, by rw [show D + 1 - (d + 1) = k by omega]; exact hf'⟩ hmu
        show ((y1, i6 p, i6 (mLen y1 p d m 0), i6 d, I.add (i6 d) (i6 1), ()), ()) = _
        rw [i6_add (by omega)]
      · have h : I.ltb (i6 r.1) (i6 (mLen y1 p d m 0)) = false := h
        rw [i6_ltb (by omega) (by omega)] at h
        have h := of_decide_eq_false h
        rw [if_neg h] at hf'
        refine Wp.again ⟨d + 1, r, by omega, by omega, h3, h4, ?_, by rw [show D + 1 - (d + 1) = k by omega]; exact hf'⟩ hmu
        show ((y1, i6 p, i6 r.1, i6 r.2, I.add (i6 d) (i6 1), ()), ()) = _
        rw [i6_add (by omega)]
    · intro j hj
      have hend : ¬ d ≤ D → Wp (Rnd (fun o => o = some ((i6 (bst b p m D 1 (0, 0)).1, i6 (bst b p m D 1 (0, 0)).2, ()), ())) (fun x => ∃ d r, 1 ≤ d ∧ d ≤ D + 1 ∧ r.1 ≤ m ∧ r.2 ≤ D ∧ x = ((b, i6 p, i6 r.1, i6 r.2, i6 d, ()), ()) ∧ bst b p m (D + 1 - d) d r = bst b p m D 1 (0, 0)) (fun x => D + 1 - x.1.2.2.2.2.1.val.toNat) (D + 1 - (i6 d).val.toNat)) (Stp.done (some ((i6 r.1, i6 r.2, ()), ()))) := by
        intro h
        refine Wp.done ?_
        show some ((i6 r.1, i6 r.2, ()), ()) = _
        rw [← hf, show D + 1 - d = 0 by omega]
        rfl
      refine Wp.brn (fun h => ?_) (fun h => ?_)
      · have h : I.leb (i6 d) (i6 1024) = true := h
        rw [i6_leb (by omega) (by omega)] at h
        have h := of_decide_eq_true h
        refine Wp.brn (fun h5 => ?_) (fun h5 => ?_)
        · have h5 : I.leb (i6 d) (i6 p) = true := h5
          rw [i6_leb (by omega) (by omega)] at h5
          have h5 := of_decide_eq_true h5
          exact hj _ ⟨by omega, rfl, rfl, rfl, rfl, rfl⟩
        · have h5 : I.leb (i6 d) (i6 p) = false := h5
          rw [i6_leb (by omega) (by omega)] at h5
          have h5 := of_decide_eq_false h5
          exact hend (by omega)
      · have h : I.leb (i6 d) (i6 1024) = false := h
        rw [i6_leb (by omega) (by omega)] at h
        have h := of_decide_eq_false h
        exact hend (by omega)
  · exact K0_ge _ (by show D + 1 - (i6 1).val.toNat < _; omega)
end Sym

/- The compression: both programs answer alike. -/
namespace Sym
open Go

def lits : Nat → List B8 → List B8 → List B8
  | 0, out, _ => out
  | f + 1, out, s => if s.length = 0 then out else lits f ((out ++ [I.of .u8 ((min s.length 127 : Nat) : Int)]) ++ s.take (min s.length 127)) (s.drop (min s.length 127))

theorem lits_fuel : ∀ f g out (s : List B8), s.length ≤ f → s.length ≤ g → lits f out s = lits g out s
  | 0, 0, _, _, _, _ => rfl
  | 0, g + 1, out, s, h, _ => by
    show out = if s.length = 0 then out else _
    rw [if_pos (by omega)]
  | f + 1, 0, out, s, _, h => by
    show (if s.length = 0 then out else _) = out
    rw [if_pos (by omega)]
  | f + 1, g + 1, out, s, h, h' => by
    show (if s.length = 0 then out else lits f _ _) = if s.length = 0 then out else lits g _ _
    by_cases h0 : s.length = 0
    · rw [if_pos h0, if_pos h0]
    · rw [if_neg h0, if_neg h0]
      exact lits_fuel f g _ _ (by rw [List.length_drop]; omega) (by rw [List.length_drop]; omega)

def litS (out s : List B8) : List B8 := lits s.length out s

theorem litS_nil (out : List B8) {s : List B8} (h : s.length = 0) : litS out s = out := by
  unfold litS
  rw [h]
  rfl

theorem litS_step (out : List B8) {s : List B8} (h : s.length ≠ 0) : litS out s = litS ((out ++ [I.of .u8 ((min s.length 127 : Nat) : Int)]) ++ s.take (min s.length 127)) (s.drop (min s.length 127)) := by
  unfold litS
  obtain ⟨k, hk⟩ : ∃ k, s.length = k + 1 := ⟨s.length - 1, by omega⟩
  have : lits s.length out s = lits (k + 1) out s := by rw [hk]
  rw [this]
  show (if s.length = 0 then out else lits k _ _) = _
  rw [if_neg h]
  exact lits_fuel _ _ _ _ (by rw [List.length_drop]; omega) (Nat.le_refl _)

theorem lits_len : ∀ f out (s : List B8), (lits f out s).length ≤ out.length + 2 * s.length
  | 0, out, s => by show out.length ≤ _; omega
  | f + 1, out, s => by
    show (if s.length = 0 then out else lits f _ _).length ≤ _
    by_cases h0 : s.length = 0
    · rw [if_pos h0]; omega
    · rw [if_neg h0]
      have := lits_len f ((out ++ [I.of .u8 ((min s.length 127 : Nat) : Int)]) ++ s.take (min s.length 127)) (s.drop (min s.length 127))
      simp only [List.length_append, List.length_cons, List.length_nil, List.length_take, List.length_drop] at this
      omega

theorem litS_len (out s : List B8) : (litS out s).length ≤ out.length + 2 * s.length := lits_len _ _ _

def tok (r : Nat × Nat) : List B8 := [I.of .u8 ((r.1 + 124 : Nat) : Int), I.of .u8 (((r.2 - 1) / 256 : Nat) : Int), I.of .u8 (((r.2 - 1) % 256 : Nat) : Int)]

def cmpr (b : List B8) : Nat → Nat → Nat → List B8 → List B8
  | 0, fr, _, out => litS out (b.drop fr)
  | f + 1, fr, p, out => if p < b.length then (if (bestS b p).1 < 4 then cmpr b f fr (p + 1) out else cmpr b f (p + (bestS b p).1) (p + (bestS b p).1) (litS out (subL b fr (p - fr)) ++ tok (bestS b p))) else litS out (b.drop fr)

def compS (b : List B8) : List B8 := cmpr b b.length 0 0 []

theorem cmpr_end {b : List B8} {f fr p : Nat} {out : List B8} (h : b.length ≤ p) : cmpr b f fr p out = litS out (b.drop fr) := by
  cases f with
  | zero => rfl
  | succ f =>
    show (if p < b.length then _ else litS out (b.drop fr)) = _
    rw [if_neg (by omega)]

theorem conv_i6 {n : Nat} (h : n < 9223372036854775808) : I.conv (k := .i64) .u8 (i6 n) = I.of .u8 (n : Int) := by
  unfold I.conv
  rw [i6_val h]

theorem u8_mod (n : Nat) : I.of .u8 (n : Int) = I.of .u8 ((n % 256 : Nat) : Int) := by
  apply I.ext'
  show IntKind.u8.wrap _ = IntKind.u8.wrap _
  simp only [IntKind.wrap, IntKind.bits, IntKind.signed, Bool.false_and, Bool.false_eq_true, if_false]
  omega

theorem shr8 {n : Nat} (h : n < 9223372036854775808) : I.shr (i6 n) (I.of .u64 8) = i6 (n / 256) := by
  unfold I.shr
  have e : min (I.of .u64 8).val.toNat IntKind.i64.bits = 8 := by decide
  rw [e, i6_val h, Int.fdiv_eq_ediv_of_nonneg _ (by decide)]
  show I.of .i64 _ = I.of .i64 _
  congr 1

theorem quo256 {n : Nat} (h : n < 9223372036854775808) : I.quo (i6 n) (i6 256) = i6 (n / 256) := by
  apply I.ext'
  rw [quo_i64 (by rw [i6_val h]; omega) (by decide), i6_val h, i6_val (by omega), i6_val (by omega)]
  omega

theorem rem256 {n : Nat} (h : n < 9223372036854775808) : I.rem (i6 n) (i6 256) = i6 (n % 256) := by
  apply I.ext'
  rw [rem_i64 (by rw [i6_val h]; omega) (by decide), i6_val h, i6_val (by omega), i6_val (by omega)]
  omega

theorem subL_take (s : List B8) (n : Nat) : subL s 0 n = s.take n := by simp [subL]
theorem subL_drop (s : List B8) (n : Nat) : subL s n (s.length - n) = s.drop n := by
  unfold subL
  rw [List.take_of_length_le (by rw [List.length_drop]; exact Nat.le_refl _)]

theorem Compress_eq (b : List B8) (hb : b.length ≤ 100000000) : lz_Compress ((b, ()), ()) = some ((compS b, ()), ()) ∧ (compS b).length ≤ 2 * b.length := by
  refine Wp.out (T := fun o => o = some ((compS b, ()), ()) ∧ (compS b).length ≤ 2 * b.length) ?_
  unfold lz_Compress
  refine Wp.iter (fun x => ∃ fr p out f, fr ≤ p ∧ p ≤ b.length ∧ out.length ≤ 2 * fr ∧ b.length - p ≤ f ∧ x = ((b, i6 fr, i6 p, ()), (out, ())) ∧ cmpr b f fr p out = compS b) (fun x => b.length - x.1.2.2.1.val.toNat) ?_ ⟨0, 0, [], b.length, by omega, by omega, by simp, by omega, rfl, rfl⟩ ?_
  · rintro x ⟨fr, p, out, f, h1, h2, h3, h4, rfl, hf⟩
    refine Wp.brn (fun h => ?_) (fun h => ?_)
    · have h : I.ltb (i6 p) (i6 b.length) = true := h
      rw [i6_ltb (by omega) (by omega)] at h
      have h := of_decide_eq_true h
      obtain ⟨k, rfl⟩ : ∃ k, f = k + 1 := ⟨f - 1, by omega⟩
      have hf' : (if p < b.length then (if (bestS b p).1 < 4 then cmpr b k fr (p + 1) out else cmpr b k (p + (bestS b p).1) (p + (bestS b p).1) (litS out (subL b fr (p - fr)) ++ tok (bestS b p))) else litS out (b.drop fr)) = compS b := hf
      rw [if_pos h] at hf'
      refine Wp.optF (longest_eq b p (by omega) h2) ?_
      obtain ⟨q1, q2, q3⟩ := bestS_ok b p
      refine Wp.brn (fun h5 => ?_) (fun h5 => ?_)
      · have h5 : I.ltb (i6 (bestS b p).1) (i6 4) = true := h5
        rw [i6_ltb (by omega) (by omega)] at h5
        have h5 := of_decide_eq_true h5
        rw [if_pos h5] at hf'
        refine Wp.again ⟨fr, p + 1, out, k, by omega, by omega, h3, by omega, ?_, hf'⟩ ?_
        · show ((b, i6 fr, I.add (i6 p) (i6 1), ()), (out, ())) = _
          rw [i6_add (by omega)]
        · show b.length - (I.add (i6 p) (i6 1)).val.toNat < b.length - (i6 p).val.toNat
          rw [i6_add (by omega), i6_val (by omega), i6_val (by omega)]
          omega
      · have h5 : I.ltb (i6 (bestS b p).1) (i6 4) = false := h5
        rw [i6_ltb (by omega) (by omega)] at h5
        have h5 := of_decide_eq_false h5
        rw [if_neg h5] at hf'
        have ep : I.nat (i6 p) = p := i6_nat (by omega)
        have ef : I.nat (i6 fr) = fr := i6_nat (by omega)
        simp only [ep, ef]
        refine Wp.brnT (i6_inB' (by omega) (by omega)) (Wp.brnT (i6_inB' h2 (by omega)) ?_)
        generalize hs0 : subL b fr (p - fr) = s0 at hf' ⊢
        have hs0l : s0.length = p - fr := by rw [← hs0]; simp [subL]; omega
        refine Wp.iter (fun y => ∃ s o, y = ((s, b, i6 p, i6 (bestS b p).1, i6 (bestS b p).2, ()), (o, ())) ∧ litS o s = litS out s0 ∧ o.length + 2 * s.length ≤ 2 * p) (fun y => y.1.1.length) ?_ ⟨s0, out, rfl, rfl, by omega⟩ (K0_ge _ (by show s0.length < _; omega))
        rintro y ⟨s, o, rfl, hl, hlen⟩
        refine Wp.brn (fun h6 => ?_) (fun h6 => ?_)
        · have h6 : I.ltb (i6 0) (i6 s.length) = true := h6
          rw [i6_ltb (by omega) (by omega)] at h6
          have h6 := of_decide_eq_true h6
          have em : I.mn (i6 s.length) (i6 127) = i6 (min s.length 127) := i6_mn (by omega) (by omega)
          have em' : I.mn (I.ofNat .i64 (lenL s)) (I.of .i64 127) = i6 (min s.length 127) := em
          simp only [em', i6_nat (show min s.length 127 < 9223372036854775808 by omega), conv_i6 (show min s.length 127 < 9223372036854775808 by omega), subL_take, subL_drop]
          refine Wp.brnT (iff_fits.2 (by simp [appL, lenL]; omega)) (Wp.brnT (i6_inB' (by show min s.length 127 ≤ s.length; omega) (by omega)) (Wp.brnT (iff_fits.2 (by simp [appL, lenL]; omega)) (Wp.brnT (i6_inB' (by show min s.length 127 ≤ s.length; omega) (by omega)) ?_)))
          refine Wp.again ⟨s.drop (min s.length 127), (o ++ [I.of .u8 ((min s.length 127 : Nat) : Int)]) ++ s.take (min s.length 127), rfl, ?_, ?_⟩ ?_
          · rw [← hl, litS_step o (by omega)]
          · simp only [List.length_append, List.length_cons, List.length_nil, List.length_take, List.length_drop]
            omega
          · show (s.drop (min s.length 127)).length < s.length
            rw [List.length_drop]; omega
        · have h6 : I.ltb (i6 0) (i6 s.length) = false := h6
          rw [i6_ltb (by omega) (by omega)] at h6
          have h6 := of_decide_eq_false h6
          rw [litS_nil o (by omega)] at hl
          have et : appL o ((I.conv (k := .i64) .u8 (I.add (i6 (bestS b p).1) (I.of .i64 124))) :: ((I.conv (k := .i64) .u8 (I.shr (I.sub (i6 (bestS b p).2) (I.of .i64 1)) (I.of .u64 8))) :: ((I.conv (k := .i64) .u8 (I.sub (i6 (bestS b p).2) (I.of .i64 1))) :: []))) = o ++ tok (bestS b p) := by
            have e1 : I.add (i6 (bestS b p).1) (I.of .i64 124) = i6 ((bestS b p).1 + 124) := i6_add (m := 124) (by omega)
            have e2 : I.sub (i6 (bestS b p).2) (I.of .i64 1) = i6 ((bestS b p).2 - 1) := i6_sub (m := 1) (by omega) (by omega)
            rw [e1, e2, shr8 (by omega), conv_i6 (by omega), conv_i6 (by omega), conv_i6 (by omega), u8_mod ((bestS b p).2 - 1)]
            rfl
          refine Wp.done ?_
          rw [et]
          have hlt : (tok (bestS b p)).length = 3 := rfl
          refine Wp.brnT (iff_fits.2 (by simp only [lenL, List.length_append, hlt]; omega)) ?_
          have ea : I.add (i6 p) (i6 (bestS b p).1) = i6 (p + (bestS b p).1) := i6_add (by omega)
          rw [ea]
          refine Wp.again ⟨p + (bestS b p).1, p + (bestS b p).1, o ++ tok (bestS b p), k, by omega, by omega, ?_, by omega, rfl, ?_⟩ ?_
          · simp only [List.length_append, hlt]; omega
          · rw [hl]; exact hf'
          · show b.length - (i6 (p + (bestS b p).1)).val.toNat < b.length - (i6 p).val.toNat
            rw [i6_val (by omega), i6_val (by omega)]
            omega
    · have h : I.ltb (i6 p) (i6 b.length) = false := h
      rw [i6_ltb (by omega) (by omega)] at h
      have h := of_decide_eq_false h
      rw [cmpr_end (by omega)] at hf
      refine Wp.done ?_
      have ef : I.nat (i6 fr) = fr := i6_nat (by omega)
      simp only [ef, subL_drop]
      refine Wp.brnT (i6_inB' (by show fr ≤ b.length; omega) (by omega)) ?_
      have hs0l : (b.drop fr).length = b.length - fr := List.length_drop
      generalize b.drop fr = s0 at hf hs0l ⊢
      refine Wp.iter (fun y => ∃ s o, y = ((s, ()), (o, ())) ∧ litS o s = litS out s0 ∧ o.length + 2 * s.length ≤ 2 * b.length) (fun y => y.1.1.length) ?_ ⟨s0, out, rfl, rfl, by omega⟩ (K0_ge _ (by show s0.length < _; omega))
      rintro y ⟨s, o, rfl, hl, hlen⟩
      refine Wp.brn (fun h6 => ?_) (fun h6 => ?_)
      · have h6 : I.ltb (i6 0) (i6 s.length) = true := h6
        rw [i6_ltb (by omega) (by omega)] at h6
        have h6 := of_decide_eq_true h6
        have em : I.mn (i6 s.length) (i6 127) = i6 (min s.length 127) := i6_mn (by omega) (by omega)
        have em' : I.mn (I.ofNat .i64 (lenL s)) (I.of .i64 127) = i6 (min s.length 127) := em
        simp only [em', i6_nat (show min s.length 127 < 9223372036854775808 by omega), conv_i6 (show min s.length 127 < 9223372036854775808 by omega), subL_take, subL_drop]
        refine Wp.brnT (iff_fits.2 (by simp [appL, lenL]; omega)) (Wp.brnT (i6_inB' (by show min s.length 127 ≤ s.length; omega) (by omega)) (Wp.brnT (iff_fits.2 (by simp [appL, lenL]; omega)) (Wp.brnT (i6_inB' (by show min s.length 127 ≤ s.length; omega) (by omega)) ?_)))
        refine Wp.again ⟨s.drop (min s.length 127), (o ++ [I.of .u8 ((min s.length 127 : Nat) : Int)]) ++ s.take (min s.length 127), rfl, ?_, ?_⟩ ?_
        · rw [← hl, litS_step o (by omega)]
        · simp only [List.length_append, List.length_cons, List.length_nil, List.length_take, List.length_drop]
          omega
        · show (s.drop (min s.length 127)).length < s.length
          rw [List.length_drop]; omega
      · have h6 : I.ltb (i6 0) (i6 s.length) = false := h6
        rw [i6_ltb (by omega) (by omega)] at h6
        have h6 := of_decide_eq_false h6
        rw [litS_nil o (by omega)] at hl
        refine Wp.done ?_
        rw [← hf, ← hl]
        exact ⟨rfl, by omega⟩
  · exact K0_ge _ (by show b.length - (i6 0).val.toNat < _; omega)

theorem compS_len (b : List B8) (hb : b.length ≤ 100000000) : (compS b).length ≤ 2 * b.length := (Compress_eq b hb).2
end Sym

/- The compression of the reference. -/
namespace Sym
open Go

theorem RCompress_eq (b : List B8) (hb : b.length ≤ 100000000) : pontageref9_Compress ((b, ()), ()) = some ((compS b, ()), ()) ∧ True := by
  refine Wp.out (T := fun o => o = some ((compS b, ()), ()) ∧ True) ?_
  unfold pontageref9_Compress
  refine Wp.iter (fun x => ∃ fr p out f, fr ≤ p ∧ p ≤ b.length ∧ out.length ≤ 2 * fr ∧ b.length - p ≤ f ∧ x = ((b, i6 fr, i6 p, ()), (out, ())) ∧ cmpr b f fr p out = compS b) (fun x => b.length - x.1.2.2.1.val.toNat) ?_ ⟨0, 0, [], b.length, by omega, by omega, by simp, by omega, rfl, rfl⟩ ?_
  · rintro x ⟨fr, p, out, f, h1, h2, h3, h4, rfl, hf⟩
    refine Wp.brn (fun h => ?_) (fun h => ?_)
    · have h : I.ltb (i6 p) (i6 b.length) = true := h
      rw [i6_ltb (by omega) (by omega)] at h
      have h := of_decide_eq_true h
      obtain ⟨k, rfl⟩ : ∃ k, f = k + 1 := ⟨f - 1, by omega⟩
      have hf' : (if p < b.length then (if (bestS b p).1 < 4 then cmpr b k fr (p + 1) out else cmpr b k (p + (bestS b p).1) (p + (bestS b p).1) (litS out (subL b fr (p - fr)) ++ tok (bestS b p))) else litS out (b.drop fr)) = compS b := hf
      rw [if_pos h] at hf'
      refine Wp.optF (Rbest_eq b p (by omega) h2) ?_
      obtain ⟨q1, q2, q3⟩ := bestS_ok b p
      refine Wp.brn (fun h5 => ?_) (fun h5 => ?_)
      · have h5 : I.ltb (i6 (bestS b p).1) (i6 4) = true := h5
        rw [i6_ltb (by omega) (by omega)] at h5
        have h5 := of_decide_eq_true h5
        rw [if_pos h5] at hf'
        refine Wp.again ⟨fr, p + 1, out, k, by omega, by omega, h3, by omega, ?_, hf'⟩ ?_
        · show ((b, i6 fr, I.add (i6 p) (i6 1), ()), (out, ())) = _
          rw [i6_add (by omega)]
        · show b.length - (I.add (i6 p) (i6 1)).val.toNat < b.length - (i6 p).val.toNat
          rw [i6_add (by omega), i6_val (by omega), i6_val (by omega)]
          omega
      · have h5 : I.ltb (i6 (bestS b p).1) (i6 4) = false := h5
        rw [i6_ltb (by omega) (by omega)] at h5
        have h5 := of_decide_eq_false h5
        rw [if_neg h5] at hf'
        have ep : I.nat (i6 p) = p := i6_nat (by omega)
        have ef : I.nat (i6 fr) = fr := i6_nat (by omega)
        simp only [ep, ef]
        refine Wp.brnT (i6_inB' (by omega) (by omega)) (Wp.brnT (i6_inB' h2 (by omega)) ?_)
        generalize hs0 : subL b fr (p - fr) = s0 at hf' ⊢
        have hs0l : s0.length = p - fr := by rw [← hs0]; simp [subL]; omega
        refine Wp.iter (fun y => ∃ s o, y = ((s, b, i6 p, i6 (bestS b p).1, i6 (bestS b p).2, ()), (o, ())) ∧ litS o s = litS out s0 ∧ o.length + 2 * s.length ≤ 2 * p) (fun y => y.1.1.length) ?_ ⟨s0, out, rfl, rfl, by omega⟩ (K0_ge _ (by show s0.length < _; omega))
        rintro y ⟨s, o, rfl, hl, hlen⟩
        refine Wp.brn (fun h6 => ?_) (fun h6 => ?_)
        · have h6 : I.ltb (i6 0) (i6 s.length) = true := h6
          rw [i6_ltb (by omega) (by omega)] at h6
          have h6 := of_decide_eq_true h6
          refine Wp.brn (fun h7 => ?_) (fun h7 => ?_)
          · have h7 : I.ltb (i6 127) (i6 s.length) = true := h7
            rw [i6_ltb (by omega) (by omega)] at h7
            have h7 := of_decide_eq_true h7
            simp only [subL_take, subL_drop]
            refine Wp.brnT (iff_fits.2 (by simp [appL, lenL]; omega)) (Wp.brnT (i6_inB' (n := 127) (by show 127 ≤ s.length; omega) (by omega)) (Wp.brnT (iff_fits.2 (by simp [appL, lenL]; omega)) (Wp.brnT (i6_inB' (n := 127) (by show 127 ≤ s.length; omega) (by omega)) ?_)))
            refine Wp.again ⟨s.drop 127, (o ++ [I.of .u8 ((127 : Nat) : Int)]) ++ s.take 127, rfl, ?_, ?_⟩ ?_
            · rw [← hl, litS_step o (by omega), show min s.length 127 = 127 by omega]
            · simp only [List.length_append, List.length_cons, List.length_nil, List.length_take, List.length_drop]
              omega
            · show (s.drop 127).length < s.length
              rw [List.length_drop]; omega
          · have h7 : I.ltb (i6 127) (i6 s.length) = false := h7
            rw [i6_ltb (by omega) (by omega)] at h7
            have h7 := of_decide_eq_false h7
            have em' : I.ofNat .i64 (lenL s) = i6 s.length := rfl
            simp only [em', i6_nat (show s.length < 9223372036854775808 by omega), conv_i6 (show s.length < 9223372036854775808 by omega), subL_take, subL_drop]
            refine Wp.brnT (iff_fits.2 (by simp [appL, lenL]; omega)) (Wp.brnT (i6_inB' (n := s.length) (by show s.length ≤ s.length; omega) (by omega)) (Wp.brnT (iff_fits.2 (by simp [appL, lenL]; omega)) (Wp.brnT (i6_inB' (n := s.length) (by show s.length ≤ s.length; omega) (by omega)) ?_)))
            refine Wp.again ⟨s.drop s.length, (o ++ [I.of .u8 ((s.length : Nat) : Int)]) ++ s.take s.length, rfl, ?_, ?_⟩ ?_
            · rw [← hl, litS_step o (by omega), show min s.length 127 = s.length by omega]
            · simp only [List.length_append, List.length_cons, List.length_nil, List.length_take, List.length_drop]
              omega
            · show (s.drop s.length).length < s.length
              rw [List.length_drop]; omega
        · have h6 : I.ltb (i6 0) (i6 s.length) = false := h6
          rw [i6_ltb (by omega) (by omega)] at h6
          have h6 := of_decide_eq_false h6
          rw [litS_nil o (by omega)] at hl
          have et : appL o ((I.conv (k := .i64) .u8 (I.add (i6 (bestS b p).1) (I.of .i64 124))) :: ((I.conv (k := .i64) .u8 (I.quo (I.sub (i6 (bestS b p).2) (I.of .i64 1)) (I.of .i64 256))) :: ((I.conv (k := .i64) .u8 (I.rem (I.sub (i6 (bestS b p).2) (I.of .i64 1)) (I.of .i64 256))) :: []))) = o ++ tok (bestS b p) := by
            have e1 : I.add (i6 (bestS b p).1) (I.of .i64 124) = i6 ((bestS b p).1 + 124) := i6_add (m := 124) (by omega)
            have e2 : I.sub (i6 (bestS b p).2) (I.of .i64 1) = i6 ((bestS b p).2 - 1) := i6_sub (m := 1) (by omega) (by omega)
            have e3 : I.quo (i6 ((bestS b p).2 - 1)) (I.of .i64 256) = i6 (((bestS b p).2 - 1) / 256) := quo256 (by omega)
            have e4 : I.rem (i6 ((bestS b p).2 - 1)) (I.of .i64 256) = i6 (((bestS b p).2 - 1) % 256) := rem256 (by omega)
            rw [e1, e2, e3, e4, conv_i6 (by omega), conv_i6 (by omega), conv_i6 (by omega)]
            rfl
          refine Wp.done ?_
          rw [et]
          have hlt : (tok (bestS b p)).length = 3 := rfl
          refine Wp.brnT (iff_fits.2 (by simp only [lenL, List.length_append, hlt]; omega)) ?_
          have ea : I.add (i6 p) (i6 (bestS b p).1) = i6 (p + (bestS b p).1) := i6_add (by omega)
          rw [ea]
          refine Wp.again ⟨p + (bestS b p).1, p + (bestS b p).1, o ++ tok (bestS b p), k, by omega, by omega, ?_, by omega, rfl, ?_⟩ ?_
          · simp only [List.length_append, hlt]; omega
          · rw [hl]; exact hf'
          · show b.length - (i6 (p + (bestS b p).1)).val.toNat < b.length - (i6 p).val.toNat
            rw [i6_val (by omega), i6_val (by omega)]
            omega
    · have h : I.ltb (i6 p) (i6 b.length) = false := h
      rw [i6_ltb (by omega) (by omega)] at h
      have h := of_decide_eq_false h
      rw [cmpr_end (by omega)] at hf
      refine Wp.done ?_
      have ef : I.nat (i6 fr) = fr := i6_nat (by omega)
      simp only [ef, subL_drop]
      refine Wp.brnT (i6_inB' (by show fr ≤ b.length; omega) (by omega)) ?_
      have hs0l : (b.drop fr).length = b.length - fr := List.length_drop
      generalize b.drop fr = s0 at hf hs0l ⊢
      refine Wp.iter (fun y => ∃ s o, y = ((s, ()), (o, ())) ∧ litS o s = litS out s0 ∧ o.length + 2 * s.length ≤ 2 * b.length) (fun y => y.1.1.length) ?_ ⟨s0, out, rfl, rfl, by omega⟩ (K0_ge _ (by show s0.length < _; omega))
      rintro y ⟨s, o, rfl, hl, hlen⟩
      refine Wp.brn (fun h6 => ?_) (fun h6 => ?_)
      · have h6 : I.ltb (i6 0) (i6 s.length) = true := h6
        rw [i6_ltb (by omega) (by omega)] at h6
        have h6 := of_decide_eq_true h6
        refine Wp.brn (fun h7 => ?_) (fun h7 => ?_)
        · have h7 : I.ltb (i6 127) (i6 s.length) = true := h7
          rw [i6_ltb (by omega) (by omega)] at h7
          have h7 := of_decide_eq_true h7
          simp only [subL_take, subL_drop]
          refine Wp.brnT (iff_fits.2 (by simp [appL, lenL]; omega)) (Wp.brnT (i6_inB' (n := 127) (by show 127 ≤ s.length; omega) (by omega)) (Wp.brnT (iff_fits.2 (by simp [appL, lenL]; omega)) (Wp.brnT (i6_inB' (n := 127) (by show 127 ≤ s.length; omega) (by omega)) ?_)))
          refine Wp.again ⟨s.drop 127, (o ++ [I.of .u8 ((127 : Nat) : Int)]) ++ s.take 127, rfl, ?_, ?_⟩ ?_
          · rw [← hl, litS_step o (by omega), show min s.length 127 = 127 by omega]
          · simp only [List.length_append, List.length_cons, List.length_nil, List.length_take, List.length_drop]
            omega
          · show (s.drop 127).length < s.length
            rw [List.length_drop]; omega
        · have h7 : I.ltb (i6 127) (i6 s.length) = false := h7
          rw [i6_ltb (by omega) (by omega)] at h7
          have h7 := of_decide_eq_false h7
          have em' : I.ofNat .i64 (lenL s) = i6 s.length := rfl
          simp only [em', i6_nat (show s.length < 9223372036854775808 by omega), conv_i6 (show s.length < 9223372036854775808 by omega), subL_take, subL_drop]
          refine Wp.brnT (iff_fits.2 (by simp [appL, lenL]; omega)) (Wp.brnT (i6_inB' (n := s.length) (by show s.length ≤ s.length; omega) (by omega)) (Wp.brnT (iff_fits.2 (by simp [appL, lenL]; omega)) (Wp.brnT (i6_inB' (n := s.length) (by show s.length ≤ s.length; omega) (by omega)) ?_)))
          refine Wp.again ⟨s.drop s.length, (o ++ [I.of .u8 ((s.length : Nat) : Int)]) ++ s.take s.length, rfl, ?_, ?_⟩ ?_
          · rw [← hl, litS_step o (by omega), show min s.length 127 = s.length by omega]
          · simp only [List.length_append, List.length_cons, List.length_nil, List.length_take, List.length_drop]
            omega
          · show (s.drop s.length).length < s.length
            rw [List.length_drop]; omega
      · have h6 : I.ltb (i6 0) (i6 s.length) = false := h6
        rw [i6_ltb (by omega) (by omega)] at h6
        have h6 := of_decide_eq_false h6
        rw [litS_nil o (by omega)] at hl
        refine Wp.done ?_
        rw [← hf, ← hl]
        exact ⟨rfl, trivial⟩
  · exact K0_ge _ (by show b.length - (i6 0).val.toNat < _; omega)

end Sym

/- The fees: units of data, gas, the shares. -/
namespace Sym
open Go

theorem Wp.jnI {X R : Type} {T : R → Prop} {J : X → R} {f : (X → R) → R} (h : Wp T (f J)) : Wp T (Sym.jn J f) := h

def unitsS (b : List B8) (lo hi : I .u64) : I .u64 × I .i64 :=
  if I.ltb hi lo = true then (I.of .u64 0, I.of .i64 2) else if 4096 < b.length then (I.of .u64 0, I.of .i64 6)
  else (I.mn (I.mx (I.mul (I.of .u64 16) (I.conv (k := .i64) .u64 (i6 (compS b).length))) lo) hi, I.of .i64 0)

theorem Units_eq (b : List B8) (lo hi : I .u64) (hb : b.length ≤ 100000000) : sizeest_Units ((b, lo, hi, ()), ()) = some (((unitsS b lo hi).1, (unitsS b lo hi).2, ()), ()) := by
  refine Wp.out (T := fun o => o = some (((unitsS b lo hi).1, (unitsS b lo hi).2, ()), ())) ?_
  unfold sizeest_Units unitsS
  refine Wp.brn (fun h => ?_) (fun h => ?_)
  · rw [if_pos h]; rfl
  · rw [if_neg (by rw [show I.ltb hi lo = false from h]; simp)]
    refine Wp.brn (fun h2 => ?_) (fun h2 => ?_)
    · have h2 : I.ltb (i6 4096) (i6 b.length) = true := h2
      rw [i6_ltb (by omega) (by omega)] at h2
      rw [if_pos (of_decide_eq_true h2)]; rfl
    · have h2 : I.ltb (i6 4096) (i6 b.length) = false := h2
      rw [i6_ltb (by omega) (by omega)] at h2
      rw [if_neg (of_decide_eq_false h2)]
      exact Wp.optF (Compress_eq b hb).1 rfl

theorem mul_comm' {k : IntKind} (a b : I k) : I.mul a b = I.mul b a := by unfold I.mul; rw [Int.mul_comm]

theorem RUnits_eq (b : List B8) (lo hi : I .u64) (hb : b.length ≤ 100000000) : pontageref10_Units ((b, lo, hi, ()), ()) = some (((unitsS b lo hi).1, (unitsS b lo hi).2, ()), ()) := by
  refine Wp.out (T := fun o => o = some (((unitsS b lo hi).1, (unitsS b lo hi).2, ()), ())) ?_
  unfold pontageref10_Units unitsS
  refine Wp.brn (fun h => ?_) (fun h => ?_)
  · rw [if_pos h]; rfl
  · rw [if_neg (by rw [show I.ltb hi lo = false from h]; simp)]
    refine Wp.brn (fun h2 => ?_) (fun h2 => ?_)
    · have h2 : I.ltb (i6 4096) (i6 b.length) = true := h2
      rw [i6_ltb (by omega) (by omega)] at h2
      rw [if_pos (of_decide_eq_true h2)]; rfl
    · have h2 : I.ltb (i6 4096) (i6 b.length) = false := h2
      rw [i6_ltb (by omega) (by omega)] at h2
      rw [if_neg (of_decide_eq_false h2)]
      refine Wp.optF (RCompress_eq b hb).1 (Wp.jnI ?_)
      have em : I.mul (I.conv (k := .i64) .u64 (I.ofNat .i64 (lenL (compS b)))) (I.of .u64 16) = I.mul (I.of .u64 16) (I.conv (k := .i64) .u64 (i6 (compS b).length)) := mul_comm' _ _
      simp only [em]
      generalize I.mul (I.of .u64 16) (I.conv (k := .i64) .u64 (i6 (compS b).length)) = n
      unfold I.mn I.mx
      refine Wp.brn (fun h3 => ?_) (fun h3 => ?_)
      · have h3 := iff_ltb.1 h3
        rw [if_pos h3]
        refine Wp.brn (fun h4 => ?_) (fun h4 => ?_)
        · have h4 := iff_ltb.1 h4; rw [if_pos h4]; rfl
        · have h4 := niff_ltb.1 h4; rw [if_neg (Int.not_lt.2 h4)]; rfl
      · have h3 := niff_ltb.1 h3
        rw [if_neg (Int.not_lt.2 h3)]
        refine Wp.brn (fun h4 => ?_) (fun h4 => ?_)
        · have h4 := iff_ltb.1 h4; rw [if_pos h4]; rfl
        · have h4 := niff_ltb.1 h4; rw [if_neg (Int.not_lt.2 h4)]; rfl

abbrev CH : Type := I .u64 × I .u64 × I .u64 × I .u64 × Bool × U × U × U × U × U × Unit
def zU : U := (I.of .u64 0, I.of .u64 0, I.of .u64 0, I.of .u64 0, ())
def zCH : CH := (I.of .u64 0, I.of .u64 0, I.of .u64 0, I.of .u64 0, false, zU, zU, zU, zU, zU, ())

theorem Cost_eq (u : I .u64) (c : U) : sizeest_Cost ((u, c, ()), ()) = some (((errS (u.nat * c.val)).1, (errS (u.nat * c.val)).2, ()), ()) := by
  refine Wp.out (T := fun o => o = some (((errS (u.nat * c.val)).1, (errS (u.nat * c.val)).2, ()), ())) ?_
  unfold sizeest_Cost
  have m := Mul_ok (u64U u) c
  rw [u64U_val] at m
  exact Wp.optF (u256_FromUint64 u) (Wp.optF m rfl)

/-- Units, the poster's gas, an error: behind the checks of the fee itself. -/
def gasT (data : List B8) (lim : I .u64) (base unit : U) (lo hi : I .u64) : I .u64 × I .u64 × I .i64 :=
  if I.neb (unitsS data lo hi).2 (I.of .i64 0) = true then (I.of .u64 0, I.of .u64 0, (unitsS data lo hi).2)
  else if U.top ≤ (unitsS data lo hi).1.nat * unit.val then (I.of .u64 0, I.of .u64 0, I.of .i64 4)
  else if lim.nat < (unitsS data lo hi).1.nat * unit.val / base.val then (I.of .u64 0, I.of .u64 0, I.of .i64 13)
  else ((unitsS data lo hi).1, I.of .u64 (((unitsS data lo hi).1.nat * unit.val / base.val : Nat) : Int), I.of .i64 0)

def exeN (lim ex po : I .u64) : Nat := min ex.nat (lim.nat - po.nat)

def metS (g : I .u64 × I .u64 × I .i64) (lim ex : I .u64) : CH × I .i64 :=
  if I.neb g.2.2 (I.of .i64 0) = true then (zCH, g.2.2)
  else ((g.1, g.2.1, I.of .u64 (exeN lim ex g.2.1 : Int), I.of .u64 ((g.2.1.nat + exeN lim ex g.2.1 : Nat) : Int), decide (exeN lim ex g.2.1 < ex.nat), zU, zU, zU, zU, zU, ()), I.of .i64 0)

theorem U_fst {n : Nat} (h : n < 18446744073709551616) : (U.of n).1 = I.of .u64 (n : Int) := by
  unfold U.of
  rw [Nat.mod_eq_of_lt h]

theorem U_fst' (a : U) (h : a.val < 18446744073709551616) : a.1 = I.of .u64 (a.val : Int) := by
  have := U_fst h
  rw [U.of_val] at this
  exact this

theorem u64_ext {a b : I .u64} (h : a.nat = b.nat) : a = b := by
  apply I.ext'
  rw [← nat_val, ← nat_val, h]

theorem sub_nat_le (a b : I .u64) (h : b.nat ≤ a.nat) : (I.sub a b).nat = a.nat - b.nat := by
  have h1 := nat_val a
  have h2 := nat_val b
  have h3 := nat_val (I.sub a b)
  rw [sub_u64 (by omega)] at h3
  omega

theorem mn_nat (a b : I .u64) : (I.mn a b).nat = min a.nat b.nat := by
  have h1 := nat_val a
  have h2 := nat_val b
  unfold I.mn
  split <;> omega

theorem meter_eq (f1 f2 f3 lim ex : I .u64) (data : List B8) (v cap tip base unit : U) (p : Prm) (hd : data.length ≤ 100000000) (hbase : base.val ≠ 0) :
    txfee_meter (((f1, f2, f3, v, lim, cap, tip, ex, data, ()), base, unit, p, ()), ()) = some (((metS (gasT data lim base unit p.2.2.2.2.2.2.2.2.2.2.1 p.2.2.2.2.2.2.2.2.2.2.2.1) lim ex).1, (metS (gasT data lim base unit p.2.2.2.2.2.2.2.2.2.2.1 p.2.2.2.2.2.2.2.2.2.2.2.1) lim ex).2, ()), ()) := by
  generalize hg : metS (gasT data lim base unit p.2.2.2.2.2.2.2.2.2.2.1 p.2.2.2.2.2.2.2.2.2.2.2.1) lim ex = R
  refine Wp.out (T := fun o => o = some ((R.1, R.2, ()), ())) ?_
  unfold txfee_meter
  refine Wp.optF (Units_eq data _ _ hd) ?_
  unfold gasT at hg
  generalize unitsS data p.2.2.2.2.2.2.2.2.2.2.1 p.2.2.2.2.2.2.2.2.2.2.2.1 = u at hg ⊢
  refine Wp.brn (fun h => ?_) (fun h => ?_)
  · have h : I.neb u.2 (I.of .i64 0) = true := h
    rw [if_pos h] at hg
    unfold metS at hg
    rw [if_pos h] at hg
    rw [← hg]; rfl
  · have h : I.neb u.2 (I.of .i64 0) = false := h
    rw [if_neg (by rw [h]; simp)] at hg
    refine Wp.optF (Cost_eq u.1 unit) ?_
    by_cases hc : U.top ≤ u.1.nat * unit.val
    · rw [if_pos hc] at hg
      rw [errS_ge hc]
      refine Wp.brnT neb40 ?_
      rw [← hg]; rfl
    · rw [if_neg hc] at hg
      rw [errS_lt (by omega)]
      refine Wp.brnF neb00 ?_
      refine Wp.optF (DivMod_ok _ base) ?_
      have e1 : (U.of (u.1.nat * unit.val)).val = u.1.nat * unit.val := U.val_of (by omega)
      unfold divModS
      rw [if_neg hbase, e1]
      refine Wp.brnF neb00 ?_
      have hq : u.1.nat * unit.val / base.val < U.top := Nat.lt_of_le_of_lt (Nat.div_le_self _ _) (by omega)
      generalize u.1.nat * unit.val / base.val = q at hg hq ⊢
      refine Wp.optF (UUint64_eq (U.of q)) ?_
      rw [U.val_of hq]
      refine Wp.jnI ?_
      have hl := nat_lt lim
      by_cases h64 : q < 18446744073709551616
      · rw [if_pos h64, U_fst h64]
        refine Wp.brnF rfl ?_
        have hqn : (I.of .u64 (q : Int)).nat = q := of_nat h64
        refine Wp.brn (fun h3 => ?_) (fun h3 => ?_)
        · rw [ltb_nat, hqn] at h3
          have h3 : lim.nat < q := of_decide_eq_true h3
          rw [if_pos h3] at hg
          rw [← hg]; rfl
        · rw [ltb_nat, hqn] at h3
          have h3 : ¬ lim.nat < q := of_decide_eq_false h3
          rw [if_neg h3] at hg
          rw [← hg]
          unfold metS
          simp only
          rw [if_neg (by rw [neb00]; simp)]
          have es : (I.sub lim (I.of .u64 (q : Int))).nat = lim.nat - q := by rw [sub_nat_le _ _ (by omega), hqn]
          have em : I.mn ex (I.sub lim (I.of .u64 (q : Int))) = I.of .u64 (exeN lim ex (I.of .u64 (q : Int)) : Int) := by
            apply u64_ext
            rw [mn_nat, es, of_nat (by unfold exeN; have := nat_lt ex; omega)]
            unfold exeN
            rw [hqn]
          have hx : exeN lim ex (I.of .u64 (q : Int)) ≤ lim.nat - q := by unfold exeN; rw [hqn]; omega
          have hxn : (I.of .u64 (exeN lim ex (I.of .u64 (q : Int)) : Int)).nat = exeN lim ex (I.of .u64 (q : Int)) := of_nat (by omega)
          have ea : I.add (I.of .u64 (q : Int)) (I.of .u64 (exeN lim ex (I.of .u64 (q : Int)) : Int)) = I.of .u64 (((I.of .u64 (q : Int)).nat + exeN lim ex (I.of .u64 (q : Int)) : Nat) : Int) := by
            apply u64_ext
            rw [add_nat_lt _ _ (by omega), hxn, hqn, of_nat (by omega)]
          have el : I.ltb (I.of .u64 (exeN lim ex (I.of .u64 (q : Int)) : Int)) ex = decide (exeN lim ex (I.of .u64 (q : Int)) < ex.nat) := by
            rw [ltb_nat, hxn]
          show some _ = _
          simp only [em, ea, el]
          rfl
      · rw [if_neg h64]
        refine Wp.brnT rfl ?_
        rw [if_pos (by omega)] at hg
        rw [← hg]; rfl

def netN (base icap : U) (e : Nat) : Nat := base.val * e - min icap.val base.val * e
def burnN (base icap : U) (bips : I .u64) (e : Nat) : Nat := netN base icap e * bips.nat / 10000
def restN (base icap tip : U) (bips : I .u64) (e used : Nat) : Nat := netN base icap e - burnN base icap bips e + tip.val * used

def distS (c : CH) (base icap : U) (bips : I .u64) : CH × I .i64 :=
  if U.top ≤ base.val * c.2.1.nat ∨ U.top ≤ base.val * c.2.2.1.nat ∨ U.top ≤ restN base icap c.2.2.2.2.2.1 bips c.2.2.1.nat c.2.2.2.1.nat then (zCH, I.of .i64 4)
  else ((c.1, c.2.1, c.2.2.1, c.2.2.2.1, c.2.2.2.2.1, c.2.2.2.2.2.1, U.of (base.val * c.2.1.nat), U.of (min icap.val base.val * c.2.2.1.nat), U.of (restN base icap c.2.2.2.2.2.1 bips c.2.2.1.nat c.2.2.2.1.nat), U.of (burnN base icap bips c.2.2.1.nat), ()), I.of .i64 0)

theorem dist_eq (c : CH) (base : U) (p : Prm) (hb : p.2.2.2.2.2.2.1.nat ≤ 10000) :
    txfee_distribute ((c, base, p, ()), ()) = some (((distS c base p.2.2.2.2.2.1 p.2.2.2.2.2.2.1).1, (distS c base p.2.2.2.2.2.1 p.2.2.2.2.2.2.1).2, ()), ()) := by
  obtain ⟨u, po, e, us, oog, tp, z1, z2, z3, z4, ⟨⟩⟩ := c
  generalize hg : distS (u, po, e, us, oog, tp, z1, z2, z3, z4, ()) base p.2.2.2.2.2.1 p.2.2.2.2.2.2.1 = R
  refine Wp.out (T := fun o => o = some ((R.1, R.2, ()), ())) ?_
  unfold distS at hg
  simp only at hg
  unfold txfee_distribute
  have m1 := Mul_ok base (u64U po)
  have m2 := Mul_ok base (u64U e)
  have m3 := Mul_ok (minS p.2.2.2.2.2.1 base) (u64U e)
  have m4 := Mul_ok tp (u64U us)
  rw [u64U_val] at m1 m2 m3 m4
  rw [minS_val] at m3
  refine Wp.optF (u256_FromUint64 po) (Wp.optF m1 (Wp.optF (u256_FromUint64 e) (Wp.optF m2 (Wp.optF (uint256_Min_eq p.2.2.2.2.2.1 base) (Wp.optF (u256_FromUint64 e) (Wp.optF m3 (Wp.optF (u256_FromUint64 us) (Wp.optF m4 (Wp.jnI ?_)))))))))
  by_cases h1 : U.top ≤ base.val * po.nat
  · rw [if_pos (.inl h1)] at hg
    rw [errS_ge h1]
    refine Wp.brnT neb40 ?_
    rw [← hg]; rfl
  rw [errS_lt (Nat.lt_of_not_le h1)]
  refine Wp.brnF neb00 ?_
  by_cases h2 : U.top ≤ base.val * e.nat
  · rw [if_pos (.inr (.inl h2))] at hg
    rw [errS_ge h2]
    refine Wp.brnT neb40 ?_
    rw [← hg]; rfl
  rw [errS_lt (Nat.lt_of_not_le h2)]
  refine Wp.brnF neb00 ?_
  have h3 : min p.2.2.2.2.2.1.val base.val * e.nat ≤ base.val * e.nat := Nat.mul_le_mul_right _ (Nat.min_le_right _ _)
  rw [errS_lt (n := min p.2.2.2.2.2.1.val base.val * e.nat) (by omega)]
  refine Wp.brnF neb00 ?_
  by_cases h4 : U.top ≤ tp.val * us.nat
  · rw [if_pos (.inr (.inr (by unfold restN; omega)))] at hg
    rw [errS_ge h4]
    refine Wp.brnT neb40 ?_
    rw [← hg]; rfl
  rw [errS_lt (Nat.lt_of_not_le h4)]
  refine Wp.brnF neb00 ?_
  have hs := SatSub_ok (U.of (base.val * e.nat)) (U.of (min p.2.2.2.2.2.1.val base.val * e.nat))
  rw [U.val_of (by omega), U.val_of (by omega)] at hs
  refine Wp.optF hs ?_
  have hnet : netN base p.2.2.2.2.2.1 e.nat = base.val * e.nat - min p.2.2.2.2.2.1.val base.val * e.nat := rfl
  have hsp := Split_ok (U.of (netN base p.2.2.2.2.2.1 e.nat)) p.2.2.2.2.2.2.1 hb
  rw [U.val_of (by omega)] at hsp
  refine Wp.optF hsp ?_
  refine Wp.brnF neb00 ?_
  have hbl := share_le (netN base p.2.2.2.2.2.1 e.nat) p.2.2.2.2.2.2.1.nat hb
  have ha := Add_errS (U.of (netN base p.2.2.2.2.2.1 e.nat - netN base p.2.2.2.2.2.1 e.nat * p.2.2.2.2.2.2.1.nat / 10000)) (U.of (tp.val * us.nat))
  rw [U.val_of (by omega), U.val_of (by omega)] at ha
  refine Wp.optF ha ?_
  have hr : netN base p.2.2.2.2.2.1 e.nat - netN base p.2.2.2.2.2.1 e.nat * p.2.2.2.2.2.2.1.nat / 10000 + tp.val * us.nat = restN base p.2.2.2.2.2.1 tp p.2.2.2.2.2.2.1 e.nat us.nat := rfl
  rw [hr]
  by_cases h5 : U.top ≤ restN base p.2.2.2.2.2.1 tp p.2.2.2.2.2.2.1 e.nat us.nat
  · rw [if_pos (.inr (.inr h5))] at hg
    rw [errS_ge h5]
    refine Wp.brnT neb40 ?_
    rw [← hg]; rfl
  · rw [if_neg (by rintro (h | h | h) <;> omega)] at hg
    rw [errS_lt (Nat.lt_of_not_le h5)]
    refine Wp.brnF neb00 ?_
    rw [← hg]
    rfl
end Sym

/- The fees: the whole charge; both programs answer alike. -/
namespace Sym
open Go

def chg (g : I .u64 × I .u64 × I .i64) (lim ex : I .u64) (tip : U) : CH :=
  (g.1, g.2.1, I.of .u64 (exeN lim ex g.2.1 : Int), I.of .u64 ((g.2.1.nat + exeN lim ex g.2.1 : Nat) : Int), decide (exeN lim ex g.2.1 < ex.nat), tip, zU, zU, zU, zU, ())

def gasR (data : List B8) (lim : I .u64) (cap base unit : U) (p : Prm) : I .u64 × I .u64 × I .i64 :=
  if validP p = false then (I.of .u64 0, I.of .u64 0, I.of .i64 15)
  else if base.val = 0 then (I.of .u64 0, I.of .u64 0, I.of .i64 5)
  else if cap.val < base.val then (I.of .u64 0, I.of .u64 0, I.of .i64 12)
  else gasT data lim base unit p.2.2.2.2.2.2.2.2.2.2.1 p.2.2.2.2.2.2.2.2.2.2.2.1

def feeS (data : List B8) (lim ex : I .u64) (cap tip base unit : U) (p : Prm) : CH × I .i64 :=
  if I.neb (gasR data lim cap base unit p).2.2 (I.of .i64 0) = true then (zCH, (gasR data lim cap base unit p).2.2)
  else distS (chg (gasR data lim cap base unit p) lim ex (U.of (min tip.val (cap.val - base.val)))) base p.2.2.2.2.2.1 p.2.2.2.2.2.2.1

theorem validP_bips {p : Prm} (h : validP p = true) : p.2.2.2.2.2.2.1.nat ≤ 10000 := by
  rw [validP_iff] at h
  have h7 := of_decide_eq_true (h 7 (by omega) (by omega))
  replace h7 : (I.of .u64 0).nat ≤ (u64U p.2.2.2.2.2.2.1).val ∧ (u64U p.2.2.2.2.2.2.1).val ≤ (I.of .u64 10000).nat := h7
  rw [u64U_val] at h7
  have e2 : (I.of .u64 10000).nat = 10000 := rfl
  rw [e2] at h7
  exact h7.2

theorem zU_val : U.val (I.of .u64 0, I.of .u64 0, I.of .u64 0, I.of .u64 0, ()) = 0 := rfl

theorem eq0 (b : U) : Ty.eqb (.arr 4 (.int .u64)) b (I.of .u64 0, I.of .u64 0, I.of .u64 0, I.of .u64 0, ()) = decide (b.val = 0) := (eqb_u256 b _).trans (by show decide (b.val = U.val zU) = _; rw [show U.val zU = 0 from rfl])
theorem lt64 {n : Nat} (h : n < 18446744073709551616) : n < 65536 ^ 64 := Nat.lt_trans h (by decide)

theorem Compute_eq (f1 f2 f3 lim ex : I .u64) (data : List B8) (v cap tip base unit : U) (p : Prm) (hd : data.length ≤ 100000000) :
    txfee_Compute (((f1, f2, f3, v, lim, cap, tip, ex, data, ()), base, unit, p, ()), ()) = some (((feeS data lim ex cap tip base unit p).1, (feeS data lim ex cap tip base unit p).2, ()), ()) := by
  generalize hg : feeS data lim ex cap tip base unit p = R
  refine Wp.out (T := fun o => o = some ((R.1, R.2, ()), ())) ?_
  unfold feeS gasR at hg
  unfold txfee_Compute
  refine Wp.optF (PValid_eq p) ?_
  refine Wp.brn (fun h => ?_) (fun h => ?_)
  · have h : validP p = false := bnot_t h
    rw [if_pos h] at hg
    rw [← hg]; rfl
  have hv : validP p = true := bnot_f h
  rw [if_neg (show ¬ validP p = false by rw [hv]; simp)] at hg
  refine Wp.brn (fun h => ?_) (fun h => ?_)
  · have h : base.val = 0 := of_decide_eq_true ((eq0 base).symm.trans h)
    rw [if_pos h] at hg
    rw [← hg]; rfl
  have h0 : base.val ≠ 0 := of_decide_eq_false ((eq0 base).symm.trans h)
  rw [if_neg h0] at hg
  refine Wp.optF (txfee_GasPrice_eq f1 f2 f3 lim ex data v cap tip base) ?_
  unfold gasS
  by_cases hc : base.val ≤ cap.val
  · rw [if_neg (Nat.not_lt.2 hc)] at hg
    rw [if_pos hc]
    refine Wp.brnF neb00 ?_
    refine Wp.optF (meter_eq f1 f2 f3 lim ex data v cap tip base unit p hd h0) ?_
    unfold metS
    generalize gasT data lim base unit p.2.2.2.2.2.2.2.2.2.2.1 p.2.2.2.2.2.2.2.2.2.2.2.1 = g at hg ⊢
    by_cases he : I.neb g.2.2 (I.of .i64 0) = true
    · rw [if_pos he] at hg ⊢
      refine Wp.brnT he ?_
      rw [← hg]; rfl
    · rw [if_neg he] at hg ⊢
      refine Wp.brnF neb00 ?_
      have hs := SatSub_ok (U.of (base.val + min tip.val (cap.val - base.val))) base
      have hcl := cap.lt
      rw [U.val_of (by omega), Nat.add_sub_cancel_left] at hs
      refine Wp.optF hs ?_
      refine Wp.optF (dist_eq (chg g lim ex (U.of (min tip.val (cap.val - base.val)))) base p (validP_bips hv)) ?_
      rw [hg]
      rfl
  · rw [if_pos (Nat.lt_of_not_le hc)] at hg
    rw [if_neg hc]
    refine Wp.brnT rfl ?_
    rw [← hg]; rfl

theorem bigB {n : Nat} (h : n < 20000 * (U.top * 18446744073709551616)) : n < 65536 ^ 64 := Nat.lt_trans h (by decide)
theorem bigB' {n : Nat} (h : n < U.top * 18446744073709551616) : n < 65536 ^ 64 := Nat.lt_trans h (by decide)
theorem mulB (a : U) {x : Nat} (hx : x < 18446744073709551616) : a.val * x < U.top * 18446744073709551616 := by
  have h1 : a.val * x ≤ a.val * 18446744073709551616 := Nat.mul_le_mul_left _ (Nat.le_of_lt hx)
  have h2 : a.val * 18446744073709551616 < U.top * 18446744073709551616 := Nat.mul_lt_mul_of_pos_right a.lt (by decide)
  omega

theorem cmp_lt0 (m n : Nat) : I.ltb (cmpN m n) (I.of .i64 0) = decide (m < n) := by
  unfold cmpN
  by_cases h : m < n
  · rw [if_pos h, decide_eq_true h]; rfl
  · rw [if_neg h, decide_eq_false h]; split <;> rfl
theorem cmp_gt0 (m n : Nat) : I.ltb (I.of .i64 0) (cmpN m n) = decide (n < m) := by
  unfold cmpN
  by_cases h : m < n
  · rw [if_pos h, decide_eq_false (by omega)]; rfl
  · rw [if_neg h]
    by_cases h2 : n < m
    · rw [if_pos h2, decide_eq_true h2]; rfl
    · rw [if_neg h2, decide_eq_false h2]; rfl

theorem Rgas23_eq (f1 f2 f3 lim ex : I .u64) (data : List B8) (v cap tip base unit : U) (p : Prm) (hd : data.length ≤ 100000000) :
    pontageref23_gas (((f1, f2, f3, v, lim, cap, tip, ex, data, ()), base, unit, p, ()), ()) = some (((gasR data lim cap base unit p).1, (gasR data lim cap base unit p).2.1, (gasR data lim cap base unit p).2.2, ()), ()) := by
  generalize hg : gasR data lim cap base unit p = R
  refine Wp.out (T := fun o => o = some ((R.1, R.2.1, R.2.2, ()), ())) ?_
  unfold gasR at hg
  unfold pontageref23_gas
  refine Wp.optF (RPValid_eq p) ?_
  refine Wp.brn (fun h => ?_) (fun h => ?_)
  · have h : validP p = false := bnot_t h
    rw [if_pos h] at hg
    rw [← hg]; rfl
  have hv : validP p = true := bnot_f h
  rw [if_neg (show ¬ validP p = false by rw [hv]; simp)] at hg
  refine Wp.optF (IsZero_eq base) ?_
  refine Wp.brn (fun h => ?_) (fun h => ?_)
  · have h : base.val = 0 := of_decide_eq_true h
    rw [if_pos h] at hg
    rw [← hg]; rfl
  have h0 : base.val ≠ 0 := of_decide_eq_false h
  rw [if_neg h0] at hg
  have hcl := cap.lt
  have hbl := base.lt
  have hul := unit.lt
  obtain ⟨l1, e1, b1⟩ := FromUint256_ok cap
  obtain ⟨l2, e2, b2⟩ := FromUint256_ok base
  refine Wp.optF e1 (Wp.optF e2 ?_)
  refine Wp.optF (Cmp_ok b1 b2 (len_of b1 (lt_big (by omega))) (len_of b2 (lt_big (by omega)))) ?_
  refine Wp.brn (fun h => ?_) (fun h => ?_)
  · rw [cmp_lt0] at h
    rw [if_pos (of_decide_eq_true h)] at hg
    rw [← hg]; rfl
  rw [cmp_lt0] at h
  rw [if_neg (of_decide_eq_false h)] at hg
  refine Wp.optF (RUnits_eq data _ _ hd) ?_
  unfold gasT at hg
  generalize unitsS data p.2.2.2.2.2.2.2.2.2.2.1 p.2.2.2.2.2.2.2.2.2.2.2.1 = u at hg ⊢
  refine Wp.brn (fun h => ?_) (fun h => ?_)
  · have h : I.neb u.2 (I.of .i64 0) = true := h
    rw [if_pos h] at hg
    rw [← hg]; rfl
  have h : I.neb u.2 (I.of .i64 0) = false := h
  rw [if_neg (show ¬ I.neb u.2 (I.of .i64 0) = true by rw [h]; simp)] at hg
  obtain ⟨l3, e3, b3⟩ := FromUint64_ok u.1
  obtain ⟨l4, e4, b4⟩ := FromUint256_ok unit
  have hu1 := nat_lt u.1
  have hm := mulB unit hu1
  rw [Nat.mul_comm] at hm
  refine Wp.optF e3 (Wp.optF e4 ?_)
  obtain ⟨l5, e5, b5⟩ := BMul_ok b3 b4 (len_of b3 (lt64 hu1)) (len_of b4 (lt_big (by omega)))
  have hl5 := len_of b5 (bigB' hm)
  refine Wp.optF e5 (Wp.optF (Fits_ok b5 (Nat.lt_of_le_of_lt hl5 (by decide))) ?_)
  refine Wp.brn (fun h => ?_) (fun h => ?_)
  · have h := of_decide_eq_false (bnot_t h)
    rw [if_pos (by omega)] at hg
    rw [← hg]; rfl
  have h := of_decide_eq_true (bnot_f h)
  rw [if_neg (by omega)] at hg
  refine Wp.optF e2 ?_
  obtain ⟨l6, l7, e6, b6, b7⟩ := BDiv_ok b5 b2 h0 hl5 (Nat.le_trans (b2.len.2 (Nat.lt_of_lt_of_le base.lt (Nat.le_of_eq top_pow'))) (by decide))
  have hq : u.1.nat * unit.val / base.val < U.top := Nat.lt_of_le_of_lt (Nat.div_le_self _ _) (by omega)
  generalize u.1.nat * unit.val / base.val = q at hg hq b6 ⊢
  refine Wp.optF e6 ?_
  obtain ⟨l8, e8, b8⟩ := FromUint64_ok lim
  have hlim := nat_lt lim
  refine Wp.optF e8 ?_
  refine Wp.optF (Cmp_ok b6 b8 (len_of b6 (lt_big (by omega))) (len_of b8 (lt64 (by omega)))) ?_
  refine Wp.brn (fun h => ?_) (fun h => ?_)
  · rw [cmp_gt0] at h
    rw [if_pos (of_decide_eq_true h)] at hg
    rw [← hg]; rfl
  rw [cmp_gt0] at h
  have h := of_decide_eq_false h
  rw [if_neg h] at hg
  refine Wp.optF (ToUint256_ok b6 hq) ?_
  rw [← hg]
  show some ((u.1, (U.of q).1, I.of .i64 0, ()), ()) = _
  rw [U_fst (by omega)]

def rsl (R : CH × I .i64) : Option ((CH × I .i64 × Unit) × Unit) := some ((R.1, R.2, ()), ())

theorem RCompute_eq (f1 f2 f3 lim ex : I .u64) (data : List B8) (v cap tip base unit : U) (p : Prm) (hd : data.length ≤ 100000000) :
    pontageref23_Compute (((f1, f2, f3, v, lim, cap, tip, ex, data, ()), base, unit, p, ()), ()) = some (((feeS data lim ex cap tip base unit p).1, (feeS data lim ex cap tip base unit p).2, ()), ()) := by
  generalize hg : feeS data lim ex cap tip base unit p = R
  refine Wp.out (T := fun o => o = some ((R.1, R.2, ()), ())) ?_
  unfold feeS at hg
  unfold pontageref23_Compute
  refine Wp.optF (Rgas23_eq f1 f2 f3 lim ex data v cap tip base unit p hd) ?_
  have hprem : I.neb (gasR data lim cap base unit p).2.2 (I.of .i64 0) = false → validP p = true ∧ base.val ≤ cap.val ∧ (gasR data lim cap base unit p).2.1.nat ≤ lim.nat := by
    intro h
    unfold gasR gasT at h ⊢
    split at h
    · exact absurd h (by decide)
    · rename_i hv
      rw [if_neg hv]
      split at h
      · exact absurd h (by decide)
      · rename_i h0
        rw [if_neg h0]
        split at h
        · exact absurd h (by decide)
        · rename_i hc
          rw [if_neg hc]
          split at h
          · rename_i hu
            exact absurd (h.symm.trans hu) (by decide)
          · rename_i hu
            rw [if_neg hu]
            split at h
            · exact absurd h (by decide)
            · rename_i ht
              rw [if_neg ht]
              split at h
              · exact absurd h (by decide)
              · rename_i hq
                rw [if_neg hq]
                refine ⟨by simpa using hv, Nat.le_of_not_lt hc, ?_⟩
                have := nat_lt lim
                show (I.of .u64 (_ : Int)).nat ≤ _
                rw [of_nat (by omega)]
                omega
  generalize gasR data lim cap base unit p = g at hg hprem ⊢
  obtain ⟨u, po, er⟩ := g
  refine Wp.brn (fun h => ?_) (fun h => ?_)
  · have h : I.neb er (I.of .i64 0) = true := h
    rw [if_pos h] at hg
    rw [← hg]; rfl
  have h : I.neb er (I.of .i64 0) = false := h
  obtain ⟨hv, hc, hpo⟩ := hprem h
  simp only at hpo
  rw [if_neg (show ¬ I.neb ((u, po, er) : I .u64 × I .u64 × I .i64).2.2 (I.of .i64 0) = true by rw [show I.neb ((u, po, er) : I .u64 × I .u64 × I .i64).2.2 (I.of .i64 0) = false from h]; simp)] at hg
  have hb := validP_bips hv
  have hlim := nat_lt lim
  have hex := nat_lt ex
  have hcl := cap.lt
  have hbl := base.lt
  have htl := tip.lt
  obtain ⟨E, hE⟩ : ∃ E, E = exeN lim ex po := ⟨_, rfl⟩
  have hEl : E ≤ lim.nat - po.nat := by rw [hE]; unfold exeN; omega
  have hEn : (I.of .u64 (E : Int)).nat = E := of_nat (by omega)
  refine Wp.jn (fun x => x = ((po, ()), ((f1, f2, f3, v, lim, cap, tip, ex, data, ()), base, p, zCH, (u, po, I.of .u64 (E : Int), I.of .u64 0, decide (E < ex.nat), zU, zU, zU, zU, zU, ()), ()))) ?_ ?_
  · rintro x rfl
    unfold distS chg at hg
    simp only at hg
    rw [← hE] at hg
    rw [hEn, of_nat (n := po.nat + E) (by omega)] at hg
    obtain ⟨l2, e2, b2⟩ := FromUint256_ok base
    obtain ⟨l3, e3, b3⟩ := tip_ok f1 f2 f3 lim ex data v cap tip base hc
    obtain ⟨l4, e4, b4⟩ := FromUint64_ok po
    have hpo64 := nat_lt po
    have hl2 := len_of b2 (lt_big (by omega))
    have hl4 := len_of b4 (lt64 hpo64)
    have hm1 := mulB base hpo64
    refine Wp.optF e2 (Wp.optF e3 (Wp.optF e4 ?_))
    obtain ⟨l5, e5, b5⟩ := BMul_ok b2 b4 hl2 hl4
    have hl5 := len_of b5 (bigB' hm1)
    refine Wp.optF e5 ?_
    obtain ⟨l6, e6, b6⟩ := FromUint64_ok (I.of .u64 (E : Int))
    rw [hEn] at b6
    have hE64 : E < 18446744073709551616 := by omega
    have hl6 := len_of b6 (lt64 hE64)
    refine Wp.optF e6 ?_
    obtain ⟨l7, e7, b7⟩ := BMul_ok b2 b6 hl2 hl6
    have hm2 := mulB base hE64
    have hl7 := len_of b7 (bigB' hm2)
    refine Wp.optF e7 ?_
    obtain ⟨l8, e8, b8⟩ := FromUint256_ok p.2.2.2.2.2.1
    have hil := U.lt p.2.2.2.2.2.1
    have hl8 := len_of b8 (lt_big (by omega))
    refine Wp.optF e8 ?_
    obtain ⟨l9, e9, b9⟩ := BMin_ok b8 b2 hl8 hl2
    have hl9 := len_of b9 (lt_big (by omega))
    refine Wp.optF e9 (Wp.optF e6 ?_)
    obtain ⟨l11, e11, b11⟩ := BMul_ok b9 b6 hl9 hl6
    have hinf : min (U.val p.2.2.2.2.2.1) base.val * E ≤ base.val * E := Nat.mul_le_mul_right _ (Nat.min_le_right _ _)
    refine Wp.optF e11 ?_
    obtain ⟨l12, e12, b12⟩ := Sub_ok b7 b11 hinf hl7
    have hl12 := len_of b12 (bigB (by omega))
    have hnet : base.val * E - min (U.val p.2.2.2.2.2.1) base.val * E = netN base p.2.2.2.2.2.1 E := rfl
    rw [hnet] at b12
    refine Wp.optF e12 ?_
    obtain ⟨l13, e13, b13⟩ := FromUint64_ok p.2.2.2.2.2.2.1
    have hl13 := len_of b13 (lt64 (by omega))
    refine Wp.optF e13 ?_
    obtain ⟨l14, e14, b14⟩ := BMul_ok b12 b13 hl12 hl13
    have hm3 : netN base p.2.2.2.2.2.1 E * p.2.2.2.2.2.2.1.nat ≤ netN base p.2.2.2.2.2.1 E * 10000 := Nat.mul_le_mul_left _ hb
    have hl14 := len_of b14 (bigB (by omega))
    refine Wp.optF e14 ?_
    obtain ⟨l15, e15, b15⟩ := FromUint64_ok (I.of .u64 10000)
    have e10k : (I.of .u64 10000).nat = 10000 := rfl
    rw [e10k] at b15
    refine Wp.optF e15 ?_
    obtain ⟨l16, l16', e16, b16, _⟩ := BDiv_ok b14 b15 (by decide) hl14 (Nat.le_trans ((IsB.len b15 (k := 1)).2 (by decide)) (by decide))
    have hburn : netN base p.2.2.2.2.2.1 E * p.2.2.2.2.2.2.1.nat / 10000 = burnN base p.2.2.2.2.2.1 p.2.2.2.2.2.2.1 E := rfl
    rw [hburn] at b16
    have hbl2 : burnN base p.2.2.2.2.2.1 p.2.2.2.2.2.2.1 E ≤ netN base p.2.2.2.2.2.1 E := share_le _ _ hb
    refine Wp.optF e16 ?_
    obtain ⟨l17, e17, b17⟩ := Sub_ok b12 b16 hbl2 hl12
    refine Wp.optF e17 ?_
    have eadd : I.add po (I.of .u64 (E : Int)) = I.of .u64 ((po.nat + E : Nat) : Int) := by
      apply u64_ext
      rw [add_nat_lt _ _ (by omega), hEn, of_nat (by omega)]
    obtain ⟨l18, e18, b18⟩ := FromUint64_ok (I.add po (I.of .u64 (E : Int)))
    rw [add_nat_lt _ _ (by omega), hEn] at b18
    refine Wp.optF e18 ?_
    have hl18 := len_of b18 (lt64 (by omega))
    have hl3 := len_of b3 (lt_big (by omega))
    obtain ⟨l19, e19, b19⟩ := BMul_ok b3 b18 hl3 hl18
    have hm4 : min tip.val (cap.val - base.val) * (po.nat + E) ≤ cap.val * (po.nat + E) := Nat.mul_le_mul_right _ (by omega)
    have hm5 := mulB cap (x := po.nat + E) (by omega)
    have hl19 := len_of b19 (bigB (by omega))
    refine Wp.optF e19 ?_
    obtain ⟨l20, e20, b20⟩ := Add_ok b17 b19 (len_of b17 (bigB (by omega))) hl19
    have hrest : netN base p.2.2.2.2.2.1 E - burnN base p.2.2.2.2.2.1 p.2.2.2.2.2.2.1 E + min tip.val (cap.val - base.val) * (po.nat + E) = restN base p.2.2.2.2.2.1 (U.of (min tip.val (cap.val - base.val))) p.2.2.2.2.2.2.1 E (po.nat + E) := by
      unfold restN
      rw [U.val_of (by omega)]
    have hl20 := len_of b20 (bigB (by omega))
    rw [hrest] at b20
    refine Wp.optF e20 (Wp.jnI ?_)
    refine Wp.optF (Fits_ok b5 (Nat.lt_of_le_of_lt hl5 (by decide))) ?_
    refine Wp.brn (fun h => ?_) (fun h => ?_)
    · have h := of_decide_eq_false (bnot_t h)
      rw [if_pos (.inl (by omega))] at hg
      rw [← hg]; rfl
    have h1 := of_decide_eq_true (bnot_f h)
    refine Wp.optF (Fits_ok b7 (Nat.lt_of_le_of_lt hl7 (by decide))) ?_
    refine Wp.brn (fun h => ?_) (fun h => ?_)
    · have h := of_decide_eq_false (bnot_t h)
      rw [if_pos (.inr (.inl (by omega)))] at hg
      rw [← hg]; rfl
    have h2 := of_decide_eq_true (bnot_f h)
    refine Wp.optF (Fits_ok b20 (Nat.lt_of_le_of_lt hl20 (by decide))) ?_
    refine Wp.brn (fun h => ?_) (fun h => ?_)
    · have h := of_decide_eq_false (bnot_t h)
      rw [if_pos (.inr (.inr (by omega)))] at hg
      rw [← hg]; rfl
    have h3 := of_decide_eq_true (bnot_f h)
    rw [if_neg (by rintro (h | h | h) <;> omega)] at hg
    refine Wp.optF (ToUint256_ok b3 (by omega)) (Wp.optF (ToUint256_ok b5 h1) (Wp.optF (ToUint256_ok b11 (by omega)) (Wp.optF (ToUint256_ok b16 (by omega)) (Wp.optF (ToUint256_ok b20 h3) ?_))))
    rw [← hg, ← eadd]
    rfl
  · intro j hj
    have es : (I.sub lim po).nat = lim.nat - po.nat := sub_nat_le _ _ hpo
    refine Wp.brn (fun h => ?_) (fun h => ?_)
    · rw [ltb_nat] at h
      have h : (I.sub lim po).nat < ex.nat := of_decide_eq_true h
      rw [es] at h
      have hEe : E = lim.nat - po.nat := by rw [hE]; unfold exeN; omega
      have e1 : I.sub lim po = I.of .u64 (E : Int) := u64_ext (by rw [es, hEn, hEe])
      refine hj _ ?_
      rw [show decide (E < ex.nat) = true from decide_eq_true (by omega), ← e1]
      rfl
    · rw [ltb_nat] at h
      have h : ¬ (I.sub lim po).nat < ex.nat := of_decide_eq_false h
      rw [es] at h
      have hEe : E = ex.nat := by rw [hE]; unfold exeN; omega
      have e1 : ex = I.of .u64 (E : Int) := u64_ext (by rw [hEn, hEe])
      refine hj _ ?_
      rw [show decide (E < ex.nat) = false from decide_eq_false (by omega), ← e1]
      rfl
end Sym

/- The fees: what is built, what a charge without an error is. -/
namespace Sym
open Go

theorem build_len (n0 n1 n2 n3 n4 n5 : I .u64) (sh : I .i64) (d : List (I .i64)) (hd : d.length ≤ 1000) : ∃ (f1 f2 f3 f5 f8 : I .u64) (f9 : List (I .u8)) (v cap tip base c : U),
    pontagelaw23_build (((n0, n1, n2, n3, n4, n5, sh, d, ()), ()), ()) = some (((f1, f2, f3, v, f5, cap, tip, f8, f9, ()), base, c, ()), ()) ∧ f9.length ≤ 24 * d.length := by
  have key : Wp (fun o => ∃ (f1 f2 f3 f5 f8 : I .u64) (f9 : List (I .u8)) (v cap tip base c : U), o = some (((f1, f2, f3, v, f5, cap, tip, f8, f9, ()), base, c, ()), ()) ∧ f9.length ≤ 24 * d.length) (pontagelaw23_build (((n0, n1, n2, n3, n4, n5, sh, d, ()), ()), ())) := by
    unfold pontagelaw23_build
    refine Wp.brnT (nn_u64 _) (Wp.brnT (nz_shl _ _ (by decide) (by decide)) ?_)
    refine Wp.brnT (nn_u64 _) (Wp.brnT (nz_shl _ _ (by decide) (by decide)) ?_)
    refine Wp.brnT (nn_u64 _) (Wp.brnT (nz_shl _ _ (by decide) (by decide)) ?_)
    refine Wp.optF (uint256_SaturatingAdd_ok _ _) ?_
    refine Wp.brnT (nn_u64 _) (Wp.brnT (nz_shl _ _ (by decide) (by decide)) ?_)
    refine Wp.brnT (nn_u64 _) (Wp.brnT (nz_shl _ _ (by decide) (by decide)) ?_)
    obtain ⟨out, hout, hlen⟩ := RepetitiveBytes_ok d hd
    refine Wp.optF hout ?_
    refine Wp.jn (fun x => x.2.2.2.2.2.2.1.2.2.2.2.2.2.2.2.1.length ≤ 24 * d.length) (fun x hx => ?_) (fun j hj => ?_)
    · refine Wp.brnT (nn_u64 _) (Wp.brnT (nz_shl _ _ (by decide) (by decide)) ?_)
      obtain ⟨x0, x1, x2, x3, x4, x5, ⟨f1, f2, f3, v, f5, cap, tip, f8, f9, ⟨⟩⟩, ⟨⟩⟩ := x
      exact ⟨f1, f2, f3, f5, f8, f9, v, cap, tip, _, _, rfl, hx⟩
    · obtain ⟨y, hy, _⟩ := pontagelaw0_Mod_ok sh (I.of .i64 8) (by decide)
      refine Wp.optF hy ?_
      refine Wp.brn (fun _ => hj _ hlen) (fun _ => Wp.brn (fun _ => ?_) (fun _ => Wp.brn (fun _ => ?_) (fun _ => Wp.brn (fun _ => hj _ hlen) (fun _ => hj _ hlen))))
      · obtain ⟨e, he⟩ := pontagelaw0_EdgeUint256_ok n2 n1 (I.quo sh (I.of .i64 8))
        exact Wp.optF he (hj _ hlen)
      · obtain ⟨e, he⟩ := pontagelaw0_EdgeUint256_ok n1 n2 (I.quo sh (I.of .i64 8))
        refine Wp.optF he ?_
        obtain ⟨e2, he2⟩ := pontagelaw0_EdgeUint256_ok n2 n1 (I.quo sh (I.of .i64 64))
        exact Wp.optF he2 (hj _ hlen)
  exact key.out

theorem gasT_ok {data : List B8} {lim : I .u64} {base unit : U} {lo hi : I .u64} (h : I.neb (gasT data lim base unit lo hi).2.2 (I.of .i64 0) = false) :
    ∃ u : I .u64, unitsS data lo hi = (u, I.of .i64 0) ∧ u.nat * unit.val < U.top ∧ u.nat * unit.val / base.val ≤ lim.nat ∧ gasT data lim base unit lo hi = (u, I.of .u64 ((u.nat * unit.val / base.val : Nat) : Int), I.of .i64 0) := by
  unfold gasT at h ⊢
  split at h
  · rename_i hu
    exact absurd (h.symm.trans hu) (by decide)
  · rename_i hu
    rw [if_neg hu]
    split at h
    · exact absurd h (by decide)
    · rename_i ht
      rw [if_neg ht]
      split at h
      · exact absurd h (by decide)
      · rename_i hq
        rw [if_neg hq]
        generalize unitsS data lo hi = r at *
        obtain ⟨u, e⟩ := r
        have he : e = I.of .i64 0 := by
          apply I.ext'
          have : ¬ I.neb e (I.of .i64 0) = true := hu
          rw [iff_neb] at this
          exact Classical.not_not.1 this
        subst he
        exact ⟨u, rfl, by simpa using Nat.lt_of_not_le ht, by simpa using Nat.le_of_not_lt hq, rfl⟩

theorem fee_err {data : List B8} {lim ex : I .u64} {cap tip base unit : U} {p : Prm} (h : I.neb (feeS data lim ex cap tip base unit p).2 (I.of .i64 0) = true) : (feeS data lim ex cap tip base unit p).1 = zCH := by
  unfold feeS at h ⊢
  split at h
  · rename_i hg; rw [if_pos hg]
  · rename_i hg
    rw [if_neg hg]
    unfold distS at h ⊢
    split at h
    · rename_i hd; rw [if_pos hd]
    · exact absurd h (show ¬ I.neb (I.of .i64 0) (I.of .i64 0) = true by decide)

theorem fee_ok {data : List B8} {lim ex : I .u64} {cap tip base unit : U} {p : Prm} (h : I.neb (feeS data lim ex cap tip base unit p).2 (I.of .i64 0) = false) :
    ∃ (u : I .u64) (po E T : Nat), base.val ≠ 0 ∧ base.val ≤ cap.val ∧ T = min tip.val (cap.val - base.val) ∧ unitsS data p.2.2.2.2.2.2.2.2.2.2.1 p.2.2.2.2.2.2.2.2.2.2.2.1 = (u, I.of .i64 0) ∧ u.nat * unit.val < U.top ∧ po = u.nat * unit.val / base.val ∧ po ≤ lim.nat ∧ E = min ex.nat (lim.nat - po) ∧
      base.val * po < U.top ∧ base.val * E < U.top ∧ netN base p.2.2.2.2.2.1 E - burnN base p.2.2.2.2.2.1 p.2.2.2.2.2.2.1 E + T * (po + E) < U.top ∧
      feeS data lim ex cap tip base unit p = ((u, I.of .u64 (po : Int), I.of .u64 (E : Int), I.of .u64 ((po + E : Nat) : Int), decide (E < ex.nat), U.of T, U.of (base.val * po), U.of (min (U.val p.2.2.2.2.2.1) base.val * E), U.of (netN base p.2.2.2.2.2.1 E - burnN base p.2.2.2.2.2.1 p.2.2.2.2.2.2.1 E + T * (po + E)), U.of (burnN base p.2.2.2.2.2.1 p.2.2.2.2.2.2.1 E), ()), I.of .i64 0) := by
  have hcl := cap.lt
  have hlim := nat_lt lim
  unfold feeS at h ⊢
  split at h
  · rename_i hg
    exact absurd (h.symm.trans hg) (by decide)
  · rename_i hg
    rw [if_neg hg]
    have hg' : I.neb (gasR data lim cap base unit p).2.2 (I.of .i64 0) = false := by simpa using hg
    have hR : gasR data lim cap base unit p = gasT data lim base unit p.2.2.2.2.2.2.2.2.2.2.1 p.2.2.2.2.2.2.2.2.2.2.2.1 ∧ base.val ≠ 0 ∧ base.val ≤ cap.val := by
      unfold gasR at hg' ⊢
      split at hg'
      · exact absurd hg' (by decide)
      · rename_i hv
        rw [if_neg hv]
        split at hg'
        · exact absurd hg' (by decide)
        · rename_i h0
          rw [if_neg h0]
          split at hg'
          · exact absurd hg' (by decide)
          · rename_i hc
            rw [if_neg hc]
            exact ⟨rfl, h0, Nat.le_of_not_lt hc⟩
    obtain ⟨hR, h0, hc⟩ := hR
    rw [hR] at h hg' ⊢
    obtain ⟨u, hu, hcost, hq, hG⟩ := gasT_ok hg'
    rw [hG] at h ⊢
    obtain ⟨po, hpo⟩ : ∃ po, po = u.nat * unit.val / base.val := ⟨_, rfl⟩
    rw [← hpo] at h hq ⊢
    have hpn : (I.of .u64 (po : Int)).nat = po := of_nat (by omega)
    obtain ⟨E, hE⟩ : ∃ E, E = min ex.nat (lim.nat - po) := ⟨_, rfl⟩
    have hEx : exeN lim ex (I.of .u64 (po : Int)) = E := by unfold exeN; rw [hpn, hE]
    have hEl : E ≤ lim.nat - po := by omega
    have hEn : (I.of .u64 (E : Int)).nat = E := of_nat (by omega)
    unfold distS chg at h ⊢
    simp only [hEx, hpn, hEn, of_nat (n := po + E) (by omega)] at h ⊢
    unfold restN at h ⊢
    rw [U.val_of (n := min tip.val (cap.val - base.val)) (by omega)] at h ⊢
    split at h
    · exact absurd h (by decide)
    · rename_i hd
      rw [if_neg hd]
      have d1 : ¬ U.top ≤ base.val * po := fun h => hd (.inl h)
      have d2 : ¬ U.top ≤ base.val * E := fun h => hd (.inr (.inl h))
      have d3 := fun h => hd (.inr (.inr h))
      exact ⟨u, po, E, _, h0, hc, rfl, hu, hcost, hpo, hq, hE, Nat.lt_of_not_le d1, Nat.lt_of_not_le d2, Nat.lt_of_not_le d3, rfl⟩

theorem SatMul_lt (a b : U) (h : a.val * b.val < U.top) : uint256_SaturatingMul ((a, b, ()), ()) = some ((U.of (a.val * b.val), ()), ()) := by
  refine Wp.out (T := fun o => o = some ((U.of (a.val * b.val), ()), ())) ?_
  unfold uint256_SaturatingMul
  refine Wp.optF (Mul_ok a b) ?_
  rw [errS_lt h]
  exact Wp.brnT rfl rfl
end Sym

/- The laws of the fees. -/
namespace Sym
open Go

theorem nebSelf {k : IntKind} (a : I k) : I.neb a a = false := by simp [I.neb]

theorem u64U_one (x : I .u64) : ((x, I.of .u64 0, I.of .u64 0, I.of .u64 0, ()) : U) = u64U x := rfl

theorem eqb_refl : ∀ (t : Ty), t.eqOk = true → ∀ x : t.D, Ty.eqb t x x = true := by
  intro t
  induction t with
  | int k => intro _ x; simp [Ty.eqb]
  | bool => intro _ x; exact (by decide : ∀ b : Bool, (b == b) = true) x
  | nil => intro _ x; rfl
  | cons a b iha ihb =>
    intro h x
    simp only [Ty.eqOk, Bool.and_eq_true] at h
    simp only [Ty.eqb, Bool.and_eq_true]
    exact ⟨iha h.1 _, ihb h.2 _⟩
  | arr n t ih =>
    intro h x
    have : ∀ (n : Nat) (x : Arr t.D n), Arr.eqb t.eqb n x x = true := by
      intro n
      induction n with
      | zero => intro x; rfl
      | succ n ihn => intro x; simp only [Arr.eqb, Bool.and_eq_true]; exact ⟨ih h _, ihn _⟩
    exact this n x
  | str => intro h; cases h
  | sl t _ => intro h; cases h
  | opq => intro h; cases h

abbrev chTy : Ty := (.cons (.int .u64) (.cons (.int .u64) (.cons (.int .u64) (.cons (.int .u64) (.cons .bool (.cons (.arr 4 (.int .u64)) (.cons (.arr 4 (.int .u64)) (.cons (.arr 4 (.int .u64)) (.cons (.arr 4 (.int .u64)) (.cons (.arr 4 (.int .u64)) .nil))))))))))

theorem eqbCH (a : CH) : Ty.eqb chTy a a = true := eqb_refl chTy rfl a

theorem few_data {d : List (I .i64)} (hd : d.length ≤ LIM) (h : I.ltb (I.of .i64 30) (I.ofNat .i64 (lenL d)) = false) : d.length ≤ 30 := by
  have h : I.ltb (i6 30) (i6 d.length) = false := h
  have : LIM = 140737488355328 := by decide
  rw [i6_ltb (by omega) (by omega)] at h
  have := of_decide_eq_false h
  omega

theorem total_law (n0 n1 n2 n3 n4 n5 : I .u64) (sh : I .i64) (d : List (I .i64)) (v : V8) (hd : d.length ≤ LIM) : pontagelaw23_TxFeeTotal (((n0, n1, n2, n3, n4, n5, sh, d, ()), v, ()), ()) = some ((true, ()), ()) := by
  refine Wp.out (T := fun o => o = some ((true, ()), ())) ?_
  unfold pontagelaw23_TxFeeTotal
  refine Wp.brn (fun h => Wp.optF pontagelaw23_awake_eq rfl) (fun h => ?_)
  have hd30 := few_data hd h
  obtain ⟨f1, f2, f3, lim, ex, data, vv, cap, tip, base, unit, hb, hlen⟩ := build_len n0 n1 n2 n3 n4 n5 sh d (by omega)
  obtain ⟨p, hp, hv⟩ := ValidParams_ok v
  refine Wp.optF hb (Wp.optF hp (Wp.optF (Compute_eq f1 f2 f3 lim ex data vv cap tip base unit p (by omega)) ?_))
  refine Wp.brn (fun h => ?_) (fun h => ?_)
  · have e := fee_err (show I.neb (feeS data lim ex cap tip base unit p).2 (I.of .i64 0) = true from h)
    refine Wp.brnT ?_ (Wp.optF pontagelaw23_awake_eq rfl)
    show Ty.eqb chTy (feeS data lim ex cap tip base unit p).1 zCH = true
    rw [e]
    exact eqbCH _
  · obtain ⟨u, po, E, T, h0, hc, hT, hu, hcost, hpo, hql, hE, d1, d2, d3, hf⟩ := fee_ok (show I.neb (feeS data lim ex cap tip base unit p).2 (I.of .i64 0) = false from h)
    rw [hf]
    have hlim := nat_lt lim
    have hex := nat_lt ex
    have hcl := cap.lt
    refine Wp.optF (txfee_GasPrice_eq f1 f2 f3 lim ex data vv cap tip base) ?_
    unfold gasS
    rw [if_pos hc, ← hT]
    refine Wp.optF (Total_eq u _ _ _ _ _ _ _ _ _) ?_
    have hus : (I.of .u64 ((po + E : Nat) : Int)).nat = po + E := of_nat (by omega)
    have m := Mul_ok (U.of (base.val + T)) (u64U (I.of .u64 ((po + E : Nat) : Int)))
    rw [u64U_val, hus, U.val_of (by omega)] at m
    refine Wp.optF m (Wp.jnI ?_)
    have hinf : min (U.val p.2.2.2.2.2.1) base.val * E ≤ base.val * E := Nat.mul_le_mul_right _ (Nat.min_le_right _ _)
    have hbu : burnN base p.2.2.2.2.2.1 p.2.2.2.2.2.2.1 E ≤ netN base p.2.2.2.2.2.1 E := share_le _ _ (validP_bips hv)
    have hnet : netN base p.2.2.2.2.2.1 E = base.val * E - min (U.val p.2.2.2.2.2.1) base.val * E := rfl
    have hsum : base.val * po + min (U.val p.2.2.2.2.2.1) base.val * E + (netN base p.2.2.2.2.2.1 E - burnN base p.2.2.2.2.2.1 p.2.2.2.2.2.2.1 E + T * (po + E)) + burnN base p.2.2.2.2.2.1 p.2.2.2.2.2.2.1 E = (base.val + T) * (po + E) := by
      have e1 : base.val * (po + E) = base.val * po + base.val * E := Nat.mul_add _ _ _
      rw [Nat.add_mul, e1]
      omega
    rw [U.val_of (n := base.val * po) d1, U.val_of (n := min (U.val p.2.2.2.2.2.1) base.val * E) (by omega), U.val_of d3, U.val_of (n := burnN base p.2.2.2.2.2.1 p.2.2.2.2.2.2.1 E) (by omega), hsum]
    have fin : Wp (fun o => o = some ((true, ()), ())) (
      brn (I.leb (I.of .u64 ((po + E : Nat) : Int)) lim)
      (brn (I.eqb (I.of .u64 ((po + E : Nat) : Int)) (I.add (I.of .u64 (po : Int)) (I.of .u64 (E : Int))))
       (brn (I.leb (I.of .u64 (E : Int)) ex)
        (brn (Ty.eqb .bool (decide (E < ex.nat)) (I.ltb (I.of .u64 (E : Int)) ex))
         (brn (bnot (decide (E < ex.nat)))
          (optF none (pontagelaw23_awake ((), ())) fun y7 => some ((y7.1.1, ()), ()))
          (brn (I.eqb (I.of .u64 ((po + E : Nat) : Int)) lim)
           (optF none (pontagelaw23_awake ((), ())) fun y7 => some ((y7.1.1, ()), ()))
           (some ((false, ()), ()))))
         (some ((false, ()), ())))
        (some ((false, ()), ())))
       (some ((false, ()), ())))
      (some ((false, ()), ()))) := by
      have hEn : (I.of .u64 (E : Int)).nat = E := of_nat (by omega)
      have hpn : (I.of .u64 (po : Int)).nat = po := of_nat (by omega)
      have l1 := nat_val lim
      have l2 := nat_val ex
      have l3 := nat_val (I.of .u64 ((po + E : Nat) : Int))
      have l4 := nat_val (I.of .u64 (E : Int))
      rw [hus] at l3
      rw [hEn] at l4
      refine Wp.brnT (iff_leb.2 (by omega)) (Wp.brnT (iff_eqb.2 ?_) (Wp.brnT (iff_leb.2 (by omega)) (Wp.brnT ?_ ?_)))
      · have : (I.of .u64 ((po + E : Nat) : Int)) = I.add (I.of .u64 (po : Int)) (I.of .u64 (E : Int)) := u64_ext (by rw [hus, add_nat_lt _ _ (by omega), hpn, hEn])
        rw [this]
      · rw [ltb_nat, hEn]
        exact eqb_refl .bool rfl _
      · refine Wp.brn (fun _ => Wp.optF pontagelaw23_awake_eq rfl) (fun h => Wp.brnT (iff_eqb.2 ?_) (Wp.optF pontagelaw23_awake_eq rfl))
        have h := of_decide_eq_true (bnot_f h)
        omega
    refine Wp.brnF neb00 (Wp.brnF (nebSelf _) ?_)
    refine Wp.brn (fun _ => ?_) (fun _ => fin)
    exact Wp.brnF (by show bnot (Ty.eqb _ _ _) = false; rw [eqb_self]; rfl) fin
  

theorem shares_law (n0 n1 n2 n3 n4 n5 : I .u64) (sh : I .i64) (d : List (I .i64)) (v : V8) (hd : d.length ≤ LIM) : pontagelaw23_TxFeeShares (((n0, n1, n2, n3, n4, n5, sh, d, ()), v, ()), ()) = some ((true, ()), ()) := by
  refine Wp.out (T := fun o => o = some ((true, ()), ())) ?_
  unfold pontagelaw23_TxFeeShares
  refine Wp.brn (fun h => Wp.optF pontagelaw23_awake_eq rfl) (fun h => ?_)
  have hd30 := few_data hd h
  obtain ⟨f1, f2, f3, lim, ex, data, vv, cap, tip, base, unit, hb, hlen⟩ := build_len n0 n1 n2 n3 n4 n5 sh d (by omega)
  obtain ⟨p, hp, hv⟩ := ValidParams_ok v
  refine Wp.optF hb (Wp.optF hp (Wp.optF (Compute_eq f1 f2 f3 lim ex data vv cap tip base unit p (by omega)) ?_))
  refine Wp.brn (fun h => Wp.optF pontagelaw23_awake_eq rfl) (fun h => ?_)
  obtain ⟨u, po, E, T, h0, hc, hT, hu, hcost, hpo, hql, hE, d1, d2, d3, hf⟩ := fee_ok (show I.neb (feeS data lim ex cap tip base unit p).2 (I.of .i64 0) = false from h)
  rw [hf]
  have hlim := nat_lt lim
  have hex := nat_lt ex
  have hcl := cap.lt
  have hUn := Units_eq data p.2.2.2.2.2.2.2.2.2.2.1 p.2.2.2.2.2.2.2.2.2.2.2.1 (by omega)
  rw [hu] at hUn
  refine Wp.optF hUn ?_
  have hCo := Cost_eq u unit
  rw [errS_lt hcost] at hCo
  refine Wp.optF hCo ?_
  have hov := SatSub_ok (U.of (u.nat * unit.val)) (U.of (base.val * po))
  rw [U.val_of hcost, U.val_of d1] at hov
  refine Wp.optF hov ?_
  have hEn : (I.of .u64 (E : Int)).nat = E := of_nat (by omega)
  have hus : (I.of .u64 ((po + E : Nat) : Int)).nat = po + E := of_nat (by omega)
  have hm := SatMul_lt base (u64U (I.of .u64 (E : Int))) (by rw [u64U_val, hEn]; exact d2)
  rw [u64U_val, hEn] at hm
  refine Wp.optF hm ?_
  have hinf : min (U.val p.2.2.2.2.2.1) base.val * E ≤ base.val * E := Nat.mul_le_mul_right _ (Nat.min_le_right _ _)
  have hnt := SatSub_ok (U.of (base.val * E)) (U.of (min (U.val p.2.2.2.2.2.1) base.val * E))
  rw [U.val_of d2, U.val_of (n := min (U.val p.2.2.2.2.2.1) base.val * E) (by omega)] at hnt
  refine Wp.optF hnt ?_
  have hnet : netN base p.2.2.2.2.2.1 E = base.val * E - min (U.val p.2.2.2.2.2.1) base.val * E := rfl
  have hbu : burnN base p.2.2.2.2.2.1 p.2.2.2.2.2.2.1 E ≤ netN base p.2.2.2.2.2.1 E := share_le _ _ (validP_bips hv)
  rw [← hnet]
  have hsc := Scale_ok (U.of (netN base p.2.2.2.2.2.1 E)) p.2.2.2.2.2.2.1 (validP_bips hv)
  rw [U.val_of (n := netN base p.2.2.2.2.2.1 E) (by omega)] at hsc
  refine Wp.optF hsc ?_
  have hbn : netN base p.2.2.2.2.2.1 E * p.2.2.2.2.2.2.1.nat / 10000 = burnN base p.2.2.2.2.2.1 p.2.2.2.2.2.2.1 E := rfl
  rw [hbn]
  have htp := SatMul_lt (U.of T) (u64U (I.of .u64 ((po + E : Nat) : Int))) (by rw [u64U_val, hus, U.val_of (by omega)]; omega)
  rw [u64U_val, hus, U.val_of (n := T) (by omega)] at htp
  refine Wp.optF htp ?_
  refine Wp.brnT rfl (Wp.brnT rfl (Wp.brnT rfl (Wp.brnT (I.eqb_self _) ?_)))
  have hdiv : base.val * po ≤ u.nat * unit.val := by rw [hpo]; exact Nat.mul_div_le _ _
  have hmod : u.nat * unit.val - base.val * po < base.val := by
    have h1 := Nat.div_add_mod (u.nat * unit.val) base.val
    have h2 := Nat.mod_lt (u.nat * unit.val) (Nat.pos_of_ne_zero h0)
    rw [← hpo] at h1
    omega
  refine Wp.optF (uint256_Cmp_eq _ _) (Wp.brnT (cmp_le _ _ ?_) ?_)
  · rw [U.val_of d1, U.val_of hcost]; exact hdiv
  refine Wp.optF (uint256_Cmp_eq _ _) (Wp.brnT (cmp_lt _ _ ?_) ?_)
  · rw [U.val_of (n := u.nat * unit.val - base.val * po) (by omega)]; exact hmod
  refine Wp.optF (uint256_Min_eq _ _) ?_
  have hmi := SatMul_lt (minS p.2.2.2.2.2.1 base) (u64U (I.of .u64 (E : Int))) (by rw [u64U_val, hEn, minS_val]; omega)
  rw [u64U_val, hEn, minS_val] at hmi
  refine Wp.optF hmi ?_
  refine Wp.brnT (eqb_self _) (Wp.brnT (eqb_self _) ?_)
  have hs2 := SatSub_ok (U.of (netN base p.2.2.2.2.2.1 E)) (U.of (burnN base p.2.2.2.2.2.1 p.2.2.2.2.2.2.1 E))
  rw [U.val_of (n := netN base p.2.2.2.2.2.1 E) (by omega), U.val_of (n := burnN base p.2.2.2.2.2.1 p.2.2.2.2.2.2.1 E) (by omega)] at hs2
  refine Wp.optF hs2 ?_
  have hs3 := uint256_SaturatingAdd_ok (U.of (netN base p.2.2.2.2.2.1 E - burnN base p.2.2.2.2.2.1 p.2.2.2.2.2.2.1 E)) (U.of (T * (po + E)))
  rw [U.val_of (n := netN base p.2.2.2.2.2.1 E - burnN base p.2.2.2.2.2.1 p.2.2.2.2.2.2.1 E) (by omega), U.val_of (n := T * (po + E)) (by omega), Nat.min_eq_left (by omega)] at hs3
  refine Wp.optF hs3 ?_
  exact Wp.brnT (eqb_self _) (Wp.optF pontagelaw23_awake_eq rfl)
theorem fee_same (t : TT) (base unit : U) (p : Prm) (h : t.2.2.2.2.2.2.2.2.1.length ≤ 100000000) : ∃ (r : CH) (e : I .i64), txfee_Compute ((t, base, unit, p, ()), ()) = some ((r, e, ()), ()) ∧ pontageref23_Compute ((t, base, unit, p, ()), ()) = some ((r, e, ()), ()) := by
  obtain ⟨f1, f2, f3, v, f5, c, tp, f8, f9, ⟨⟩⟩ := t
  exact ⟨_, _, Compute_eq f1 f2 f3 f5 f8 f9 v c tp base unit p h, RCompute_eq f1 f2 f3 f5 f8 f9 v c tp base unit p h⟩

theorem compute_law (t : TT) (base unit : U) (p : Prm) (n0 n1 n2 n3 n4 n5 : I .u64) (sh : I .i64) (d : List (I .i64)) (v : V8) (hd : d.length ≤ LIM) (ht : t.2.2.2.2.2.2.2.2.1.length ≤ LIM) : pontagelaw23_TxFeeCompute ((t, base, unit, p, (n0, n1, n2, n3, n4, n5, sh, d, ()), v, ()), ()) = some ((true, ()), ()) := by
  refine Wp.out (T := fun o => o = some ((true, ()), ())) ?_
  unfold pontagelaw23_TxFeeCompute
  refine Wp.jn (fun x => x.2.1.2.2.2.2.2.2.2.2.1.length ≤ 600 ∧ ∃ n0 n1 n2 n3 n4 n5 sh d, x.2.2.2.2.2.1 = (n0, n1, n2, n3, n4, n5, sh, d, ()) ∧ d.length ≤ 30) ?_ ?_
  · rintro ⟨x0, t, base, unit, p, n, v, ⟨⟩⟩ ⟨h1, m0, m1, m2, m3, m4, m5, sh, d, e, h2⟩
    simp only at h1 e
    subst e
    obtain ⟨f1, f2, f3, lim, ex, data, vv, cap, tip, b2, c2, hb, hlen⟩ := build_len m0 m1 m2 m3 m4 m5 sh d (by omega)
    obtain ⟨q, hq, hv⟩ := ValidParams_ok v
    refine Wp.optF hb (Wp.optF hq ?_)
    refine Wp.iter (fun x => 0 ≤ x.1.2.1.val ∧ x.1.2.1.val ≤ 2 ∧ x.2.1.2.2.2.2.2.2.2.2.1.length ≤ 600 ∧ x.2.2.2.2.1.2.2.2.2.2.2.2.2.1.length ≤ 720) (fun x => (3 - x.1.2.1.val).toNat) ?_ ⟨show 0 ≤ (I.of .i64 0).val by decide, show (I.of .i64 0).val ≤ 2 by decide, h1, by show data.length ≤ 720; omega⟩ (K0_ge _ (show (3 - (I.of .i64 0).val).toNat < 2 ^ 64 by decide))
    rintro x ⟨h0, h2, hl1, hl2⟩
    refine Wp.brn (fun h => ?_) (fun h => Wp.done (Wp.optF pontagelaw23_awake_eq rfl))
    rw [iff_ltb] at h
    replace h : x.1.2.1.val < 2 := h
    refine Wp.brnT (iff_inB.2 ⟨h0, by omega⟩) ?_
    obtain ⟨r1, e1, c1, d1⟩ := fee_same x.2.1 x.2.2.1 x.2.2.2.1 _ (Nat.le_trans hl1 (by decide))
    obtain ⟨r2, e2, c2, d2⟩ := fee_same x.2.2.2.2.1 x.2.2.2.2.2.1 x.2.2.2.2.2.2.1 _ (Nat.le_trans hl2 (by decide))
    refine Wp.optF c1 (Wp.optF d1 (Wp.optF c2 (Wp.optF d2 ?_)))
    refine Wp.brnF (by show bnot (Ty.eqb chTy _ _) = false; rw [eqbCH]; rfl) (Wp.brnF (nebSelf _) (Wp.brnF (by show bnot (Ty.eqb chTy _ _) = false; rw [eqbCH]; rfl) (Wp.brnF (nebSelf _) ?_)))
    have hu : (I.add x.1.2.1 (I.of .i64 1)).val = x.1.2.1.val + 1 := add_i64 (b := I.of .i64 1) ⟨by show _ ≤ x.1.2.1.val + 1; omega, by show x.1.2.1.val + 1 < _; omega⟩
    refine Wp.again ⟨?_, ?_, hl1, hl2⟩ ?_
    · show 0 ≤ (I.add x.1.2.1 (I.of .i64 1)).val; omega
    · show (I.add x.1.2.1 (I.of .i64 1)).val ≤ 2; omega
    · show (3 - (I.add x.1.2.1 (I.of .i64 1)).val).toNat < (3 - x.1.2.1.val).toNat; omega
  · intro j0 hj0
    refine Wp.jn (fun x => x.1.1 = false → (x.2.1.2.2.2.2.2.2.2.2.1.length ≤ 600 ∧ ∃ n0 n1 n2 n3 n4 n5 sh d, x.2.2.2.2.2.1 = (n0, n1, n2, n3, n4, n5, sh, d, ()) ∧ d.length ≤ 30)) ?_ ?_
    · rintro x hx
      refine Wp.brn (fun h => Wp.optF pontagelaw23_awake_eq rfl) (fun h => hj0 _ (hx h))
    · intro j1 hj1
      refine Wp.brn (fun h => hj1 _ (fun h => (by cases h))) (fun h => hj1 _ (fun h2 => ?_))
      refine ⟨?_, n0, n1, n2, n3, n4, n5, sh, d, rfl, few_data hd h⟩
      have h2 : I.ltb (i6 600) (i6 t.2.2.2.2.2.2.2.2.1.length) = false := h2
      have hL : LIM = 140737488355328 := by decide
      rw [i6_ltb (by omega) (by omega)] at h2
      have := of_decide_eq_false h2
      show t.2.2.2.2.2.2.2.2.1.length ≤ 600
      omega
end Sym
