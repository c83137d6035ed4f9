/- Products of 256 bits. -/
import Derived.Carry
import Derived.SizedLaws
import Derived.ChangeOld
import Derived.OpenShut
import Derived.Test.YthgamlcklidphaaPart3
import Derived.Test.YthgamlcklidphaaPart2
namespace Sym
open Go

theorem or_zero (x y : I .u64) : I.neb (I.or x y) (I.of .u64 0) = false ↔ x.nat = 0 ∧ y.nat = 0 := by
  rw [niff_neb]
  have c0 : (I.of .u64 0).val = 0 := rfl
  have h1 : (BitVec.ofInt 64 x.val).toNat = x.nat := by have := u64_range x; rw [BitVec.toNat_ofInt]; unfold I.nat; omega
  have h2 : (BitVec.ofInt 64 y.val).toNat = y.nat := by have := u64_range y; rw [BitVec.toNat_ofInt]; unfold I.nat; omega
  have h3 : (BitVec.ofInt IntKind.u64.bits x.val ||| BitVec.ofInt IntKind.u64.bits y.val).toNat = x.nat ||| y.nat := by
    show (BitVec.ofInt 64 x.val ||| BitVec.ofInt 64 y.val).toNat = _
    rw [BitVec.toNat_or, h1, h2]
  have hlt : x.nat ||| y.nat < 2 ^ 64 := Nat.or_lt_two_pow (nat_lt x) (nat_lt y)
  have h4 : (I.or x y).val = ((x.nat ||| y.nat : Nat) : Int) := by
    unfold I.or
    rw [h3]
    exact of_u64 ⟨by omega, by omega⟩
  rw [h4, c0]
  constructor
  · intro h
    have : x.nat ||| y.nat = 0 := by omega
    exact Nat.or_eq_zero_iff.1 this
  · rintro ⟨h5, h6⟩
    rw [h5, h6]; rfl

theorem limb_le (a : U) (i : Nat) (h : i < 4) : W64 ^ i * limb' a i ≤ a.val := by
  have h1 := limb_mod a i h
  have h2 := Nat.mod_le a.val (W64 ^ (i + 1))
  rw [h1] at h2
  exact Nat.le_trans (Nat.le_add_left _ _) h2

theorem over_prod {a b : U} {i k : Nat} (hi : i < 4) (hk : k < 4) (h : 3 < i + k) (hp : limb' a i * limb' b k ≠ 0) : U.top ≤ a.val * b.val := by
  have h1 := Nat.mul_le_mul (limb_le a i hi) (limb_le b k hk)
  rw [Nat.mul_mul_mul_comm, ← Nat.pow_add] at h1
  have h2 : U.top = W64 ^ 4 := by decide
  have h3 : W64 ^ 4 ≤ W64 ^ (i + k) := Nat.pow_le_pow_right (by decide) (by omega)
  have h4 : W64 ^ (i + k) * 1 ≤ W64 ^ (i + k) * (limb' a i * limb' b k) := Nat.mul_le_mul_left _ (by omega)
  omega

theorem mod_mul_le (a b : U) (n : Nat) : (a.val % n) * b.val ≤ a.val * b.val := Nat.mul_le_mul_right _ (Nat.mod_le _ _)

theorem top_W : W64 ^ 4 = U.top := by decide

/-- One round of the inner loop, of numbers. -/
theorem mul_round {P c L B M i k hi lo z1 q1 z2 q2 p c' P' bk : Nat} (inv : P + c * W64 ^ (i + k) = M + L * W64 ^ i * B) (h1 : lo + W64 * hi = L * bk) (h2 : z1 + W64 * q1 = lo + c) (h3 : z2 + W64 * q2 = p + z1)
    (hc : c' = hi + q1 + q2) (hP : P' + W64 ^ (i + k) * p = P + W64 ^ (i + k) * z2) : P' + c' * W64 ^ (i + k + 1) = M + L * W64 ^ i * (B + W64 ^ k * bk) := by
  have e1 : L * W64 ^ i * (B + W64 ^ k * bk) = L * W64 ^ i * B + W64 ^ (i + k) * (L * bk) := by
    rw [Nat.mul_add, Nat.pow_add]
    congr 1
    simp only [Nat.mul_comm, Nat.mul_left_comm, Nat.mul_assoc]
  have e2 : c' * W64 ^ (i + k + 1) = W64 ^ (i + k) * (W64 * c') := by
    rw [Nat.pow_succ]
    simp only [Nat.mul_comm, Nat.mul_left_comm, Nat.mul_assoc]
  have e3 : W64 * c' = L * bk + c + p - z2 ∧ z2 ≤ L * bk + c + p := by
    subst hc
    unfold W64 at *
    omega
  have e4 : W64 * c' + z2 = L * bk + c + p := by omega
  have e5 := congrArg (fun t => W64 ^ (i + k) * t) e4
  simp only [Nat.mul_add] at e5
  have e6 : c * W64 ^ (i + k) = W64 ^ (i + k) * c := Nat.mul_comm _ _
  rw [e1, e2]
  omega

theorem Mul_ok (a b : U) : uint256_Mul ((a, b, ()), ()) = some (((errS (a.val * b.val)).1, (errS (a.val * b.val)).2, ()), ()) := by
  have c0 : (I.of .i64 0).val = 0 := rfl
  have c1 : (I.of .i64 1).val = 1 := rfl
  have c3 : (I.of .i64 3).val = 3 := rfl
  have c4 : (I.of .i64 4).val = 4 := rfl
  have over : U.top ≤ a.val * b.val → some (((I.of .u64 0, I.of .u64 0, I.of .u64 0, I.of .u64 0, ()), I.of .i64 4, ()), ()) = some (((errS (a.val * b.val)).1, (errS (a.val * b.val)).2, ()), ()) := by
    intro h
    rw [show errS (a.val * b.val) = (U.of 0, I.of .i64 4) from if_neg (by omega)]
    rfl
  have key : Wp (fun o => o = some (((errS (a.val * b.val)).1, (errS (a.val * b.val)).2, ()), ())) (uint256_Mul ((a, b, ()), ())) := by
    unfold uint256_Mul
    refine Wp.iter (fun x => 0 ≤ x.1.1.val ∧ x.1.1.val ≤ 4 ∧ x.2.1 = a ∧ x.2.2.1 = b ∧ U.val x.2.2.2.2.1 = (a.val % W64 ^ x.1.1.val.toNat) * b.val) (fun x => (4 - x.1.1.val).toNat) ?_ ?_ ?_
    · rintro ⟨⟨i, ⟨⟩⟩, a', b', r0, p0, ⟨⟩⟩ ⟨hi0, hi1, e1, e2, hp⟩
      simp only at hi0 hi1 e1 e2 hp
      subst e1 e2
      refine Wp.brn (fun h => ?_) (fun h => ?_)
      · have hlt := iff_ltb.1 h
        simp only [c4] at hlt
        clear h
        have si : (I.add i (I.of .i64 1)).val = i.val + 1 := by rw [add_i64 (by omega)]; omega
        have sin : (I.add i (I.of .i64 1)).val.toNat = i.val.toNat + 1 := by omega
        have ini : inB i 4 = true := iff_inB.2 ⟨hi0, by omega⟩
        refine Wp.iter (fun x => x.1.1 = i ∧ x.1.2.2.1 = i ∧ 0 ≤ x.1.2.2.2.1.val ∧ x.1.2.2.2.1.val ≤ 4 ∧ x.2.1 = a' ∧ x.2.2.1 = b' ∧
          U.val x.2.2.2.2.1 + I.nat (k := .u64) x.1.2.1 * W64 ^ (min (i.val.toNat + x.1.2.2.2.1.val.toNat) 4) = (U.val a' % W64 ^ i.val.toNat) * U.val b' + limb' a' i.val.toNat * W64 ^ i.val.toNat * (U.val b' % W64 ^ x.1.2.2.2.1.val.toNat)) (fun x => (4 - x.1.2.2.2.1.val).toNat) ?_ ?_ ?_
        · rintro ⟨⟨i2, c, i1, k, ⟨⟩⟩, a1, b1, r1, p, ⟨⟩⟩ ⟨e1, e2, hk0, hk1, e3, e4, hinv⟩
          simp only at e1 e2 hk0 hk1 e3 e4 hinv
          subst e1 e2 e3 e4
          refine Wp.brn (fun h => ?_) (fun h => ?_)
          · have hkl := iff_ltb.1 h
            simp only [c4] at hkl
            clear h
            have sk : (I.add k (I.of .i64 1)).val = k.val + 1 := by rw [add_i64 (by omega)]; omega
            have skn : (I.add k (I.of .i64 1)).val.toNat = k.val.toNat + 1 := by omega
            have sik : (I.add i1 k).val = i1.val + k.val := add_i64 (by omega)
            have hm : (4 - (I.add k (I.of .i64 1)).val).toNat < (4 - k.val).toNat := by omega
            have bmod := limb_mod b1 k.val.toNat (by omega)
            refine Wp.brnT ini (Wp.brnT (iff_inB.2 ⟨hk0, by show k.val < ((4 : Nat) : Int); omega⟩) ?_)
            obtain ⟨hi, lo, hmul, hprod⟩ := Mul64_ok (Arr.sel (I.of .u64 0) 4 a1 (I.nat i1)) (Arr.sel (I.of .u64 0) 4 b1 (I.nat k))
            have hprod : lo.nat + W64 * hi.nat = limb' a1 i1.val.toNat * limb' b1 k.val.toNat := hprod
            refine Wp.optF hmul ?_
            refine Wp.brn (fun h => ?_) (fun h => ?_)
            · have h := iff_ltb.1 h
              have h : (I.of .i64 3).val < (I.add i1 k).val := h
              refine Wp.brn (fun h2 => ?_) (fun h2 => ?_)
              · refine Wp.done (Wp.done (over ?_))
                refine over_prod (i := i1.val.toNat) (k := k.val.toNat) (by omega) (by omega) (by omega) ?_
                intro hz
                have h3 : hi.nat = 0 ∧ lo.nat = 0 := by rw [hz] at hprod; unfold W64 at hprod; omega
                have := (or_zero hi lo).2 h3
                exact absurd (h2.symm.trans this) (by decide)
              · have h3 := (or_zero hi lo).1 h2
                have hz : limb' a1 i1.val.toNat * limb' b1 k.val.toNat = 0 := by rw [← hprod, h3.1, h3.2, Nat.mul_zero]
                refine Wp.again ⟨rfl, rfl, ?_, ?_, rfl, rfl, ?_⟩ hm
                · show 0 ≤ (I.add k (I.of .i64 1)).val; omega
                · show (I.add k (I.of .i64 1)).val ≤ 4; omega
                · show U.val p + c.nat * W64 ^ (min (i1.val.toNat + (I.add k (I.of .i64 1)).val.toNat) 4) = _ + _ * (U.val b1 % W64 ^ (I.add k (I.of .i64 1)).val.toNat)
                  rw [skn, bmod, Nat.mul_add]
                  have e1 : limb' a1 i1.val.toNat * W64 ^ i1.val.toNat * (W64 ^ k.val.toNat * limb' b1 k.val.toNat) = 0 := by
                    have : limb' a1 i1.val.toNat * W64 ^ i1.val.toNat * (W64 ^ k.val.toNat * limb' b1 k.val.toNat) = W64 ^ i1.val.toNat * W64 ^ k.val.toNat * (limb' a1 i1.val.toNat * limb' b1 k.val.toNat) := by simp only [Nat.mul_comm, Nat.mul_left_comm, Nat.mul_assoc]
                    rw [this, hz, Nat.mul_zero]
                  rw [Nat.min_eq_right (by omega)] at hinv
                  rw [e1, Nat.min_eq_right (by omega)]
                  exact hinv
            · have h := niff_ltb.1 h
              have h : (I.add i1 k).val ≤ (I.of .i64 3).val := h
              have inik : inB (I.add i1 k) 4 = true := iff_inB.2 ⟨by omega, by omega⟩
              obtain ⟨z1, q1, ha1, hs1, hq1⟩ := add64_nat lo c (I.of .u64 0) (by decide)
              refine Wp.optF ha1 ?_
              refine Wp.brnT inik ?_
              obtain ⟨z2, q2, ha2, hs2, hq2⟩ := add64_nat (Arr.sel (I.of .u64 0) 4 p (I.nat (I.add i1 k))) z1 (I.of .u64 0) (by decide)
              refine Wp.optF ha2 ?_
              refine Wp.brnT inik ?_
              have z0 : (I.of .u64 0).nat = 0 := rfl
              have en : I.nat (I.add i1 k) = i1.val.toNat + k.val.toNat := by unfold I.nat; omega
              have hup := upd_val p (i1.val.toNat + k.val.toNat) z2 (by omega)
              have hs2' : z2.nat + W64 * q2.nat = limb' p (i1.val.toNat + k.val.toNat) + z1.nat := by
                have : (Arr.sel (I.of .u64 0) 4 p (I.nat (I.add i1 k))).nat = limb' p (i1.val.toNat + k.val.toNat) := by rw [en]; rfl
                unfold W64
                omega
              have hcv : (I.add (I.add hi q1) q2).nat = hi.nat + q1.nat + q2.nat := by
                have l1 := limb_lt a1 i1.val.toNat
                have l2 := limb_lt b1 k.val.toNat
                have l3 := limb_lt p (i1.val.toNat + k.val.toNat)
                have l4 := nat_lt c
                have l5 : limb' a1 i1.val.toNat * limb' b1 k.val.toNat ≤ (W64 - 1) * (W64 - 1) := Nat.mul_le_mul (by omega) (by omega)
                rw [add_nat, add_nat]
                unfold W64 at *
                omega
              refine Wp.again ⟨rfl, rfl, ?_, ?_, rfl, rfl, ?_⟩ hm
              · show 0 ≤ (I.add k (I.of .i64 1)).val; omega
              · show (I.add k (I.of .i64 1)).val ≤ 4; omega
              · show U.val (Arr.upd 4 p (I.nat (I.add i1 k)) z2) + (I.add (I.add hi q1) q2).nat * W64 ^ (min (i1.val.toNat + (I.add k (I.of .i64 1)).val.toNat) 4) = _ + _ * (U.val b1 % W64 ^ (I.add k (I.of .i64 1)).val.toNat)
                rw [skn, bmod, en, Nat.min_eq_left (by omega)]
                rw [Nat.min_eq_left (by omega)] at hinv
                exact mul_round hinv hprod (by unfold W64; omega) hs2' hcv hup
          · have h := niff_ltb.1 h
            simp only [c4] at h
            have hk : k.val.toNat = 4 := by omega
            rw [hk, Nat.min_eq_right (by omega), top_W, Nat.mod_eq_of_lt (U.lt b1)] at hinv
            have amod := limb_mod a1 i1.val.toNat (by omega)
            have hA : U.val p + c.nat * U.top = (U.val a1 % W64 ^ (i1.val.toNat + 1)) * U.val b1 := by
              rw [hinv, amod, Nat.add_mul]
              congr 1
              simp only [Nat.mul_comm, Nat.mul_left_comm, Nat.mul_assoc]
            refine Wp.done ?_
            refine Wp.brn (fun h2 => ?_) (fun h2 => ?_)
            · refine Wp.done (over ?_)
              have h2 := iff_neb.1 h2
              have h2 : c.val ≠ (I.of .u64 0).val := h2
              have z0 : (I.of .u64 0).val = 0 := rfl
              have hc1 : 1 ≤ c.nat := by have := nat_val c; omega
              have h3 := mod_mul_le a1 b1 (W64 ^ (i1.val.toNat + 1))
              have h4 : 1 * U.top ≤ c.nat * U.top := Nat.mul_le_mul_right _ hc1
              omega
            · have h2 := niff_neb.1 h2
              have h2 : c.val = (I.of .u64 0).val := h2
              have z0 : (I.of .u64 0).val = 0 := rfl
              have hc1 : c.nat = 0 := by have := nat_val c; omega
              rw [hc1, Nat.zero_mul, Nat.add_zero] at hA
              refine Wp.again ⟨?_, ?_, rfl, rfl, ?_⟩ ?_
              · show 0 ≤ (I.add i1 (I.of .i64 1)).val; omega
              · show (I.add i1 (I.of .i64 1)).val ≤ 4; omega
              · show U.val p = U.val a1 % W64 ^ (I.add i1 (I.of .i64 1)).val.toNat * U.val b1
                rw [sin]; exact hA
              · show (4 - (I.add i1 (I.of .i64 1)).val).toNat < (4 - i1.val).toNat
                omega
        · refine ⟨rfl, rfl, by show 0 ≤ (I.of .i64 0).val; decide, by show (I.of .i64 0).val ≤ 4; decide, rfl, rfl, ?_⟩
          show U.val p0 + (I.of .u64 0).nat * _ = _ + _ * (U.val b' % W64 ^ (I.of .i64 0).val.toNat)
          have e1 : (I.of .u64 0).nat = 0 := rfl
          have e2 : (I.of .i64 0).val.toNat = 0 := rfl
          rw [e1, e2, Nat.zero_mul, Nat.pow_zero, Nat.mod_one, Nat.mul_zero, hp]
        · exact K0_ge _ (by show (4 - (I.of .i64 0).val).toNat < _; decide)
      · have h := niff_ltb.1 h
        simp only [c4] at h
        have hi : i.val.toNat = 4 := by omega
        rw [hi, top_W, Nat.mod_eq_of_lt (U.lt a')] at hp
        refine Wp.done ?_
        show some ((p0, I.of .i64 0, ()), ()) = _
        have hlt : U.val a' * U.val b' < U.top := by rw [← hp]; exact U.lt p0
        rw [show errS (U.val a' * U.val b') = (U.of (U.val a' * U.val b'), I.of .i64 0) from if_pos hlt]
        have hU : p0 = U.of (U.val a' * U.val b') := by
          have := U.of_val p0
          rw [hp] at this
          exact this.symm
        exact congrArg (fun z : U => some ((z, I.of .i64 0, ()), ())) hU
    · refine ⟨by show 0 ≤ (I.of .i64 0).val; decide, by show (I.of .i64 0).val ≤ 4; decide, rfl, rfl, ?_⟩
      show U.val (I.of .u64 0, I.of .u64 0, I.of .u64 0, I.of .u64 0, ()) = (a.val % W64 ^ (I.of .i64 0).val.toNat) * b.val
      have e2 : (I.of .i64 0).val.toNat = 0 := rfl
      rw [e2, Nat.pow_zero, Nat.mod_one, Nat.zero_mul]
      rfl
    · exact K0_ge _ (by show (4 - (I.of .i64 0).val).toNat < _; decide)
  exact key.out
end Sym

/- Equality and order of 256 bits. -/
namespace Sym
open Go

theorem eqb_u256 (a b : U) : Ty.eqb (.arr 4 (.int .u64)) a b = decide (a.val = b.val) := by
  by_cases h : a.val = b.val
  · have := U.ext h
    subst this
    simp [Ty.eqb, Arr.eqb]
  · simp only [h, decide_false]
    cases hb : Ty.eqb (.arr 4 (.int .u64)) a b with
    | false => rfl
    | true =>
      exfalso
      apply h
      obtain ⟨a0, a1, a2, a3, ⟨⟩⟩ := a
      obtain ⟨b0, b1, b2, b3, ⟨⟩⟩ := b
      simp only [Ty.eqb, Arr.eqb, Bool.and_eq_true, decide_eq_true_eq, and_true] at hb
      obtain ⟨h0, h1, h2, h3⟩ := hb
      rw [I.ext' h0, I.ext' h1, I.ext' h2, I.ext' h3]

theorem cmp_le (a b : U) (h : a.val ≤ b.val) : I.leb (cmpS a b) (I.of .i64 0) = true := by
  unfold cmpS
  split
  · rfl
  · rw [if_neg (by omega)]; rfl

theorem cmp_lt (a b : U) (h : a.val < b.val) : I.ltb (cmpS a b) (I.of .i64 0) = true := by
  unfold cmpS
  rw [if_pos h]; rfl

end Sym

/- Quotients of 512 by 256 bits. -/
namespace Sym
open Go

theorem u256_FromUint64 (x : I .u64) : uint256_FromUint64 ((x, ()), ()) = some ((u64U x, ()), ()) := rfl

theorem SatSub_ok (a b : U) : uint256_SaturatingSub ((a, b, ()), ()) = some ((U.of (a.val - b.val), ()), ()) := by
  refine Wp.out (T := fun o => o = _) ?_
  unfold uint256_SaturatingSub
  refine Wp.optF (uint256_Sub_eq a b) ?_
  unfold subS
  by_cases h : b.val ≤ a.val
  · rw [if_pos h]; rfl
  · rw [if_neg h, show a.val - b.val = 0 by omega]; rfl

theorem or_add (x y : I .u64) (n : Nat) (hy : y.nat < 2 ^ n) (hx : x.nat % 2 ^ n = 0) : (I.or x y).nat = x.nat + y.nat := by
  have h1 : (BitVec.ofInt 64 x.val).toNat = x.nat := by have := u64_range x; rw [BitVec.toNat_ofInt]; unfold I.nat; omega
  have h2 : (BitVec.ofInt 64 y.val).toNat = y.nat := by have := u64_range y; rw [BitVec.toNat_ofInt]; unfold I.nat; omega
  have h3 : (BitVec.ofInt IntKind.u64.bits x.val ||| BitVec.ofInt IntKind.u64.bits y.val).toNat = x.nat ||| y.nat := by
    show (BitVec.ofInt 64 x.val ||| BitVec.ofInt 64 y.val).toNat = _
    rw [BitVec.toNat_or, h1, h2]
  have hlt : x.nat ||| y.nat < 2 ^ 64 := Nat.or_lt_two_pow (nat_lt x) (nat_lt y)
  have h4 : x.nat ||| y.nat = x.nat + y.nat := by
    have e : x.nat = (x.nat / 2 ^ n) <<< n := by
      rw [Nat.shiftLeft_eq]
      have := Nat.div_add_mod x.nat (2 ^ n)
      rw [hx, Nat.add_zero, Nat.mul_comm] at this
      exact this.symm
    rw [e]
    exact (Nat.shiftLeft_add_eq_or_of_lt hy _).symm
  unfold I.or
  rw [h3, of_nat (by omega), h4]

theorem shl1_nat (x : I .u64) : (I.shl x (I.of .u64 1)).nat = 2 * x.nat % W64 := by
  have h1 := nat_val x
  have hm : min (I.of .u64 1).val.toNat IntKind.u64.bits = 1 := rfl
  unfold I.shl
  rw [hm]
  show (IntKind.u64.wrap (x.val * 2 ^ 1)).toNat = _ % 18446744073709551616
  rw [wrap_u64]
  have : (2 : Int) ^ 1 = 2 := by decide
  rw [this]
  omega

theorem shr63_nat (x : I .u64) : (I.shr x (I.of .u64 63)).nat = x.nat / 9223372036854775808 := by
  have c : (I.of .u64 63).nat = 63 := rfl
  rw [shr_nat _ _ (by decide), c]

theorem K0_four' : ∃ k, K0 = k + 4 := ⟨2 ^ 64 - 4, by rw [K0_eq]⟩

theorem sh_limb (x y : I .u64) : (I.or (I.shl x (I.of .u64 1)) (I.shr y (I.of .u64 63))).nat = 2 * x.nat % W64 + y.nat / 9223372036854775808 := by
  have hy := nat_lt y
  rw [or_add _ _ 1 (by rw [shr63_nat]; omega) (by rw [shl1_nat]; unfold W64; omega), shl1_nat, shr63_nat]

/-- Twice a number, and a bit. -/
theorem shiftLeft_ok (a : U) (bit : I .u64) (hb : bit.nat ≤ 1) : ∃ (r : U) (o : I .u64), muldiv_shiftLeft ((a, bit, ()), ()) = some ((r, o, ()), ()) ∧ r.val + U.top * o.nat = 2 * a.val + bit.nat := by
  obtain ⟨k, hk⟩ := K0_four'
  obtain ⟨a0, a1, a2, a3, ⟨⟩⟩ := a
  refine ⟨(I.or (I.shl a0 (I.of .u64 1)) bit, I.or (I.shl a1 (I.of .u64 1)) (I.shr a0 (I.of .u64 63)), I.or (I.shl a2 (I.of .u64 1)) (I.shr a1 (I.of .u64 63)), I.or (I.shl a3 (I.of .u64 1)) (I.shr a2 (I.of .u64 63)), ()), I.shr a3 (I.of .u64 63), ?_, ?_⟩
  · refine Wp.out (T := fun o => o = _) ?_
    unfold muldiv_shiftLeft
    rw [hk]
    refine Wp.unroll (Wp.brnT rfl (Wp.brnT rfl (Wp.brnT rfl (Wp.brnT rfl (Wp.next ?_)))))
    refine Wp.unroll (Wp.brnT rfl (Wp.brnT rfl (Wp.brnT rfl (Wp.brnT rfl (Wp.next ?_)))))
    refine Wp.unroll (Wp.brnT rfl (Wp.brnT rfl (Wp.brnT rfl (Wp.brnT rfl (Wp.next ?_)))))
    refine Wp.unroll (Wp.brnF rfl (Wp.stop rfl))
  · have n0 := nat_lt a0
    have n1 := nat_lt a1
    have n2 := nat_lt a2
    have n3 := nat_lt a3
    unfold U.val U.top
    simp only
    rw [sh_limb, sh_limb, sh_limb, shr63_nat, or_add _ _ 1 (by omega) (by rw [shl1_nat]; unfold W64; omega), shl1_nat]
    unfold W64
    omega
end Sym

/- Quotients of 512 by 256 bits: the loop. -/
namespace Sym
open Go

theorem K0_five : ∃ k, K0 = k + 5 := ⟨2 ^ 64 - 5, by rw [K0_eq]⟩

theorem subWrap_ok (a b : U) : ∃ (r : U) (q : Nat), muldiv_subWrap ((a, b, ()), ()) = some ((r, ()), ()) ∧ r.val + b.val = a.val + U.top * q ∧ q ≤ 1 := by
  obtain ⟨k, hk⟩ := K0_five
  obtain ⟨a0, a1, a2, a3, ⟨⟩⟩ := a
  obtain ⟨b0, b1, b2, b3, ⟨⟩⟩ := b
  obtain ⟨z0, q0, h0, e0, l0⟩ := sub64_nat a0 b0 (I.of .u64 0) (by decide)
  obtain ⟨z1, q1, h1, e1, l1⟩ := sub64_nat a1 b1 q0 l0
  obtain ⟨z2, q2, h2, e2, l2⟩ := sub64_nat a2 b2 q1 l1
  obtain ⟨z3, q3, h3, e3, l3⟩ := sub64_nat a3 b3 q2 l2
  refine ⟨(z0, z1, z2, z3, ()), q3.nat, ?_, ?_, l3⟩
  · refine Wp.out (T := fun o => o = _) ?_
    unfold muldiv_subWrap
    rw [hk]
    refine Wp.unroll (Wp.brnT rfl (Wp.brnT rfl (Wp.brnT rfl (Wp.optF h0 (Wp.brnT rfl (Wp.next ?_))))))
    refine Wp.unroll (Wp.brnT rfl (Wp.brnT rfl (Wp.brnT rfl (Wp.optF h1 (Wp.brnT rfl (Wp.next ?_))))))
    refine Wp.unroll (Wp.brnT rfl (Wp.brnT rfl (Wp.brnT rfl (Wp.optF h2 (Wp.brnT rfl (Wp.next ?_))))))
    refine Wp.unroll (Wp.brnT rfl (Wp.brnT rfl (Wp.brnT rfl (Wp.optF h3 (Wp.brnT rfl (Wp.next ?_))))))
    refine Wp.unroll (Wp.brnF rfl (Wp.stop rfl))
  · have z : (I.of .u64 0).nat = 0 := rfl
    unfold U.val U.top
    simp only
    omega

theorem two_pow_W (i : Nat) : 2 ^ i = W64 ^ (i / 64) * 2 ^ (i % 64) := by
  have : W64 = 2 ^ 64 := by decide
  rw [this, ← Nat.pow_mul, ← Nat.pow_add]
  congr 1
  omega

theorem div_W (a : U) (k : Nat) (hk : k < 4) : ∃ Y, a.val / W64 ^ k = limb' a k + W64 * Y := by
  obtain ⟨a0, a1, a2, a3, ⟨⟩⟩ := a
  have n0 := nat_lt a0
  have n1 := nat_lt a1
  have n2 := nat_lt a2
  have n3 := nat_lt a3
  have p0 : W64 ^ 0 = 1 := by decide
  have p1 : W64 ^ 1 = 18446744073709551616 := by decide
  have p2 : W64 ^ 2 = 340282366920938463463374607431768211456 := by decide
  have p3 : W64 ^ 3 = 6277101735386680763835789423207666416102355444464034512896 := by decide
  have hc : k = 0 ∨ k = 1 ∨ k = 2 ∨ k = 3 := by omega
  rcases hc with rfl | rfl | rfl | rfl
  · refine ⟨a1.nat + 18446744073709551616 * (a2.nat + 18446744073709551616 * a3.nat), ?_⟩
    show U.val _ / W64 ^ 0 = a0.nat + 18446744073709551616 * _
    rw [p0]; unfold U.val; simp only; omega
  · refine ⟨a2.nat + 18446744073709551616 * a3.nat, ?_⟩
    show U.val _ / W64 ^ 1 = a1.nat + 18446744073709551616 * _
    rw [p1]; unfold U.val; simp only; omega
  · refine ⟨a3.nat, ?_⟩
    show U.val _ / W64 ^ 2 = a2.nat + 18446744073709551616 * _
    rw [p2]; unfold U.val; simp only; omega
  · refine ⟨0, ?_⟩
    show U.val _ / W64 ^ 3 = a3.nat + 18446744073709551616 * _
    rw [p3]; unfold U.val; simp only; omega

/-- The bit that a shift and a mask give. -/
theorem bit_of (a : U) (i : Nat) (hi : i < 256) : a.val / 2 ^ i % 2 = limb' a (i / 64) / 2 ^ (i % 64) % 2 := by
  obtain ⟨Y, hY⟩ := div_W a (i / 64) (by omega)
  rw [two_pow_W i, ← Nat.div_div_eq_div_mul, hY]
  have e : W64 = 2 ^ (i % 64) * (2 * 2 ^ (63 - i % 64)) := by
    have : 2 * 2 ^ (63 - i % 64) = 2 ^ (64 - i % 64) := by rw [show 64 - i % 64 = (63 - i % 64) + 1 by omega, Nat.pow_succ, Nat.mul_comm]
    rw [this, ← Nat.pow_add, show i % 64 + (64 - i % 64) = 64 by omega]
  rw [e, Nat.mul_assoc, Nat.add_mul_div_left _ _ (Nat.pow_pos (by decide)), Nat.mul_assoc, Nat.add_mul_mod_self_left]

theorem shr_i64 (x : I .u64) (s : I .i64) (h0 : 0 ≤ s.val) (hs : s.val < 64) : (I.shr x s).nat = x.nat / 2 ^ s.val.toNat := by
  have hx := u64_range x
  have hm : min s.val.toNat IntKind.u64.bits = s.val.toNat := by
    have : IntKind.u64.bits = 64 := rfl
    omega
  unfold I.shr
  rw [hm, fdiv_pos _ _ hx.1]
  have h1 : ((x.nat / 2 ^ s.val.toNat : Nat) : Int) = x.val / (2 : Int) ^ s.val.toNat := by
    rw [Int.natCast_ediv, nat_val]
    simp
  rw [← h1]
  have := Nat.div_le_self x.nat (2 ^ s.val.toNat)
  have := nat_lt x
  exact of_nat (by omega)

theorem shl_one_i64 (s : I .i64) (h0 : 0 ≤ s.val) (hs : s.val < 64) : (I.shl (I.of .u64 1) s).nat = 2 ^ s.val.toNat := by
  have hm : min s.val.toNat IntKind.u64.bits = s.val.toNat := by
    have : IntKind.u64.bits = 64 := rfl
    omega
  have h1 : (I.of .u64 1).val = 1 := rfl
  have h3 : 2 ^ s.val.toNat ≤ 2 ^ 63 := Nat.pow_le_pow_right (by decide) (by omega)
  have h4 : ((2 ^ s.val.toNat : Nat) : Int) = 2 ^ s.val.toNat := by simp
  unfold I.shl
  rw [hm, h1, Int.one_mul, ← h4]
  exact of_nat (by omega)

/-- A bit set above nothing. -/
theorem set_bit (q : U) (i : Nat) (hi : i < 256) (b : I .u64) (hb : b.nat = 2 ^ (i % 64)) (hq : q.val % 2 ^ (i + 1) = 0) :
    U.val (Arr.upd 4 q (i / 64) (I.or (Arr.sel (I.of .u64 0) 4 q (i / 64)) b)) = q.val + 2 ^ i := by
  obtain ⟨Y, hY⟩ := div_W q (i / 64) (by omega)
  have hl : limb' q (i / 64) % 2 ^ (i % 64 + 1) = 0 := by
    obtain ⟨Q, hQ⟩ : ∃ Q, q.val = 2 ^ (i + 1) * Q := ⟨q.val / 2 ^ (i + 1), by have := Nat.div_add_mod q.val (2 ^ (i + 1)); omega⟩
    have e1 : q.val / W64 ^ (i / 64) = 2 ^ (i % 64 + 1) * Q := by
      rw [hQ, Nat.pow_succ, two_pow_W i, Nat.mul_assoc, Nat.mul_assoc, Nat.mul_div_cancel_left _ (Nat.pow_pos (by decide)), Nat.pow_succ, Nat.mul_assoc]
    have e2 : W64 = 2 ^ (i % 64 + 1) * 2 ^ (63 - i % 64) := by
      rw [← Nat.pow_add, show i % 64 + 1 + (63 - i % 64) = 64 by omega]
    rw [e1, e2, Nat.mul_assoc] at hY
    have e3 : limb' q (i / 64) = 2 ^ (i % 64 + 1) * Q - 2 ^ (i % 64 + 1) * (2 ^ (63 - i % 64) * Y) := by omega
    rw [e3, ← Nat.mul_sub]
    exact Nat.mul_mod_right _ _
  have hor : (I.or (Arr.sel (I.of .u64 0) 4 q (i / 64)) b).nat = limb' q (i / 64) + 2 ^ (i % 64) := by
    rw [or_add _ b (i % 64 + 1) (by rw [hb, Nat.pow_succ]; have := Nat.pow_pos (a := 2) (n := i % 64) (by decide); omega) hl, hb]
    rfl
  have hup := upd_val q (i / 64) (I.or (Arr.sel (I.of .u64 0) 4 q (i / 64)) b) (by omega)
  rw [hor, Nat.mul_add, ← two_pow_W] at hup
  omega
end Sym

/- Quotients of 512 by 256 bits: what they are. -/
namespace Sym
open Go

theorem top_two : U.top = 2 ^ 256 := by decide

theorem half (N i : Nat) : N / 2 ^ i = 2 * (N / 2 ^ (i + 1)) + N / 2 ^ i % 2 := by
  rw [Nat.pow_succ, ← Nat.div_div_eq_div_mul]
  omega

theorem low_bit (a b : Nat) (i : Nat) (hi : i < 256) : (U.top * b + a) / 2 ^ i % 2 = a / 2 ^ i % 2 := by
  have e : U.top * b = 2 ^ i * (2 * (2 ^ (255 - i) * b)) := by
    have : U.top = 2 ^ i * (2 * 2 ^ (255 - i)) := by
      rw [top_two, ← Nat.pow_succ', ← Nat.pow_add, show i + (255 - i + 1) = 256 by omega]
    rw [this]
    simp only [Nat.mul_assoc]
  rw [e, Nat.mul_add_div (Nat.pow_pos (by decide)), Nat.mul_add_mod]

/-- What one round leaves. -/
structure DivInv (N c t : Nat) (q r : U) : Prop where
  eq : N / 2 ^ t = q.val / 2 ^ t * c + r.val
  lt : r.val < c
  low : q.val % 2 ^ t = 0

theorem div_round {N c i : Nat} {q r q' r' : U} (h : DivInv N c (i + 1) q r) (bit d : Nat) (hb : N / 2 ^ i % 2 = bit) (hd : d ≤ 1) (hq : q'.val = q.val + d * 2 ^ i) (hr : 2 * r.val + bit = d * c + r'.val) (hlt : r'.val < c) : DivInv N c i q' r' := by
  have h1 := half N i
  have e1 : q.val / 2 ^ i = 2 * (q.val / 2 ^ (i + 1)) := by
    have := half q.val i
    have h2 : q.val / 2 ^ i % 2 = 0 := by
      have h3 := h.low
      rw [Nat.pow_succ] at h3
      have h4 := Nat.mod_mul (x := q.val) (a := 2 ^ i) (b := 2)
      rw [h3] at h4
      have h5 : 0 < 2 ^ i := Nat.pow_pos (by decide)
      rcases Nat.eq_zero_or_pos (q.val / 2 ^ i % 2) with h6 | h6
      · exact h6
      · have : 2 ^ i * 1 ≤ 2 ^ i * (q.val / 2 ^ i % 2) := Nat.mul_le_mul_left _ h6
        omega
    omega
  have e2 : q.val % 2 ^ i = 0 := by
    have h3 := h.low
    rw [Nat.pow_succ] at h3
    have h4 := Nat.mod_mul (x := q.val) (a := 2 ^ i) (b := 2)
    omega
  have e3 : q'.val / 2 ^ i = q.val / 2 ^ i + d := by rw [hq, Nat.add_mul_div_right _ _ (Nat.pow_pos (by decide))]
  refine ⟨?_, hlt, ?_⟩
  · rw [h1, h.eq, hb, e3, e1, Nat.add_mul, Nat.mul_add, Nat.mul_assoc]
    omega
  · rw [hq, Nat.add_mul_mod_self_right]; exact e2

def divS (N c : Nat) : U × U × I .i64 := (U.of (N / c), U.of (N % c), I.of .i64 0)

theorem Div512_loop (a b c : U) (hbc : b.val < c.val) : muldiv_Div512 ((a, b, c, ()), ()) = some ((U.of ((U.top * b.val + a.val) / c.val), U.of ((U.top * b.val + a.val) % c.val), I.of .i64 0, ()), ()) := by
  have c0 : (I.of .i64 0).val = 0 := rfl
  have c1 : (I.of .i64 1).val = 1 := rfl
  have c64 : (I.of .i64 64).val = 64 := rfl
  have hct := U.lt c
  have key : Wp (fun o => o = some ((U.of ((U.top * b.val + a.val) / c.val), U.of ((U.top * b.val + a.val) % c.val), I.of .i64 0, ()), ())) (muldiv_Div512 ((a, b, c, ()), ())) := by
    unfold muldiv_Div512
    refine Wp.brnF ?_ ?_
    · refine (eqb_u256 c _).trans (decide_eq_false ?_)
      intro hh
      have hh : c.val = 0 := hh
      omega
    refine Wp.optF (uint256_Cmp_eq b c) ?_
    refine Wp.brnF ?_ ?_
    · show I.leb (I.of .i64 0) (cmpS b c) = false
      unfold cmpS
      rw [if_pos hbc]; rfl
    refine Wp.iter (fun x => -1 ≤ x.1.1.val ∧ x.1.1.val ≤ 255 ∧ x.2.1 = a ∧ x.2.2.1 = c ∧ DivInv (U.top * b.val + a.val) c.val (x.1.1.val + 1).toNat x.2.2.2.1 x.2.2.2.2.1) (fun x => (x.1.1.val + 1).toNat) ?_ ?_ ?_
    · rintro ⟨⟨i, ⟨⟩⟩, a', c', q, r, ⟨⟩⟩ ⟨hi0, hi1, e1, e2, hinv⟩
      simp only at hi0 hi1 e1 e2 hinv
      subst e1 e2
      refine Wp.brn (fun h => ?_) (fun h => ?_)
      · have hge := iff_leb.1 h
        simp only [c0] at hge
        clear h
        have ht : (i.val + 1).toNat = i.val.toNat + 1 := by omega
        rw [ht] at hinv
        have hq4 : (I.quo i (I.of .i64 64)).val = i.val / 64 := quo_i64 hge (by decide)
        have hr4 : (I.rem i (I.of .i64 64)).val = i.val % 64 := rem_i64 hge (by decide)
        have hin : inB (I.quo i (I.of .i64 64)) 4 = true := iff_inB.2 ⟨by omega, by omega⟩
        have hnn : I.nn (I.rem i (I.of .i64 64)) = true := iff_nn.2 (by omega)
        have hs : (I.sub i (I.of .i64 1)).val = i.val - 1 := by rw [sub_i64 (by omega)]; omega
        have hs1 : ((I.sub i (I.of .i64 1)).val + 1).toNat = i.val.toNat := by omega
        have hm : ((I.sub i (I.of .i64 1)).val + 1).toNat < (i.val + 1).toNat := by omega
        have en : I.nat (I.quo i (I.of .i64 64)) = i.val.toNat / 64 := by unfold I.nat; omega
        have er : (I.rem i (I.of .i64 64)).val.toNat = i.val.toNat % 64 := by omega
        refine Wp.brnT hin (Wp.brnT hnn ?_)
        have hbit : (I.and (I.shr (Arr.sel (I.of .u64 0) 4 a' (I.nat (I.quo i (I.of .i64 64)))) (I.rem i (I.of .i64 64))) (I.of .u64 1)).nat = (U.top * b.val + U.val a') / 2 ^ i.val.toNat % 2 := by
          rw [and_low _ 1 _ (by decide) (by decide), shr_i64 _ _ (by omega) (by omega), er, en, low_bit _ _ _ (by omega), bit_of a' i.val.toNat (by omega)]
          rfl
        obtain ⟨r1, o, hsh, hsum⟩ := shiftLeft_ok r (I.and (I.shr (Arr.sel (I.of .u64 0) 4 a' (I.nat (I.quo i (I.of .i64 64)))) (I.rem i (I.of .i64 64))) (I.of .u64 1)) (by rw [hbit]; omega)
        rw [hbit] at hsum
        refine Wp.optF hsh ?_
        have hlt := hinv.lt
        have hr1 := U.lt r1
        have hc1 : U.val c' < U.top := U.lt c'
        have setb : U.val (Arr.upd 4 q (I.nat (I.quo i (I.of .i64 64))) (I.or (Arr.sel (I.of .u64 0) 4 q (I.nat (I.quo i (I.of .i64 64)))) (I.shl (I.of .u64 1) (I.rem i (I.of .i64 64))))) = U.val q + 1 * 2 ^ i.val.toNat := by
          rw [en, Nat.one_mul]
          exact set_bit q i.val.toNat (by omega) _ (by rw [shl_one_i64 _ (by omega) (by omega), er]) hinv.low
        generalize hB : (U.top * b.val + U.val a') / 2 ^ i.val.toNat % 2 = bit at hsum
        have hB1 : bit ≤ 1 := by omega
        have ho : o.nat = 0 ∨ o.nat = 1 := by
          rcases Nat.lt_or_ge o.nat 2 with h1 | h1
          · omega
          · exfalso
            have : U.top * 2 ≤ U.top * o.nat := Nat.mul_le_mul_left _ h1
            omega
        refine Wp.brn (fun h => ?_) (fun h => ?_)
        · have h := iff_eqb.1 h
          have h : o.val = (I.of .u64 1).val := h
          have z1 : (I.of .u64 1).val = 1 := rfl
          have ho1 : o.nat = 1 := by have := nat_val o; omega
          rw [ho1, Nat.mul_one] at hsum
          obtain ⟨r2, qq, hsub, hsv, hqq⟩ := subWrap_ok r1 c'
          refine Wp.optF hsub ?_
          refine Wp.brnT hin (Wp.brnT hnn (Wp.brnT hin ?_))
          have hr2 := U.lt r2
          have hqq1 : qq = 1 := by
            rcases Nat.lt_or_ge qq 1 with h1 | h1
            · exfalso
              have : qq = 0 := by omega
              rw [this, Nat.mul_zero] at hsv
              omega
            · omega
          rw [hqq1, Nat.mul_one] at hsv
          refine Wp.again ⟨?_, ?_, rfl, rfl, ?_⟩ hm
          · show -1 ≤ (I.sub i (I.of .i64 1)).val; omega
          · show (I.sub i (I.of .i64 1)).val ≤ 255; omega
          · show DivInv _ _ ((I.sub i (I.of .i64 1)).val + 1).toNat _ r2
            rw [hs1]
            exact div_round (r' := r2) hinv bit 1 hB (Nat.le_refl _) setb (by omega) (by omega)
        · have h := niff_eqb.1 h
          have h : o.val ≠ (I.of .u64 1).val := h
          have z1 : (I.of .u64 1).val = 1 := rfl
          have ho0 : o.nat = 0 := by have := nat_val o; omega
          rw [ho0, Nat.mul_zero, Nat.add_zero] at hsum
          refine Wp.optF (uint256_Cmp_eq r1 c') ?_
          by_cases hcmp : U.val r1 < U.val c'
          · refine Wp.brnF ?_ ?_
            · show I.leb (I.of .i64 0) (cmpS r1 c') = false
              unfold cmpS
              rw [if_pos hcmp]; rfl
            refine Wp.again ⟨?_, ?_, rfl, rfl, ?_⟩ hm
            · show -1 ≤ (I.sub i (I.of .i64 1)).val; omega
            · show (I.sub i (I.of .i64 1)).val ≤ 255; omega
            · show DivInv _ _ ((I.sub i (I.of .i64 1)).val + 1).toNat q r1
              rw [hs1]
              exact div_round hinv bit 0 hB (by omega) (by omega) (by omega) hcmp
          · refine Wp.brnT ?_ ?_
            · show I.leb (I.of .i64 0) (cmpS r1 c') = true
              unfold cmpS
              rw [if_neg hcmp]
              split <;> rfl
            obtain ⟨r2, qq, hsub, hsv, hqq⟩ := subWrap_ok r1 c'
            refine Wp.optF hsub ?_
            refine Wp.brnT hin (Wp.brnT hnn (Wp.brnT hin ?_))
            have hr2 := U.lt r2
            have hqq0 : qq = 0 := by
              rcases Nat.lt_or_ge qq 1 with h1 | h1
              · omega
              · exfalso
                have : qq = 1 := by omega
                rw [this, Nat.mul_one] at hsv
                omega
            rw [hqq0, Nat.mul_zero, Nat.add_zero] at hsv
            refine Wp.again ⟨?_, ?_, rfl, rfl, ?_⟩ hm
            · show -1 ≤ (I.sub i (I.of .i64 1)).val; omega
            · show (I.sub i (I.of .i64 1)).val ≤ 255; omega
            · show DivInv _ _ ((I.sub i (I.of .i64 1)).val + 1).toNat _ r2
              rw [hs1]
              exact div_round (r' := r2) hinv bit 1 hB (Nat.le_refl _) setb (by omega) (by omega)
      · have h := niff_leb.1 h
        simp only [c0] at h
        have ht : (i.val + 1).toNat = 0 := by omega
        rw [ht] at hinv
        have heq := hinv.eq
        simp only [Nat.pow_zero, Nat.div_one] at heq
        have hlt := hinv.lt
        refine Wp.done ?_
        show some ((q, r, I.of .i64 0, ()), ()) = _
        have eq : (U.top * b.val + U.val a') / U.val c' = U.val q := by
          rw [heq, Nat.mul_comm, Nat.mul_add_div (by omega), Nat.div_eq_of_lt hlt, Nat.add_zero]
        have er : (U.top * b.val + U.val a') % U.val c' = U.val r := by
          rw [heq, Nat.mul_comm, Nat.mul_add_mod, Nat.mod_eq_of_lt hlt]
        have hq : q = U.of ((U.top * b.val + U.val a') / U.val c') := by rw [eq]; exact (U.of_val q).symm
        have hr : r = U.of ((U.top * b.val + U.val a') % U.val c') := by rw [er]; exact (U.of_val r).symm
        exact (congrArg (fun z : U => some ((z, r, I.of .i64 0, ()), ())) hq).trans (congrArg (fun z : U => some ((U.of ((U.top * b.val + U.val a') / U.val c'), z, I.of .i64 0, ()), ())) hr)
    · refine ⟨by show -1 ≤ (I.of .i64 255).val; decide, by show (I.of .i64 255).val ≤ 255; decide, rfl, rfl, ?_⟩
      show DivInv _ _ ((I.of .i64 255).val + 1).toNat (I.of .u64 0, I.of .u64 0, I.of .u64 0, I.of .u64 0, ()) b
      have e : ((I.of .i64 255).val + 1).toNat = 256 := rfl
      have ha := U.lt a
      rw [e]
      refine ⟨?_, hbc, rfl⟩
      have z : U.val (I.of .u64 0, I.of .u64 0, I.of .u64 0, I.of .u64 0, ()) = 0 := rfl
      rw [z, ← top_two, Nat.zero_div, Nat.zero_mul, Nat.zero_add, Nat.mul_add_div (by decide), Nat.div_eq_of_lt ha, Nat.add_zero]
    · exact K0_ge _ (by show ((I.of .i64 255).val + 1).toNat < _; decide)
  exact key.out

theorem zeroU : (I.of .u64 0, I.of .u64 0, I.of .u64 0, I.of .u64 0, ()) = U.of 0 := rfl

def divModS (a c : U) : U × U × I .i64 := if c.val = 0 then (U.of 0, U.of 0, I.of .i64 5) else (U.of (a.val / c.val), U.of (a.val % c.val), I.of .i64 0)

theorem DivMod_ok (a c : U) : muldiv_DivMod ((a, c, ()), ()) = some (((divModS a c).1, (divModS a c).2.1, (divModS a c).2.2, ()), ()) := by
  refine Wp.out (T := fun o => o = _) ?_
  unfold muldiv_DivMod divModS
  by_cases h : c.val = 0
  · rw [if_pos h]
    refine Wp.optF (y := ((U.of 0, U.of 0, I.of .i64 5, ()), ())) ?_ rfl
    refine Wp.out (T := fun o => o = _) ?_
    unfold muldiv_Div512
    refine Wp.brnT ?_ rfl
    exact (eqb_u256 c _).trans (decide_eq_true h)
  · rw [if_neg h]
    have hz : U.val (U.of 0) = 0 := rfl
    have := Div512_loop a (U.of 0) c (by omega)
    rw [hz, Nat.mul_zero, Nat.zero_add] at this
    exact Wp.optF this rfl
end Sym

/- Signed numbers of 256 bits: what the program's functions compute, told of whole numbers. -/
namespace Sym
open Go

abbrev S : Type := Bool × U × Unit
/-- The whole number that it stands for. -/
def S.int (x : S) : Int := if x.1 then -(x.2.1.val : Int) else x.2.1.val
def S.of (z : Int) : S := (decide (z < 0), U.of z.natAbs, ())
def validB (x : S) : Bool := !(x.1 && decide (x.2.1.val = 0))

theorem S.abs (x : S) : x.int.natAbs = x.2.1.val := by
  unfold S.int
  split <;> omega

theorem S.of_int {x : S} (h : validB x = true) : S.of x.int = x := by
  obtain ⟨n, a, ⟨⟩⟩ := x
  unfold S.of
  have e := S.abs (n, a, ())
  rw [e]
  have e2 : decide (S.int (n, a, ()) < 0) = n := by
    unfold S.int
    unfold validB at h
    cases n with
    | false => simp
    | true =>
      simp at h
      simp
      omega
  rw [e2]
  show (n, U.of a.val, ()) = _
  rw [U.of_val]

theorem S.int_of {z : Int} (h : z.natAbs < U.top) : (S.of z).int = z := by
  unfold S.of S.int
  simp only [U.val_of h]
  by_cases hz : z < 0
  · simp [hz]; omega
  · simp [hz]; omega

theorem S.of_valid {z : Int} (h : z.natAbs < U.top) : validB (S.of z) = true := by
  unfold S.of validB
  simp only [U.val_of h]
  by_cases hz : z < 0
  · simp [hz]; omega
  · simp [hz]

theorem S.lt (x : S) : x.int.natAbs < U.top := by rw [S.abs]; exact U.lt _

/-- The result, or an error. -/
def resS (z : Int) : S × I .i64 := if z.natAbs < U.top then (S.of z, I.of .i64 0) else (S.of 0, I.of .i64 4)

theorem eqb_self' (a : U) : Ty.eqb (.arr 4 (.int .u64)) a a = true := by rw [eqb_u256]; simp

theorem eqbS_self (x : S) : Ty.eqb (.cons .bool (.cons (.arr 4 (.int .u64)) .nil)) x x = true := by
  obtain ⟨n, a, ⟨⟩⟩ := x
  have h := eqb_self' a
  show ((n == n) && (Ty.eqb (.arr 4 (.int .u64)) a a && true)) = true
  rw [h]; simp

theorem eqz (a : U) : Ty.eqb (.arr 4 (.int .u64)) a (I.of .u64 0, I.of .u64 0, I.of .u64 0, I.of .u64 0, ()) = decide (a.val = 0) := eqb_u256 a (U.of 0)

theorem Valid_eq (x : S) : int256_Valid ((x, ()), ()) = some ((validB x, ()), ()) := by
  obtain ⟨n, a, ⟨⟩⟩ := x
  refine Wp.out (T := fun o => o = some ((validB (n, a, ()), ()), ())) ?_
  unfold int256_Valid
  cases n with
  | false => exact Wp.brnT rfl rfl
  | true =>
    refine Wp.brnF rfl ?_
    show some ((!(Ty.eqb (.arr 4 (.int .u64)) a (I.of .u64 0, I.of .u64 0, I.of .u64 0, I.of .u64 0, ())), ()), ()) = some ((!(true && decide (a.val = 0)), ()), ())
    rw [eqz, Bool.true_and]

def sgn (n : Bool) (m : Nat) : Int := if n then -(m : Int) else m

theorem New_eq (n : Bool) (a : U) : int256_New ((n, a, ()), ()) = some ((S.of (sgn n a.val), ()), ()) := by
  refine Wp.out (T := fun o => o = some ((S.of (sgn n a.val), ()), ())) ?_
  unfold int256_New sgn S.of
  cases n with
  | false =>
    refine Wp.brnF rfl ?_
    show some (((false, a, ()), ()), ()) = some (((decide (((a.val : Nat) : Int) < 0), U.of ((a.val : Nat) : Int).natAbs, ()), ()), ())
    rw [Int.natAbs_natCast, U.of_val, decide_eq_false (by omega)]
  | true =>
    refine Wp.brnT rfl ?_
    show some (((!(Ty.eqb (.arr 4 (.int .u64)) a (I.of .u64 0, I.of .u64 0, I.of .u64 0, I.of .u64 0, ())), a, ()), ()), ()) = some (((decide (-((a.val : Nat) : Int) < 0), U.of (-((a.val : Nat) : Int)).natAbs, ()), ()), ())
    rw [eqz, Int.natAbs_neg, Int.natAbs_natCast, U.of_val]
    by_cases h : a.val = 0
    · rw [h]; rfl
    · rw [decide_eq_false h, decide_eq_true (show -((a.val : Nat) : Int) < 0 by omega)]; rfl

theorem sgn_int (x : S) : sgn x.1 x.2.1.val = x.int := rfl

def negS (x : S) : S × I .i64 := if validB x then (S.of (-x.int), I.of .i64 0) else (S.of 0, I.of .i64 2)

theorem Neg_eq (x : S) : int256_Neg ((x, ()), ()) = some (((negS x).1, (negS x).2, ()), ()) := by
  refine Wp.out (T := fun o => o = some (((negS x).1, (negS x).2, ()), ())) ?_
  unfold int256_Neg negS
  refine Wp.optF (Valid_eq x) ?_
  by_cases h : validB x = true
  · rw [if_pos h]
    refine Wp.brnF (by show (!validB x) = false; rw [h]; rfl) ?_
    refine Wp.optF (New_eq (!x.1) x.2.1) ?_
    have : sgn (!x.1) x.2.1.val = -x.int := by
      unfold sgn S.int
      cases x.1 <;> simp
    rw [this]; rfl
  · rw [if_neg h]
    refine Wp.brnT (by show (!validB x) = true; simp [h]) rfl

theorem Diff_eq (a b : U) : int256_Diff ((a, b, ()), ()) = some ((S.of ((a.val : Int) - b.val), ()), ()) := by
  refine Wp.out (T := fun o => o = some ((S.of ((a.val : Int) - b.val), ()), ())) ?_
  have ha := a.lt
  have hb := b.lt
  unfold int256_Diff
  refine Wp.optF (uint256_Cmp_eq a b) ?_
  by_cases h : a.val < b.val
  · refine Wp.brnF (by show I.leb (I.of .i64 0) (cmpS a b) = false; unfold cmpS; rw [if_pos h]; rfl) ?_
    refine Wp.optF (SatSub_ok b a) ?_
    refine Wp.optF (New_eq true (U.of (b.val - a.val))) ?_
    rw [U.val_of (by omega), show sgn true (b.val - a.val) = (a.val : Int) - b.val by unfold sgn; simp; omega]; rfl
  · refine Wp.brnT (by show I.leb (I.of .i64 0) (cmpS a b) = true; unfold cmpS; rw [if_neg h]; split <;> rfl) ?_
    refine Wp.optF (SatSub_ok a b) ?_
    refine Wp.optF (New_eq false (U.of (a.val - b.val))) ?_
    rw [U.val_of (by omega), show sgn false (a.val - b.val) = (a.val : Int) - b.val by unfold sgn; simp; omega]; rfl

/-- Both valid, or an error. -/
def binS (x y : S) (z : Int) : S × I .i64 := if validB x && validB y then resS z else (S.of 0, I.of .i64 2)

theorem binS_t {x y : S} {z : Int} (h1 : validB x = true) (h2 : validB y = true) : binS x y z = resS z := by unfold binS; rw [h1, h2]; rfl
theorem binS_f1 {x y : S} {z : Int} (h1 : validB x = false) : binS x y z = (S.of 0, I.of .i64 2) := by unfold binS; rw [h1]; rfl
theorem binS_f2 {x y : S} {z : Int} (h2 : validB y = false) : binS x y z = (S.of 0, I.of .i64 2) := by unfold binS; rw [h2]; simp

theorem resS_lt {z : Int} (h : z.natAbs < U.top) : resS z = (S.of z, I.of .i64 0) := if_pos h
theorem resS_ge {z : Int} (h : U.top ≤ z.natAbs) : resS z = (S.of 0, I.of .i64 4) := if_neg (by omega)

theorem SAdd_eq (x y : S) : int256_Add ((x, y, ()), ()) = some (((binS x y (x.int + y.int)).1, (binS x y (x.int + y.int)).2, ()), ()) := by
  refine Wp.out (T := fun o => o = some (((binS x y (x.int + y.int)).1, (binS x y (x.int + y.int)).2, ()), ())) ?_
  unfold int256_Add
  refine Wp.jn (fun s => validB x = true ∧ validB y = true ∧ s.2.1 = x ∧ s.2.2.1 = y) ?_ ?_
  · rintro ⟨⟨⟩, x', y', r, ⟨⟩⟩ ⟨h1, h2, e1, e2⟩
    simp only at e1 e2
    subst e1 e2
    rw [binS_t h1 h2]
    obtain ⟨n, a, ⟨⟩⟩ := x'
    obtain ⟨m, b, ⟨⟩⟩ := y'
    have ha := U.lt a
    have hb := U.lt b
    have hab : ∀ (p q : U), ((p.val : Int) - q.val).natAbs < U.top := fun p q => by have := p.lt; have := q.lt; omega
    have same : ∀ (n : Bool), S.int (n, a, ()) + S.int (n, b, ()) = sgn n (U.val a + U.val b) := fun n => by unfold S.int sgn; cases n <;> simp <;> omega
    have add : ∀ (n : Bool), Wp (fun o => o = some (((resS (S.int (n, a, ()) + S.int (n, b, ()))).1, (resS (S.int (n, a, ()) + S.int (n, b, ()))).2, ()), ()))
        (optF none (uint256_Add ((a, b, ()), ())) fun y1 => brn (I.neb y1.1.2.1 (I.of .i64 0)) (some (((false, (I.of .u64 0, I.of .u64 0, I.of .u64 0, I.of .u64 0, ()), ()), y1.1.2.1, ()), ())) (optF none (int256_New ((n, y1.1.1, ()), ())) fun y2 => some ((y2.1.1, I.of .i64 0, ()), ()))) := by
      intro n
      rw [same]
      refine Wp.optF (uint256_Add_eq a b) ?_
      have e : (sgn n (U.val a + U.val b)).natAbs = U.val a + U.val b := by unfold sgn; cases n <;> simp <;> omega
      unfold addS
      by_cases h : U.val a + U.val b < U.top
      · rw [if_pos h, resS_lt (by rw [e]; exact h)]
        refine Wp.brnF rfl ?_
        refine Wp.optF (New_eq n (U.of (U.val a + U.val b))) ?_
        rw [U.val_of h]; rfl
      · rw [if_neg h, resS_ge (by rw [e]; omega)]
        exact Wp.brnT rfl rfl
    cases n <;> cases m
    · exact Wp.brnT rfl (add false)
    · refine Wp.brnF rfl (Wp.brnF rfl ?_)
      refine Wp.optF (Diff_eq a b) ?_
      have : S.int (false, a, ()) + S.int (true, b, ()) = (U.val a : Int) - U.val b := by unfold S.int; simp; omega
      rw [this, resS_lt (hab a b)]; rfl
    · refine Wp.brnF rfl (Wp.brnT rfl ?_)
      refine Wp.optF (Diff_eq b a) ?_
      have : S.int (true, a, ()) + S.int (false, b, ()) = (U.val b : Int) - U.val a := by unfold S.int; simp; omega
      rw [this, resS_lt (hab b a)]; rfl
    · exact Wp.brnT rfl (add true)
  · intro j hj
    refine Wp.optF (Valid_eq x) ?_
    cases h1 : validB x with
    | false =>
      rw [binS_f1 h1]
      exact Wp.brnT rfl rfl
    | true =>
      refine Wp.brnF rfl ?_
      refine Wp.optF (Valid_eq y) ?_
      cases h2 : validB y with
      | false =>
        rw [binS_f2 h2]
        exact Wp.brnT rfl rfl
      | true =>
        exact Wp.brnF rfl (hj _ ⟨h1, h2, rfl, rfl⟩)
end Sym

/- Signed numbers of 256 bits: differences, products, quotients, order. -/
namespace Sym
open Go

theorem SSub_eq (x y : S) : int256_Sub ((x, y, ()), ()) = some (((binS x y (x.int - y.int)).1, (binS x y (x.int - y.int)).2, ()), ()) := by
  refine Wp.out (T := fun o => o = some (((binS x y (x.int - y.int)).1, (binS x y (x.int - y.int)).2, ()), ())) ?_
  unfold int256_Sub
  refine Wp.optF (Neg_eq y) ?_
  refine Wp.jn (fun s => validB x = true ∧ validB y = true ∧ s.2.1 = x ∧ s.2.2.2.1 = S.of (-y.int)) ?_ ?_
  · rintro ⟨⟨⟩, x', r, y', ⟨⟩⟩ ⟨h1, h2, e1, e2⟩
    simp only at e1 e2
    subst e1 e2
    refine Wp.optF (SAdd_eq x' (S.of (-y.int))) ?_
    have hy := y.lt
    rw [binS_t h1 h2, binS_t h1 (S.of_valid (by omega)), S.int_of (by omega), show S.int x' + -y.int = S.int x' - y.int by omega]
    rfl
  · intro j hj
    unfold negS
    cases h2 : validB y with
    | false =>
      rw [binS_f2 h2]
      exact Wp.brnT rfl rfl
    | true =>
      refine Wp.brnF rfl ?_
      refine Wp.optF (Valid_eq x) ?_
      cases h1 : validB x with
      | false =>
        rw [binS_f1 h1]
        exact Wp.brnT rfl rfl
      | true => exact Wp.brnF rfl (hj _ ⟨h1, h2, rfl, rfl⟩)

theorem sgn_mul (n m : Bool) (a b : Nat) : sgn n a * sgn m b = sgn (!(n == m)) (a * b) := by
  unfold sgn
  cases n <;> cases m <;> simp [Int.neg_mul, Int.mul_neg]

theorem sgn_abs (n : Bool) (a : Nat) : (sgn n a).natAbs = a := by unfold sgn; cases n <;> simp

theorem SMul_eq (x y : S) : int256_Mul ((x, y, ()), ()) = some (((binS x y (x.int * y.int)).1, (binS x y (x.int * y.int)).2, ()), ()) := by
  refine Wp.out (T := fun o => o = some (((binS x y (x.int * y.int)).1, (binS x y (x.int * y.int)).2, ()), ())) ?_
  unfold int256_Mul
  refine Wp.jn (fun s => validB x = true ∧ validB y = true ∧ s.2.1 = x ∧ s.2.2.1 = y) ?_ ?_
  · rintro ⟨⟨⟩, x', y', r, ⟨⟩⟩ ⟨h1, h2, e1, e2⟩
    simp only at e1 e2
    subst e1 e2
    rw [binS_t h1 h2]
    obtain ⟨n, a, ⟨⟩⟩ := x'
    obtain ⟨m, b, ⟨⟩⟩ := y'
    have e : S.int (n, a, ()) * S.int (m, b, ()) = sgn (!(n == m)) (U.val a * U.val b) := sgn_mul n m _ _
    rw [e]
    refine Wp.optF (Mul_ok a b) ?_
    unfold errS
    by_cases h : U.val a * U.val b < U.top
    · rw [if_pos h, resS_lt (by rw [sgn_abs]; exact h)]
      refine Wp.brnF rfl ?_
      refine Wp.optF (New_eq (!(n == m)) (U.of (U.val a * U.val b))) ?_
      rw [U.val_of h]; rfl
    · rw [if_neg h, resS_ge (by rw [sgn_abs]; omega)]
      exact Wp.brnT rfl rfl
  · intro j hj
    refine Wp.optF (Valid_eq x) ?_
    cases h1 : validB x with
    | false =>
      rw [binS_f1 h1]
      exact Wp.brnT rfl rfl
    | true =>
      refine Wp.brnF rfl ?_
      refine Wp.optF (Valid_eq y) ?_
      cases h2 : validB y with
      | false =>
        rw [binS_f2 h2]
        exact Wp.brnT rfl rfl
      | true =>
        exact Wp.brnF rfl (hj _ ⟨h1, h2, rfl, rfl⟩)

def divFS (x : S) (d : U) : S × I .i64 := if validB x then (if d.val = 0 then (S.of 0, I.of .i64 5) else (S.of (x.int / (d.val : Int)), I.of .i64 0)) else (S.of 0, I.of .i64 2)

theorem neg_div (a d : Nat) (hd : 0 < d) : -(a : Int) / (d : Int) = if a % d = 0 then -((a / d : Nat) : Int) else -((a / d + 1 : Nat) : Int) := by
  have h1 := Nat.div_add_mod a d
  have h2 := Nat.mod_lt a hd
  have h1' : (d : Int) * ((a / d : Nat) : Int) + ((a % d : Nat) : Int) = (a : Int) := by rw [← Int.natCast_mul]; omega
  by_cases h : a % d = 0
  · rw [if_pos h]
    refine ((Int.ediv_emod_unique (r := 0) (by omega)).2 ⟨?_, by omega, by omega⟩).1
    rw [h] at h1'
    rw [Int.mul_neg]
    simp only [Int.ofNat_zero] at h1'
    omega
  · rw [if_neg h]
    refine ((Int.ediv_emod_unique (r := (d : Int) - ((a % d : Nat) : Int)) (by omega)).2 ⟨?_, by omega, by omega⟩).1
    rw [Int.natCast_add, Int.mul_neg, Int.mul_add, show ((1 : Nat) : Int) = 1 from rfl, Int.mul_one]
    omega

theorem DivFloor_eq (x : S) (d : U) : int256_DivFloor ((x, d, ()), ()) = some (((divFS x d).1, (divFS x d).2, ()), ()) := by
  refine Wp.out (T := fun o => o = some (((divFS x d).1, (divFS x d).2, ()), ())) ?_
  unfold int256_DivFloor divFS
  refine Wp.optF (Valid_eq x) ?_
  cases h1 : validB x with
  | false => exact Wp.brnT rfl rfl
  | true =>
    refine Wp.brnF rfl ?_
    refine Wp.optF (DivMod_ok x.2.1 d) ?_
    unfold divModS
    by_cases hd : d.val = 0
    · rw [if_pos hd, if_pos rfl, if_pos hd]
      exact Wp.brnT rfl rfl
    · rw [if_neg hd, if_pos rfl, if_neg hd]
      refine Wp.brnF rfl ?_
      obtain ⟨n, a, ⟨⟩⟩ := x
      have ha := U.lt a
      have hq : U.val a / d.val < U.top := Nat.lt_of_le_of_lt (Nat.div_le_self _ _) ha
      have hr : U.val a % d.val < U.top := Nat.lt_of_le_of_lt (Nat.mod_le _ _) ha
      refine Wp.jn (fun s => s.2.1.1 = n ∧ s.2.2.2.1 = U.of (U.val a / d.val) ∧ s.1.1 = (n && !decide (U.val a % d.val = 0))) ?_ ?_
      · rintro ⟨⟨b, ⟨⟩⟩, ⟨n', a', ⟨⟩⟩, r, q, ⟨⟩⟩ ⟨e1, e2, e3⟩
        simp only at e1 e2 e3
        subst e1 e2 e3
        cases n' with
        | false =>
          refine Wp.brnF rfl ?_
          refine Wp.optF (New_eq false (U.of (U.val a / d.val))) ?_
          rw [U.val_of hq]
          rfl
        | true =>
          have hz : S.int (true, a, ()) / (d.val : Int) = if U.val a % d.val = 0 then -((U.val a / d.val : Nat) : Int) else -((U.val a / d.val + 1 : Nat) : Int) := neg_div _ _ (by omega)
          rw [hz]
          by_cases hm : U.val a % d.val = 0
          · rw [if_pos hm]
            refine Wp.brnF (by show (true && !decide (U.val a % d.val = 0)) = false; rw [hm]; rfl) ?_
            refine Wp.optF (New_eq true (U.of (U.val a / d.val))) ?_
            rw [U.val_of hq]
            rfl
          · rw [if_neg hm]
            refine Wp.brnT (by show (true && !decide (U.val a % d.val = 0)) = true; simp [hm]) ?_
            refine Wp.optF (u256_FromUint64 _) ?_
            refine Wp.optF (uint256_Add_eq (U.of (U.val a / d.val)) (u64U (I.of .u64 1))) ?_
            have hlt : U.val a / d.val + 1 < U.top := by
              have h2 : d.val ≠ 1 := by intro e; rw [e, Nat.mod_one] at hm; exact hm rfl
              have h3 : U.val a / d.val ≤ U.val a / 2 := Nat.div_le_div_left (by omega) (by decide)
              have : U.top = 115792089237316195423570985008687907853269984665640564039457584007913129639936 := rfl
              omega
            have h1v : (u64U (I.of .u64 1)).val = 1 := rfl
            unfold addS
            rw [U.val_of hq, h1v, if_pos hlt]
            refine Wp.optF (New_eq true (U.of (U.val a / d.val + 1))) ?_
            rw [U.val_of hlt]
            rfl
      · intro j hj
        have hbit : (!(Ty.eqb (.arr 4 (.int .u64)) (U.of (U.val a % d.val)) (I.of .u64 0, I.of .u64 0, I.of .u64 0, I.of .u64 0, ()))) = !decide (U.val a % d.val = 0) := by rw [eqz, U.val_of hr]
        cases n with
        | false => exact Wp.brnF rfl (hj _ ⟨rfl, rfl, rfl⟩)
        | true => exact Wp.brnT rfl (hj _ ⟨rfl, rfl, hbit⟩)

def clampS (a : U) (y : S) : U × I .i64 := if validB y then (if (a.val : Int) + y.int < 0 then (U.of 0, I.of .i64 0) else errS ((a.val : Int) + y.int).toNat) else (U.of 0, I.of .i64 2)

theorem AddClamped_eq (a : U) (y : S) : int256_AddClamped ((a, y, ()), ()) = some (((clampS a y).1, (clampS a y).2, ()), ()) := by
  refine Wp.out (T := fun o => o = some (((clampS a y).1, (clampS a y).2, ()), ())) ?_
  unfold int256_AddClamped clampS
  refine Wp.optF (Valid_eq y) ?_
  cases h1 : validB y with
  | false => exact Wp.brnT rfl rfl
  | true =>
    refine Wp.brnF rfl ?_
    rw [if_pos rfl]
    obtain ⟨n, b, ⟨⟩⟩ := y
    have ha := U.lt a
    have hb := U.lt b
    cases n with
    | false =>
      refine Wp.brnF rfl ?_
      refine Wp.optF (uint256_Add_eq a b) ?_
      have e : S.int (false, b, ()) = (U.val b : Int) := rfl
      rw [e, if_neg (by omega), show ((U.val a : Int) + U.val b).toNat = U.val a + U.val b by omega]
      rfl
    | true =>
      refine Wp.brnT rfl ?_
      refine Wp.optF (SatSub_ok a b) ?_
      have e : S.int (true, b, ()) = -(U.val b : Int) := rfl
      rw [e]
      by_cases h : U.val a < U.val b
      · rw [if_pos (by omega), show U.val a - U.val b = 0 by omega]
        rfl
      · rw [if_neg (by omega), show ((U.val a : Int) + -(U.val b : Int)).toNat = U.val a - U.val b by omega]
        rw [show errS (U.val a - U.val b) = (U.of (U.val a - U.val b), I.of .i64 0) from if_pos (by omega)]
        rfl

def cmpI (x y : Int) : I .i64 := if x < y then I.of .i64 (-1) else if y < x then I.of .i64 1 else I.of .i64 0
def cmpZ (x y : S) : I .i64 := if validB x && validB y then cmpI x.int y.int else I.of .i64 0

theorem SCmp_eq (x y : S) : int256_Cmp ((x, y, ()), ()) = some ((cmpZ x y, ()), ()) := by
  refine Wp.out (T := fun o => o = some ((cmpZ x y, ()), ())) ?_
  unfold int256_Cmp
  refine Wp.jn (fun s => s.2.1 = x ∧ s.2.2.1 = y ∧ s.1.1 = !(validB x && validB y)) ?_ ?_
  · rintro ⟨⟨b, ⟨⟩⟩, x', y', ⟨⟩⟩ ⟨e1, e2, e3⟩
    simp only at e1 e2 e3
    subst e1 e2 e3
    cases hv : (validB x' && validB y') with
    | false =>
      refine Wp.brnT rfl ?_
      unfold cmpZ
      rw [hv]; rfl
    | true =>
      refine Wp.brnF rfl ?_
      have hc : cmpZ x' y' = cmpI (S.int x') (S.int y') := by unfold cmpZ; rw [hv]; rfl
      rw [hc]
      simp only [Bool.and_eq_true] at hv
      obtain ⟨n, a, ⟨⟩⟩ := x'
      obtain ⟨m, b, ⟨⟩⟩ := y'
      have pos : ∀ (a : U), S.int (false, a, ()) = (U.val a : Int) := fun _ => rfl
      have neg : ∀ (a : U), S.int (true, a, ()) = -(U.val a : Int) := fun _ => rfl
      have hn : ∀ {a : U}, validB (true, a, ()) = true → U.val a ≠ 0 := by
        intro a h hz
        unfold validB at h
        simp [hz] at h
      refine Wp.jn (fun s => s.2.1 = (n, a, ()) ∧ s.2.2.1 = (m, b, ()) ∧ s.1.1 = (n && m)) ?_ ?_
      · rintro ⟨⟨b', ⟨⟩⟩, x', y', ⟨⟩⟩ ⟨e1, e2, e3⟩
        simp only at e1 e2 e3
        subst e1 e2 e3
        cases n <;> cases m
        · refine Wp.brnF rfl (Wp.brnF rfl (Wp.brnF rfl ?_))
          refine Wp.optF (uint256_Cmp_eq a b) ?_
          rw [pos, pos]
          unfold cmpI cmpS
          simp only [Int.ofNat_lt]
          rfl
        · refine Wp.brnF rfl (Wp.brnF rfl (Wp.brnT rfl ?_))
          have := hn hv.2
          rw [pos, neg]
          unfold cmpI
          rw [if_neg (by omega), if_pos (by omega)]
          rfl
        · refine Wp.brnF rfl (Wp.brnT rfl ?_)
          have := hn hv.1
          rw [pos, neg]
          unfold cmpI
          rw [if_pos (by omega)]
          rfl
        · refine Wp.brnT rfl ?_
          refine Wp.optF (uint256_Cmp_eq b a) ?_
          rw [neg, neg]
          have e : cmpS b a = cmpI (-(U.val a : Int)) (-(U.val b : Int)) := by
            unfold cmpI cmpS
            rcases Nat.lt_trichotomy (U.val a) (U.val b) with h | h | h
            · rw [if_neg (show ¬ U.val b < U.val a by omega), if_pos h, if_neg (show ¬ -(U.val a : Int) < -(U.val b : Int) by omega), if_pos (show -(U.val b : Int) < -(U.val a : Int) by omega)]
            · rw [if_neg (show ¬ U.val b < U.val a by omega), if_neg (show ¬ U.val a < U.val b by omega), if_neg (show ¬ -(U.val a : Int) < -(U.val b : Int) by omega), if_neg (show ¬ -(U.val b : Int) < -(U.val a : Int) by omega)]
            · rw [if_pos h, if_pos (show -(U.val a : Int) < -(U.val b : Int) by omega)]
          rw [e]
          rfl
      · intro j hj
        cases n with
        | false => exact Wp.brnF rfl (hj _ ⟨rfl, rfl, rfl⟩)
        | true => exact Wp.brnT rfl (hj _ ⟨rfl, rfl, rfl⟩)
  · intro j hj
    refine Wp.optF (Valid_eq x) ?_
    cases h1 : validB x with
    | false => exact Wp.brnT rfl (hj _ ⟨rfl, rfl, by rw [h1]; rfl⟩)
    | true =>
      refine Wp.brnF rfl ?_
      refine Wp.optF (Valid_eq y) ?_
      exact hj _ ⟨rfl, rfl, by rw [h1]; rfl⟩

theorem abs64 (n : I .i64) (h : n.val < 0) : (I.add (I.conv .u64 (I.neg (I.add n (I.of .i64 1)))) (I.of .u64 1)).nat = n.val.natAbs := by
  have hn := i64_range n
  have c1 : (I.of .i64 1).val = 1 := rfl
  have d1 : (I.of .u64 1).val = 1 := rfl
  have e1 : (I.add n (I.of .i64 1)).val = n.val + 1 := by rw [add_i64 (by omega), c1]
  have e2 : (I.neg (I.add n (I.of .i64 1))).val = -(n.val + 1) := by
    show (I.of .i64 (0 - (I.add n (I.of .i64 1)).val)).val = _
    rw [e1, of_i64 (by omega)]; omega
  have e3 : (I.conv .u64 (I.neg (I.add n (I.of .i64 1)))).val = -(n.val + 1) := by
    show (I.of .u64 _).val = _
    rw [e2, of_u64 (by omega)]
  have e4 := add_u64 (a := I.conv .u64 (I.neg (I.add n (I.of .i64 1)))) (b := I.of .u64 1) (by omega)
  have := nat_val (I.add (I.conv .u64 (I.neg (I.add n (I.of .i64 1)))) (I.of .u64 1))
  omega

theorem conv64 (n : I .i64) (h : 0 ≤ n.val) : (I.conv .u64 n).nat = n.val.natAbs := by
  have hn := i64_range n
  have e3 : (I.conv .u64 n).val = n.val := of_u64 (by omega)
  have := nat_val (I.conv .u64 n)
  omega

theorem u64U_of (x : I .u64) (n : Nat) (h : x.nat = n) : u64U x = U.of n := by
  apply U.ext
  have := nat_lt x
  rw [u64U_val, U.val_of (by have : U.top = 115792089237316195423570985008687907853269984665640564039457584007913129639936 := rfl; omega), h]

theorem SFrom_eq (n : I .i64) : int256_FromInt64 ((n, ()), ()) = some ((S.of n.val, ()), ()) := by
  refine Wp.out (T := fun o => o = some ((S.of n.val, ()), ())) ?_
  unfold int256_FromInt64
  have c0 : (I.of .i64 0).val = 0 := rfl
  refine Wp.brn (fun h => ?_) (fun h => ?_)
  · have h := iff_ltb.1 h
    have h : n.val < (I.of .i64 0).val := h
    refine Wp.optF (u256_FromUint64 _) ?_
    have := u64U_of _ _ (abs64 n (by omega))
    refine (congrArg (fun z : U => some (((true, z, ()), ()), ())) this).trans ?_
    unfold S.of
    rw [decide_eq_true (show n.val < 0 by omega)]
  · have h := niff_ltb.1 h
    have h : (I.of .i64 0).val ≤ n.val := h
    refine Wp.optF (u256_FromUint64 _) ?_
    have := u64U_of _ _ (conv64 n (by omega))
    refine (congrArg (fun z : U => some (((false, z, ()), ()), ())) this).trans ?_
    unfold S.of
    rw [decide_eq_false (show ¬ n.val < 0 by omega)]

theorem awake3 : pontagelaw3_awake ((), ()) = some ((true, ()), ()) := by
  refine Wp.out (T := fun o => o = some ((true, ()), ())) ?_
  unfold pontagelaw3_awake
  refine Wp.optF (SFrom_eq (I.of .i64 (-7))) ?_
  refine Wp.optF (DivFloor_eq _ _) ?_
  refine Wp.optF (SFrom_eq (I.of .i64 (-5))) ?_
  refine Wp.optF (AddClamped_eq _ _) ?_
  refine Wp.optF (SFrom_eq (I.of .i64 (-4))) ?_
  refine Wp.brnT (by kernel_rfl) (Wp.brnT (by kernel_rfl) (Wp.brnT (by kernel_rfl) (Wp.brnT (by kernel_rfl) ?_)))
  refine Wp.optF (Valid_eq _) ?_
  refine Wp.brnT (by kernel_rfl) ?_
  refine Wp.optF (SFrom_eq (I.of .i64 (-4))) ?_
  show _ = _
  kernel_rfl
end Sym

/- Signed numbers: what the reference's functions compute; two laws. -/
namespace Sym
open Go

abbrev SB : Type := Bool × List Dg × Unit
/-- s is the whole number z. -/
structure IsSB (s : SB) (z : Int) : Prop where
  neg : s.1 = decide (z < 0)
  abs : IsB s.2.1 z.natAbs

def Bd (n : Nat) : Prop := n < 65536 ^ 64

theorem len_small' {l : List Dg} {n : Nat} (h : IsB l n) (k : Nat) (hn : n < 65536 ^ k) (hk : k ≤ 1000000) : l.length ≤ 1000000 := Nat.le_trans (h.len.2 hn) hk

theorem Bd.len {l : List Dg} {n : Nat} (h : IsB l n) (hb : Bd n) : l.length ≤ 1000000 := len_small' h 64 hb (by decide)
theorem Bd.of_top {n : Nat} (h : n < U.top) : Bd n := Nat.lt_trans h (by decide)
theorem Bd.of_two {n : Nat} (h : n < U.top + U.top) : Bd n := Nat.lt_trans h (by decide)
theorem Bd.of_sq {n : Nat} (h : n < U.top * U.top) : Bd n := Nat.lt_trans h (by decide)

theorem len_pos {l : List Dg} {n : Nat} (h : IsB l n) : 0 < l.length ↔ n ≠ 0 := by
  have := h.len (k := 0)
  rw [Nat.pow_zero] at this
  omega

theorem sign_ok (n : Bool) {l : List Dg} {m : Nat} (h : IsB l m) (hl : l.length ≤ 1000000) : ∃ s : SB, pontageref3_sign ((n, l, ()), ()) = some ((s, ()), ()) ∧ IsSB s (sgn n m) := by
  have key : Wp (fun o => ∃ s : SB, o = some ((s, ()), ()) ∧ IsSB s (sgn n m)) (pontageref3_sign ((n, l, ()), ())) := by
    have hol : (I.ofNat .i64 (lenL l)).val = l.length := ofNat_i64 (by show l.length < _; omega)
    have c0 : (I.of .i64 0).val = 0 := rfl
    have hp := len_pos h
    unfold pontageref3_sign
    cases n with
    | false => exact Wp.brnF rfl ⟨_, rfl, (decide_eq_false (by unfold sgn; simp)).symm, by rw [sgn_abs]; exact h⟩
    | true =>
      refine Wp.brnT rfl ⟨_, rfl, ?_, by rw [sgn_abs]; exact h⟩
      show I.ltb (I.of .i64 0) (I.ofNat .i64 (lenL l)) = decide (sgn true m < 0)
      unfold I.ltb
      rw [c0, hol]
      have : ((0 : Int) < (l.length : Int)) ↔ sgn true m < 0 := by unfold sgn; simp; omega
      simp only [this]
  exact key.out

theorem FromInt_ok (x : S) : ∃ s : SB, pontageref3_FromInt256 ((x, ()), ()) = some ((s, ()), ()) ∧ IsSB s x.int := by
  have key : Wp (fun o => ∃ s : SB, o = some ((s, ()), ()) ∧ IsSB s x.int) (pontageref3_FromInt256 ((x, ()), ())) := by
    unfold pontageref3_FromInt256
    obtain ⟨l, hl, hB⟩ := FromUint256_ok x.2.1
    refine Wp.optF hl ?_
    obtain ⟨s, hs, hS⟩ := sign_ok x.1 hB (Bd.len hB (Bd.of_top (U.lt _)))
    exact Wp.optF hs ⟨s, rfl, hS⟩
  exact key.out

theorem RAdd_ok {s t : SB} {z w : Int} (hs : IsSB s z) (ht : IsSB t w) (hz : Bd z.natAbs) (hw : Bd w.natAbs) (hzw : Bd (z.natAbs + w.natAbs)) : ∃ r : SB, pontageref3_Add ((s, t, ()), ()) = some ((r, ()), ()) ∧ IsSB r (z + w) := by
  have key : Wp (fun o => ∃ r : SB, o = some ((r, ()), ()) ∧ IsSB r (z + w)) (pontageref3_Add ((s, t, ()), ())) := by
    obtain ⟨n, l, ⟨⟩⟩ := s
    obtain ⟨m, l2, ⟨⟩⟩ := t
    obtain ⟨h1, h2⟩ := hs
    obtain ⟨h3, h4⟩ := ht
    simp only at h1 h2 h3 h4
    have len1 := Bd.len h2 hz
    have len2 := Bd.len h4 hw
    unfold pontageref3_Add
    by_cases hnm : n = m
    · refine Wp.brnT (by show (n == m) = true; simp [hnm]) ?_
      obtain ⟨r, hr, hB⟩ := Add_ok h2 h4 len1 len2
      refine Wp.optF hr ?_
      obtain ⟨q, hq, hQ⟩ := sign_ok n hB (Bd.len hB hzw)
      refine Wp.optF hq ⟨q, rfl, ?_⟩
      have : sgn n (z.natAbs + w.natAbs) = z + w := by
        unfold sgn
        subst hnm
        rw [h1] at h3 ⊢
        by_cases hz0 : z < 0
        · have : w < 0 := by simpa [hz0] using h3
          simp [hz0]; omega
        · have : ¬ w < 0 := by simpa [hz0] using h3
          simp [hz0]; omega
      rw [← this]; exact hQ
    · refine Wp.brnF (by show (n == m) = false; simp [hnm]) ?_
      refine Wp.optF (Cmp_ok h2 h4 len1 len2) ?_
      have hne : ¬ (decide (z < 0) = decide (w < 0)) := by rw [← h1, ← h3]; exact hnm
      by_cases hlt : z.natAbs < w.natAbs
      · refine Wp.brnF (by show I.leb (I.of .i64 0) (cmpN _ _) = false; unfold cmpN; rw [if_pos hlt]; rfl) ?_
        obtain ⟨r, hr, hB⟩ := Sub_ok h4 h2 (by omega) len2
        refine Wp.optF hr ?_
        obtain ⟨q, hq, hQ⟩ := sign_ok m hB (Bd.len hB (Nat.lt_of_le_of_lt (Nat.sub_le _ _) hw))
        refine Wp.optF hq ⟨q, rfl, ?_⟩
        have : sgn m (w.natAbs - z.natAbs) = z + w := by
          unfold sgn
          rw [h3]
          by_cases hw0 : w < 0
          · have : ¬ z < 0 := by simpa [hw0] using hne
            simp [hw0]; omega
          · have : z < 0 := by simpa [hw0] using hne
            simp [hw0]; omega
        rw [← this]; exact hQ
      · refine Wp.brnT (by show I.leb (I.of .i64 0) (cmpN _ _) = true; unfold cmpN; rw [if_neg hlt]; split <;> rfl) ?_
        obtain ⟨r, hr, hB⟩ := Sub_ok h2 h4 (by omega) len1
        refine Wp.optF hr ?_
        obtain ⟨q, hq, hQ⟩ := sign_ok n hB (Bd.len hB (Nat.lt_of_le_of_lt (Nat.sub_le _ _) hz))
        refine Wp.optF hq ⟨q, rfl, ?_⟩
        have : sgn n (z.natAbs - w.natAbs) = z + w := by
          unfold sgn
          rw [h1]
          by_cases hz0 : z < 0
          · have : ¬ w < 0 := by simpa [hz0] using hne
            simp [hz0]; omega
          · have : w < 0 := by simpa [hz0] using hne
            simp [hz0]; omega
        rw [← this]; exact hQ
  exact key.out

theorem RNegate_ok {s : SB} {z : Int} (hs : IsSB s z) (hz : Bd z.natAbs) : ∃ r : SB, pontageref3_Negate ((s, ()), ()) = some ((r, ()), ()) ∧ IsSB r (-z) := by
  have key : Wp (fun o => ∃ r : SB, o = some ((r, ()), ()) ∧ IsSB r (-z)) (pontageref3_Negate ((s, ()), ())) := by
    unfold pontageref3_Negate
    obtain ⟨q, hq, hQ⟩ := sign_ok (!s.1) hs.abs (Bd.len hs.abs hz)
    refine Wp.optF hq ⟨q, rfl, ?_⟩
    have : sgn (!s.1) z.natAbs = -z := by
      rw [hs.neg]
      unfold sgn
      by_cases h : z < 0
      · simp [h]; omega
      · simp [h]; omega
    rw [← this]; exact hQ
  exact key.out

theorem RChecked_ok {s : SB} {z : Int} (hs : IsSB s z) (hz : Bd z.natAbs) : pontageref3_Checked ((s, ()), ()) = some (((resS z).1, (resS z).2, ()), ()) := by
  refine Wp.out (T := fun o => o = some (((resS z).1, (resS z).2, ()), ())) ?_
  unfold pontageref3_Checked
  refine Wp.optF (Checked_ok' hs.abs (Bd.len hs.abs hz)) ?_
  unfold errS
  by_cases h : z.natAbs < U.top
  · rw [if_pos h, resS_lt h]
    refine Wp.brnF rfl ?_
    show some (((s.1, U.of z.natAbs, ()), I.of .i64 0, ()), ()) = some ((((decide (z < 0), U.of z.natAbs, ()) : S), I.of .i64 0, ()), ())
    rw [hs.neg]
  · rw [if_neg h, resS_ge (by omega)]
    exact Wp.brnT rfl rfl

theorem IsZero_eq (a : U) : pontageref1_IsZero ((a, ()), ()) = some ((decide (a.val = 0), ()), ()) := by
  refine Wp.out (T := fun o => o = some ((decide (a.val = 0), ()), ())) ?_
  unfold pontageref1_IsZero
  show some ((Ty.eqb (.arr 4 (.int .u64)) a (I.of .u64 0, I.of .u64 0, I.of .u64 0, I.of .u64 0, ()), ()), ()) = _
  rw [eqz]

theorem RValid_eq (x : S) : pontageref3_Valid ((x, ()), ()) = some ((validB x, ()), ()) := by
  obtain ⟨n, a, ⟨⟩⟩ := x
  refine Wp.out (T := fun o => o = some ((validB (n, a, ()), ()), ())) ?_
  unfold pontageref3_Valid
  cases n with
  | false => exact Wp.brnF rfl rfl
  | true => exact Wp.brnT rfl (Wp.optF (IsZero_eq a) rfl)

theorem RDiff_eq (a b : U) : pontageref3_Diff ((a, b, ()), ()) = some ((S.of ((a.val : Int) - b.val), ()), ()) := by
  have ha := a.lt
  have hb := b.lt
  refine Wp.out (T := fun o => o = some ((S.of ((a.val : Int) - b.val), ()), ())) ?_
  unfold pontageref3_Diff
  obtain ⟨l, hl, hB⟩ := FromUint256_ok a
  refine Wp.optF hl ?_
  obtain ⟨s, hs, hS⟩ := sign_ok false hB (Bd.len hB (Bd.of_top ha))
  refine Wp.optF hs ?_
  obtain ⟨l2, hl2, hB2⟩ := FromUint256_ok b
  refine Wp.optF hl2 ?_
  obtain ⟨s2, hs2, hS2⟩ := sign_ok true hB2 (Bd.len hB2 (Bd.of_top hb))
  refine Wp.optF hs2 ?_
  have e1 : sgn false a.val = (a.val : Int) := rfl
  have e2 : sgn true b.val = -(b.val : Int) := rfl
  rw [e1] at hS
  rw [e2] at hS2
  obtain ⟨r, hr, hR⟩ := RAdd_ok hS hS2 (Bd.of_top (by omega)) (Bd.of_top (by omega)) (Bd.of_two (by omega))
  refine Wp.optF hr ?_
  rw [show (a.val : Int) + -(b.val : Int) = (a.val : Int) - b.val by omega] at hR
  refine Wp.optF (RChecked_ok hR (Bd.of_top (by omega))) ?_
  rw [resS_lt (by omega)]
  rfl

theorem RClamp_eq (a : U) (y : S) : pontageref3_AddClamped ((a, y, ()), ()) = some (((clampS a y).1, (clampS a y).2, ()), ()) := by
  have ha := a.lt
  have hy := y.lt
  refine Wp.out (T := fun o => o = some (((clampS a y).1, (clampS a y).2, ()), ())) ?_
  unfold pontageref3_AddClamped clampS
  refine Wp.optF (RValid_eq y) ?_
  cases h1 : validB y with
  | false => exact Wp.brnT rfl rfl
  | true =>
    rw [if_pos rfl]
    refine Wp.brnF rfl ?_
    obtain ⟨l, hl, hB⟩ := FromUint256_ok a
    refine Wp.optF hl ?_
    obtain ⟨s, hs, hS⟩ := sign_ok false hB (Bd.len hB (Bd.of_top ha))
    refine Wp.optF hs ?_
    obtain ⟨s2, hs2, hS2⟩ := FromInt_ok y
    refine Wp.optF hs2 ?_
    have e1 : sgn false a.val = (a.val : Int) := rfl
    rw [e1] at hS
    obtain ⟨r, hr, hR⟩ := RAdd_ok hS hS2 (Bd.of_top (by omega)) (Bd.of_top (by omega)) (Bd.of_two (by omega))
    refine Wp.optF hr ?_
    by_cases hz : (a.val : Int) + y.int < 0
    · rw [if_pos hz]
      refine Wp.brnT (by show r.1 = true; rw [hR.neg]; exact decide_eq_true hz) rfl
    · rw [if_neg hz]
      refine Wp.brnF (by show r.1 = false; rw [hR.neg]; exact decide_eq_false hz) ?_
      have hb : Bd ((a.val : Int) + y.int).natAbs := Bd.of_two (by omega)
      refine Wp.optF (Checked_ok' hR.abs (Bd.len hR.abs hb)) ?_
      rw [show ((a.val : Int) + y.int).natAbs = ((a.val : Int) + y.int).toNat by omega]
      rfl

theorem diff_law (a b : U) (c : S) : pontagelaw3_Int256DiffAddClamped ((a, b, c, ()), ()) = some ((true, ()), ()) := by
  refine Wp.out (T := fun o => o = some ((true, ()), ())) ?_
  unfold pontagelaw3_Int256DiffAddClamped
  refine Wp.optF (AddClamped_eq a c) (Wp.optF (RClamp_eq a c) (Wp.optF (Diff_eq a b) (Wp.optF (RDiff_eq a b) ?_)))
  refine Wp.brnT (eqbS_self _) (Wp.brnT (eqb_self' _) (Wp.brnT (by simp [I.eqb]) ?_))
  exact Wp.optF awake3 rfl
end Sym

/- From what a row reads of the arguments to plain values, and from a contract to the row's answer. -/
namespace Sym
open Go

mutual
def argB (P : Program) : Ty → TypeId → Bool
  | .cons a b, id => match P.underlying id with
    | some (.struct fs) => (match fs.toList with
      | f :: r => argB P a f.type && fargB P b r
      | [] => false)
    | _ => false
  | .arr _ t, id => match P.underlying id with
    | some (.array _ e) => argB P t e
    | _ => false
  | .sl t, id => match P.underlying id with
    | some (.slice e) => Nat.ble 1 t.sz && (Nat.ble 1 (P.bytesOf e) && argB P t e)
    | _ => false
  | .opq, _ => false
  | _, _ => true
def fargB (P : Program) : Ty → List Field → Bool
  | .cons a b, f :: r => argB P a f.type && fargB P b r
  | _, _ => true
end

theorem mapM_some {X Y : Type} {f : X → Option Y} : ∀ {l : List X} {r : List Y}, l.mapM f = some r → r.length = l.length ∧ ∀ (i : Nat) (a : X), l[i]? = some a → ∃ b, r[i]? = some b ∧ f a = some b
  | [], r, h => by
    simp only [List.mapM_nil, Option.pure_def, Option.some.injEq] at h
    subst h
    exact ⟨rfl, fun i a h => by simp at h⟩
  | a :: l, r, h => by
    simp only [List.mapM_cons, Option.bind_eq_bind, Option.bind_eq_some_iff, Option.pure_def, Option.some.injEq] at h
    obtain ⟨b, hb, s, hs, rfl⟩ := h
    obtain ⟨h1, h2⟩ := mapM_some hs
    refine ⟨by simp [h1], fun i x hx => ?_⟩
    cases i with
    | zero =>
      simp only [List.getElem?_cons_zero, Option.some.injEq] at hx
      subst hx
      exact ⟨b, by simp, hb⟩
    | succ i =>
      simp only [List.getElem?_cons_succ] at hx
      obtain ⟨y, h3, h4⟩ := h2 i x hx
      exact ⟨y, by simp [h3], h4⟩

theorem mapM_range {Y : Type} {f : Nat → Option Y} {n : Nat} {r : List Y} (h : (List.range n).mapM f = some r) : r.length = n ∧ ∀ i, i < n → ∃ b, r[i]? = some b ∧ f i = some b := by
  obtain ⟨h1, h2⟩ := mapM_some h
  refine ⟨by simpa using h1, fun i hi => h2 i i (by simp [hi])⟩

theorem exists_list {X : Type} : ∀ (n : Nat) (R : Nat → X → Prop), (∀ i, i < n → ∃ x, R i x) → ∃ l : List X, l.length = n ∧ ∀ i x, l[i]? = some x → R i x
  | 0, _, _ => ⟨[], rfl, fun i x h => by simp at h⟩
  | n + 1, R, h => by
    obtain ⟨x, hx⟩ := h 0 (by omega)
    obtain ⟨l, h1, h2⟩ := exists_list n (fun i x => R (i + 1) x) fun i hi => h (i + 1) (by omega)
    refine ⟨x :: l, by simp [h1], fun i y hy => ?_⟩
    cases i with
    | zero => simp only [List.getElem?_cons_zero, Option.some.injEq] at hy; subst hy; exact hx
    | succ i => exact h2 i y (by simpa using hy)

theorem exists_arr {X : Type} {E : X → List Value → Prop} {s : Nat} : ∀ (n : Nat) (cs : List Value), cs.length = n * s → (∀ i, i < n → ∃ x, E x ((cs.drop (i * s)).take s)) → ∃ x, EncArr E n x cs
  | 0, cs, hl, _ => ⟨(), by simp at hl; exact hl⟩
  | n + 1, cs, hl, h => by
    obtain ⟨x, hx⟩ := h 0 (by omega)
    simp only [Nat.zero_mul, List.drop_zero] at hx
    obtain ⟨y, hy⟩ := exists_arr (E := E) (s := s) n (cs.drop s) (by rw [List.length_drop, hl, Nat.succ_mul]; omega) fun i hi => by
      obtain ⟨z, hz⟩ := h (i + 1) (by omega)
      refine ⟨z, ?_⟩
      rw [List.drop_drop, show s + i * s = (i + 1) * s by rw [Nat.succ_mul]; omega]
      exact hz
    exact ⟨(x, y), cs.take s, cs.drop s, (List.take_append_drop s cs).symm, hx, hy⟩

theorem weightsAll_mem {H : Type} {P : Program} {e : TypeId} : ∀ {ds : List (DataW H)} {i : Nat} {d : DataW H}, ds[i]? = some d → ∀ n ∈ d.weights P e, n ∈ DataW.weightsAll P e ds
  | d0 :: ds, 0, d, hd, n, hn => by
    simp only [List.getElem?_cons_zero, Option.some.injEq] at hd
    subst hd
    simp only [DataW.weightsAll, List.mem_append]
    exact .inl hn
  | d0 :: ds, i + 1, d, hd, n, hn => by
    simp only [List.getElem?_cons_succ] at hd
    simp only [DataW.weightsAll, List.mem_append]
    exact .inr (weightsAll_mem hd n hn)

def strOf (s : ByteArray) : List (I .u8) := s.data.toList.map fun b => I.of .u8 b.toNat

theorem bytesOf_strOf (s : ByteArray) : bytesOf (strOf s) = s := by
  unfold bytesOf strOf
  cases s with | mk a =>
  congr 1
  rw [List.map_map]
  have : ((fun c : I .u8 => UInt8.ofNat c.val.toNat) ∘ fun b : UInt8 => I.of .u8 b.toNat) = id := by
    funext b
    simp only [Function.comp, id, I.of, IntKind.wrap, IntKind.bits, IntKind.signed, Bool.false_and, Bool.false_eq_true, if_false]
    have := b.toNat_lt
    rw [show ((b.toNat : Int) % 2 ^ 8) = (b.toNat : Int) by omega, Int.toNat_natCast]
    exact UInt8.ofNat_toNat
  rw [this, List.map_id, Array.toArray_toList]

section
variable {H : Type} {enc : TypeId × Value → H} {P : Program} {W : World} {base : Nat} {spare : Nat → Bool} {held : Bool}

abbrev GW (W : World) : Nat → Prop := fun r => r < W.heap.size

theorem cell_lt {a : Addr} {v : Value} (h : W.cell? a = some v) : a.spot = none ∧ a.block < W.heap.size := by
  unfold World.cell? at h
  split at h
  · rename_i c _ _ hc
    split at h
    · cases h
    · rename_i hs
      refine ⟨by simpa using hs, ?_⟩
      rw [Array.getElem?_eq_some_iff] at hc
      exact hc.1
  · cases h

theorem cells_row {base : Nat} {a : Addr} {n : Nat} {ds : List Value} (h : W.cells? base a n = some ds) : ds.length = n ∧ ∀ j d, ds[j]? = some d → W.cell? (a.add j) = some d := by
  unfold World.cells? at h
  split at h
  · obtain ⟨h1, h2⟩ := mapM_range h
    refine ⟨h1, fun j d hd => ?_⟩
    obtain ⟨b, h3, h4⟩ := h2 j (by rw [← h1]; exact (List.getElem?_eq_some_iff.1 hd).1)
    rw [h3] at hd
    rw [h4, hd]
  · cases h

theorem addr_add {a : Addr} (hs : a.spot = none) (n : Nat) : a.add n = ⟨a.block, a.off + n, none⟩ := by
  unfold Addr.add
  cases a
  simp only at hs
  subst hs
  split
  · rename_i h; subst h; rfl
  · rfl

theorem enc_of_trod : ∀ (t : Ty),
    (∀ fuel id cs (d : DataW H) (p : List MemPlace), TOk P t id → argB P t id = true → DataW.trod enc P W base spare held fuel id cs = some (d, p) → (∀ n ∈ d.weights P id, n ≤ reachBytes) → ∃ x, Enc W (GW W) t x cs) ∧
    (∀ fuel (r : List Field) (o : Nat) (cs : List Value) (xs : List (DataW H × List MemPlace)), FOk P t r o → fargB P t r = true → xs.length = r.length →
      (∀ (i : Nat) (f : Field), r[i]? = some f → DataW.trod enc P W base spare held fuel f.type ((cs.drop f.offset).take (P.cellsOf f.type)) = xs[i]?) →
      (∀ n ∈ DataW.weightsEach P (r.map (·.type)) (xs.map (·.1)), n ≤ reachBytes) → cs.length = o + t.sz → ∃ x, Enc W (GW W) t x (cs.drop o)) := by
  intro t
  have nofld : ∀ t, (∀ a b, t ≠ .cons a b) → t ≠ .nil → ∀ (r : List Field) (o : Nat), ¬ FOk P t r o := by
    intro t h1 h2 r o h
    cases t <;> first | exact h1 _ _ rfl | exact h2 rfl | (cases r <;> exact h.elim)
  induction t with
  | int k =>
    refine ⟨fun fuel id cs d p hT _ h _ => ?_, fun fuel r o cs xs h => (nofld _ (by simp) (by simp) _ _ h).elim⟩
    obtain ⟨n, hcs, _, hw⟩ := DataW.trod_int hT.2 h
    simp only [Lit.wf, Bool.and_eq_true, decide_eq_true_eq] at hw
    exact ⟨(⟨n, wrap_eq_of_range hw⟩ : I k), hcs⟩
  | bool =>
    refine ⟨fun fuel id cs d p hT _ h _ => ?_, fun fuel r o cs xs h => (nofld _ (by simp) (by simp) _ _ h).elim⟩
    obtain ⟨n, hcs, _⟩ := DataW.trod_bool hT.2 h
    exact ⟨n, hcs⟩
  | str =>
    refine ⟨fun fuel id cs d p hT _ h hw => ?_, fun fuel r o cs xs h => (nofld _ (by simp) (by simp) _ _ h).elim⟩
    obtain ⟨s, hcs, hx, _⟩ := DataW.trod_string hT.2 h
    simp only [Prod.mk.injEq] at hx
    obtain ⟨rfl, rfl⟩ := hx
    refine ⟨strOf s, ?_, ?_⟩
    · rw [bytesOf_strOf]; exact hcs
    · have := hw s.data.toList.length (by simp [DataW.weights])
      have h2 : (strOf s).length = s.data.toList.length := List.length_map _
      show (strOf s).length ≤ LIM
      rw [h2]
      simp only [reachBytes, LIM] at *
      omega
  | nil =>
    refine ⟨fun fuel id cs d p hT _ h hw => ?_, fun fuel r o cs xs h _ _ _ _ hl => ⟨(), ?_⟩⟩
    · obtain ⟨xs, n, _, _, hl, _⟩ := DataW.trod_struct hT.2 h
      rw [hT.1] at hl
      exact ⟨(), List.eq_nil_of_length_eq_zero hl⟩
    · show cs.drop o = []
      simp only [Ty.sz, Nat.add_zero] at hl
      rw [List.drop_eq_nil_iff]; omega
  | cons a b iha ihb =>
    refine ⟨fun fuel id cs d p hT hA h hw => ?_, fun fuel r o cs xs hF hA hlen hf hw hl => ?_⟩
    · obtain ⟨hsz, fs, f, r, hu, hfs, hf0, hTa, hFb⟩ := hT
      obtain ⟨xs, n, _, hx, hl, hlen, hfx⟩ := DataW.trod_struct hu h
      simp only [Prod.mk.injEq] at hx
      obtain ⟨rfl, rfl⟩ := hx
      simp only [argB, hu, hfs, Bool.and_eq_true] at hA
      have hfl : ∀ (i : Nat) (g : Field), (f :: r)[i]? = some g → DataW.trod enc P W base spare held n g.type ((cs.drop g.offset).take (P.cellsOf g.type)) = xs[i]? := by
        intro i g hg
        refine hfx i g ?_
        rw [← Array.getElem?_toList, hfs]
        exact hg
      have hlen' : xs.length = r.length + 1 := by rw [hlen, ← Array.length_toList, hfs]; rfl
      match xs, hlen' with
      | y :: ys, hlen' =>
        simp only [DataW.weights, hu, hfs, List.map_cons, DataW.weightsEach, List.mem_append] at hw
        have h0 := hfl 0 f rfl
        simp only [List.getElem?_cons_zero] at h0
        rw [hf0, hTa.size, List.drop_zero] at h0
        obtain ⟨x, hx⟩ := iha.1 n f.type _ y.1 y.2 hTa hA.1 h0 (fun m hm => hw m (.inl hm))
        obtain ⟨z, hz⟩ := ihb.2 n r a.sz cs ys hFb hA.2 (by simpa using hlen') (fun i g hg => by simpa using hfl (i + 1) g hg) (fun m hm => hw m (.inr hm)) (by rw [hl, hsz])
        exact ⟨(x, z), _, _, (List.take_append_drop a.sz cs).symm, hx, hz⟩
    · cases r with
      | nil => exact hF.elim
      | cons f r =>
        obtain ⟨hf0, hTa, hFb⟩ := hF
        simp only [fargB, Bool.and_eq_true] at hA
        match xs, hlen with
        | y :: ys, hlen =>
          simp only [List.map_cons, DataW.weightsEach, List.mem_append] at hw
          have h0 := hf 0 f rfl
          simp only [List.getElem?_cons_zero] at h0
          rw [hf0, hTa.size] at h0
          simp only [Ty.sz] at hl
          obtain ⟨x, hx⟩ := iha.1 fuel f.type _ y.1 y.2 hTa hA.1 h0 (fun m hm => hw m (.inl hm))
          obtain ⟨z, hz⟩ := ihb.2 fuel r (o + a.sz) cs ys hFb hA.2 (by simpa using hlen) (fun i g hg => by simpa using hf (i + 1) g hg) (fun m hm => hw m (.inr hm)) (by omega)
          refine ⟨(x, z), _, _, (List.take_append_drop a.sz (cs.drop o)).symm, hx, ?_⟩
          rw [List.drop_drop]
          exact hz
  | arr n t ih =>
    refine ⟨fun fuel id cs d p hT hA h hw => ?_, fun fuel r o cs xs h => (nofld _ (by simp) (by simp) _ _ h).elim⟩
    obtain ⟨hsz, e, hu, hTe⟩ := hT
    obtain ⟨xs, m, _, hx, hl, hlen, hfx⟩ := DataW.trod_array hu h
    simp only [Prod.mk.injEq] at hx
    obtain ⟨rfl, rfl⟩ := hx
    simp only [argB, hu] at hA
    simp only [DataW.weights, hu] at hw
    refine exists_arr n cs (by rw [hl, hsz]) fun i hi => ?_
    have h0 := hfx i hi
    rw [hTe.size, List.getElem?_eq_getElem (by omega)] at h0
    refine ih.1 m e _ (xs[i]'(by omega)).1 (xs[i]'(by omega)).2 hTe hA h0 fun k hk => hw k (weightsAll_mem (i := i) ?_ k hk)
    rw [List.getElem?_map, List.getElem?_eq_getElem (by omega)]; rfl
  | sl t ih =>
    refine ⟨fun fuel id cs d p hT hA h hw => ?_, fun fuel r o cs xs h => (nofld _ (by simp) (by simp) _ _ h).elim⟩
    obtain ⟨hsz, e, hu, hTe⟩ := hT
    simp only [argB, hu, Bool.and_eq_true] at hA
    obtain ⟨hA1, hA2, hA⟩ := hA
    have hA1 := Nat.le_of_ble_eq_true hA1
    have hA2 := Nat.le_of_ble_eq_true hA2
    rcases DataW.trod_slice hu h with ⟨rfl, _⟩ | ⟨a, len, cap, elems, rest, m, _, rfl, hx, _, hlc, _, hel, hfx, _, _⟩
    · refine ⟨([] : List t.D), none, 0, rfl, Nat.le_refl _, by simp, .inl rfl⟩
    · simp only [Prod.mk.injEq] at hx
      obtain ⟨rfl, rfl⟩ := hx
      simp only [DataW.weights, hu, List.mem_cons, List.mem_append] at hw
      have hb := hw _ (.inl rfl)
      have hlim : len ≤ LIM := by
        have h1 : len ≤ (elems.length + rest.length) * P.bytesOf e := by
          rw [← hel]
          refine Nat.le_trans ?_ (Nat.mul_le_mul_left _ hA2)
          omega
        simp only [List.length_map] at hb
        simp only [reachBytes, LIM] at *
        omega
      have key : ∀ i, i < len → a.spot = none ∧ a.block < W.heap.size ∧ ∃ x ds, Enc W (GW W) t x ds ∧ cellsAt W a.block (a.off + i * t.sz) ds := by
        have one : ∀ i, i < len → ∃ (ds : List Value) (x : t.D), ds.length = t.sz ∧ Enc W (GW W) t x ds ∧ ∀ j d, ds[j]? = some d → W.cell? ((a.add (i * t.sz)).add j) = some d := by
          intro i hi
          have h0 := hfx i hi
          rw [List.getElem?_eq_getElem (by omega)] at h0
          simp only [Option.bind_eq_some_iff] at h0
          obtain ⟨ds, h1, h2⟩ := h0
          obtain ⟨h3, h4⟩ := cells_row h1
          rw [hTe.size] at h3 h4
          obtain ⟨x, hx⟩ := ih.1 m e ds (elems[i]'(by omega)).1 (elems[i]'(by omega)).2 hTe hA h2 fun k hk => hw k (.inr (.inl (weightsAll_mem (i := i) (by rw [List.getElem?_map, List.getElem?_eq_getElem (by omega)]; rfl) k hk)))
          exact ⟨ds, x, h3, hx, h4⟩
        intro i hi
        obtain ⟨ds, x, h1, h2, h3⟩ := one i hi
        obtain ⟨ds0, _, g1, _, g3⟩ := one 0 (by omega)
        have c0 := g3 0 (ds0[0]'(by omega)) (List.getElem?_eq_getElem _)
        simp only [Nat.zero_mul] at c0
        have e0 : (a.add 0).add 0 = a := by simp [Addr.add]
        rw [e0] at c0
        obtain ⟨hs, hlt⟩ := cell_lt c0
        refine ⟨hs, hlt, x, ds, h2, fun j d hd => ?_⟩
        have := h3 j d hd
        rw [addr_add hs, addr_add rfl] at this
        exact this
      obtain ⟨l, hl1, hl2⟩ := exists_list len (fun i x => ∃ ds, Enc W (GW W) t x ds ∧ cellsAt W a.block (a.off + i * t.sz) ds) fun i hi => (key i hi).2.2
      refine ⟨l, some a, cap, ?_, ?_, ?_, ?_⟩
      · show [Value.slice (some a) len cap] = [Value.slice (some a) l.length cap]; rw [hl1]
      · show l.length ≤ cap; omega
      · show l.length ≤ LIM; omega
      · by_cases h0 : len = 0
        · left; show l = []; exact List.eq_nil_of_length_eq_zero (by omega)
        · obtain ⟨h1, h2, _⟩ := key 0 (by omega)
          exact .inr ⟨a, rfl, h1, h2, hl2⟩
  | opq => exact ⟨fun fuel id cs d p hT hA => by simp [argB] at hA, fun fuel r o cs xs h => (nofld _ (by simp) (by simp) _ _ h).elim⟩
end

/-- What an argument's form leaves of its cells. -/
theorem val_of_ok {P : Program} {W : World} {rr : Reach} {base : Nat} {id : TypeId} {v : Value} {t : Ty} (hT : TOk P t id) (hne : t ≠ .opq) (h : Value.okWide P W rr base id v) : v = mkV t.isAgg v.cells.toList := by
  have agg : (∃ cs, v = .agg cs) → v = mkV true v.cells.toList := by
    rintro ⟨cs, rfl⟩
    show Value.agg cs = .agg _
    congr 1
  cases t with
  | int k => obtain ⟨n, rfl⟩ := Go.WideShapes.okWide_int hT.2 h; rfl
  | bool => obtain ⟨n, rfl⟩ := Go.WideShapes.okWide_bool hT.2 h; rfl
  | str => obtain ⟨n, rfl⟩ := Go.WideShapes.okWide_string hT.2 h; rfl
  | sl t => obtain ⟨_, e, hu, _⟩ := hT; obtain ⟨a, l, c, rfl⟩ := Go.WideShapes.okWide_slice hu h; rfl
  | opq => exact (hne rfl).elim
  | nil => obtain ⟨_, hu⟩ := hT; simp only [Value.okWide, hu] at h; exact agg ⟨_, h.choose_spec.1⟩
  | cons a b => obtain ⟨_, fs, f, r, hu, _⟩ := hT; simp only [Value.okWide, hu] at h; exact agg ⟨_, h.choose_spec.1⟩
  | arr n t => obtain ⟨_, e, hu, _⟩ := hT; simp only [Value.okWide, hu] at h; exact agg ⟨_, h.choose_spec.1⟩

def Arr.all {X : Type} (p : X → Prop) : (n : Nat) → Arr X n → Prop
  | 0, _ => True
  | n + 1, x => p x.1 ∧ Arr.all p n x.2

/-- No slice and no string is longer than memory. -/
def Ty.bd : (t : Ty) → t.D → Prop
  | .str, x => (show List (I .u8) from x).length ≤ LIM
  | .cons a b, x => a.bd x.1 ∧ b.bd x.2
  | .arr n t, x => Arr.all t.bd n x
  | .sl t, x => (show List t.D from x).length ≤ LIM ∧ ∀ (i : Nat) (y : t.D), (show List t.D from x)[i]? = some y → t.bd y
  | .int _, _ => True
  | .bool, _ => True
  | .nil, _ => True
  | .opq, _ => True

theorem EncArr_all {X : Type} {E : X → List Value → Prop} {p : X → Prop} (h : ∀ x cs, E x cs → p x) : ∀ (n : Nat) (x : Arr X n) (cs : List Value), EncArr E n x cs → Arr.all p n x
  | 0, _, _, _ => trivial
  | n + 1, x, cs, he => by
    obtain ⟨c1, c2, _, h1, h2⟩ := he
    exact ⟨h _ _ h1, EncArr_all h n x.2 c2 h2⟩

theorem Enc_bd {W : World} {G : Nat → Prop} : ∀ (t : Ty) (x : t.D) (cs : List Value), Enc W G t x cs → t.bd x := by
  intro t
  induction t with
  | int k => intro x cs _; trivial
  | bool => intro x cs _; trivial
  | nil => intro x cs _; trivial
  | opq => intro x cs _; trivial
  | str => intro x cs h; exact h.2
  | cons a b iha ihb => intro x cs h; obtain ⟨c1, c2, _, h1, h2⟩ := h; exact ⟨iha _ _ h1, ihb _ _ h2⟩
  | arr n t ih => intro x cs h; exact EncArr_all (fun x cs => ih x cs) n x cs h
  | sl t ih =>
    intro x cs h
    obtain ⟨a, c, _, _, hl, hx⟩ := h
    refine ⟨hl, fun i y hy => ?_⟩
    rcases hx with hx | ⟨ad, _, _, _, hr⟩
    · rw [hx] at hy; simp at hy
    · obtain ⟨ds, h1, _⟩ := hr i y hy
      exact ih y ds h1

def bdAll : (ts : List Ty) → ShD (ts.map .pl) → Prop
  | [], _ => True
  | t :: ts, x => t.bd x.1 ∧ bdAll ts x.2

def argsB (P : Program) : List Ty → List TypeId → Bool
  | [], [] => true
  | t :: ts, id :: ids => tokB P t id && (argB P t id && (P.readableRec id && (Nat.blt id P.types.size && argsB P ts ids)))
  | _, _ => false

section
variable {H : Type} {enc : TypeId × Value → H} {P : Program} {W : World}

def cx0 (W : World) : Cx := ⟨W, GW W, fun _ => .bool false, []⟩

theorem args_val {rr : Reach} {base : Nat} : ∀ (ts : List Ty) (ids : List TypeId) (vs : List Value) (ds : List (DataW H)) (ps : List MemPlace), argsB P ts ids = true →
    DataW.TrodAll enc P W 0 (fun _ => true) true ids vs ds ps → (∀ (j : Nat) t v, ids[j]? = some t → vs[j]? = some v → Value.okWide P W rr base t v) →
    (∀ n ∈ DataW.weightsEach P ids ds, n ≤ reachBytes) → ds.length = ts.length ∧ ∃ x : ShD (ts.map .pl), bdAll ts x ∧ All2 (VOk (cx0 W)) (mkSlots (ts.map .pl) x) vs
  | [], [], vs, ds, ps, _, hA, _, _ => by
    obtain ⟨rfl, rfl, rfl⟩ := Go.ChangeShapes.trodAll_nil hA
    exact ⟨rfl, (), trivial, trivial⟩
  | [], _ :: _, _, _, _, h, _, _, _ => by cases h
  | _ :: _, [], _, _, _, h, _, _, _ => by cases h
  | t :: ts, id :: ids, vs, ds, ps, h, hA, hv, hw => by
    simp only [argsB, Bool.and_eq_true] at h
    obtain ⟨h1, h2, _, _, h5⟩ := h
    obtain ⟨v, vs', d, ds', p, q, rfl, rfl, rfl, ⟨fuel, hd⟩, hrest⟩ := Go.ChangeShapes.trodAll_cons hA
    simp only [DataW.weightsEach, List.mem_append] at hw
    have hT := (tok_both P t).1 id h1
    obtain ⟨x, hx⟩ := (enc_of_trod t).1 fuel id _ d p hT h2 hd fun n hn => hw n (.inl hn)
    obtain ⟨hl, y, hbd, hy⟩ := args_val ts ids vs' ds' q h5 hrest (fun j t v ht hv' => hv (j + 1) t v (by simpa using ht) (by simpa using hv')) fun n hn => hw n (.inr hn)
    refine ⟨by simp [hl], (x, y), ⟨Enc_bd t x _ hx, hbd⟩, ?_, hy⟩
    refine ⟨_, hx, ?_⟩
    exact val_of_ok hT (by rintro rfl; simp [argB] at h2) (hv 0 id v rfl rfl)

theorem trodAll_below (hl : laidOutB P = true) {W' : World} (hb : Go.RowKit.Below W.heap.size W W') : ∀ (ts : List Ty) (ids : List TypeId) (vs : List Value) (ds : List (DataW H)) (ps : List MemPlace), argsB P ts ids = true →
    DataW.TrodAll enc P W 0 (fun _ => true) true ids vs ds ps → (∀ x ∈ ps, x.block < W.heap.size) → DataW.TrodAll enc P W' 0 (fun b => decide (b < W.heap.size)) true ids vs ds ps
  | [], [], vs, ds, ps, _, hA, _ => by
    obtain ⟨rfl, rfl, rfl⟩ := Go.ChangeShapes.trodAll_nil hA
    exact Go.ChangeShapes.trodAll_mk0
  | [], _ :: _, _, _, _, h, _, _ => by cases h
  | _ :: _, [], _, _, _, h, _, _ => by cases h
  | t :: ts, id :: ids, vs, ds, ps, h, hA, hlt => by
    simp only [argsB, Bool.and_eq_true] at h
    obtain ⟨_, _, h3, h4, h5⟩ := h
    obtain ⟨v, vs', d, ds', p, q, rfl, rfl, rfl, hd, hrest⟩ := Go.ChangeShapes.trodAll_cons hA
    refine ⟨p, q, Go.RowKit.Below.trod hl h3 (Nat.lt_of_succ_le (Nat.le_of_ble_eq_true h4)) hd hb fun x hx => hlt x (by simp [hx]), ?_, rfl⟩
    exact trodAll_below hl hb ts ids vs' ds' q h5 hrest fun x hx => hlt x (by simp [hx])

theorem start0 : Start (cx0 W) := by
  have hu : ∀ b, blkAt (cx0 W).H b = .unborn := fun b => by simp [cx0, blkAt]
  refine ⟨fun b => ?_, fun b b' r h => ?_, fun r hr => ⟨hr, fun b h => ?_⟩⟩
  · unfold BlkOk; rw [hu]; trivial
  · rw [hu] at h; cases h
  · rw [hu] at h; cases h

theorem row_of_con {C : Checked} {f : FuncId} {fn : Func} {s : ChangeSpec} {ts : List Ty} {bt : TypeId} {F : (⟨ts.map .pl, []⟩ : Tm).D → Option (⟨[.pl .bool], []⟩ : Tm).D}
    (hl : laidOutB C.prog = true) (hfn : C.prog.funcs[f]? = some fn) (hbody : fn.body.isSome = true) (hname : (fn.name == "runtime.NumGoroutine") = false)
    (hargs : argsB C.prog ts fn.params.toList = true) (hres : fn.resultTypes = #[bt]) (hbt : C.prog.underlying bt = some .bool) (hvars : s.vars = [])
    (hs : ∀ ds : List (DataW H), ds.length = ts.length → s.fn H ds = { results := [.lit (.bool true)], args := ds })
    (hcon : ConOk C.prog f ⟨⟨ts.map .pl, []⟩, ⟨[.pl .bool], []⟩, F⟩) (hF : ∀ x, bdAll ts x → F (x, ()) = some ((true, ()), ()))
    (base : Nat) (args : Array Value) (ds gs : List (DataW H)) (before : List MemPlace)
    (hval : ∀ (j : Nat) t v, fn.params[j]? = some t → args[j]? = some v → Value.okWide C.prog W .any base t v)
    (hW : DataW.Whole enc C.prog fn.params.toList s.vars false W args.toList ds gs before)
    (hsz : (DataW.weightsEach C.prog (fn.params.toList ++ s.plain.varTypes C.prog) (ds ++ gs)).all (· ≤ reachBytes) = true) :
    Calls C.prog f args W fun e W' => ∃ v, e = .returned v ∧ s.post enc C.prog fn false true false false W args v W' := by
  have hW' := hW
  obtain ⟨p, q, hA, hV, rfl, hfz, hnd⟩ := hW
  rw [hvars] at hV
  obtain ⟨rfl, rfl⟩ := Go.ChangeShapes.trodVars_none hV
  have hvt : s.plain.varTypes C.prog = [] := by simp [DataSpec.varTypes, ChangeSpec.plain, hvars]
  rw [hvt, List.append_nil, List.append_nil, List.all_eq_true] at hsz
  obtain ⟨hlen, x, hbd, hx⟩ := args_val (P := C.prog) ts fn.params.toList args.toList ds p hargs hA
    (fun j t v h1 h2 => hval j t v (by rw [← Array.getElem?_toList]; exact h1) (by rw [← Array.getElem?_toList]; exact h2)) fun n hn => of_decide_eq_true (hsz n hn)
  have key := hcon (x, ()) ((true, ()), ()) (hF x hbd) (cx0 W) args.toList start0 rfl hx
  rw [Array.toArray_toList] at key
  obtain ⟨b, hb⟩ := Option.isSome_iff_exists.1 hbody
  have hent := run_callFunc (args := args) (w := W) hfn hb hname
  rcases key with ⟨v, w', h1, _⟩ | ⟨_, h⟩
  · change (callFunc f args).run C.prog W = _ at h1
    rw [hent] at h1
    cases h1
  · refine h.mono fun e w' hr => ?_
    obtain ⟨v, he, c', hw, hH, hv, hM⟩ := hr
    subst he hw
    refine ⟨v, rfl, ?_⟩
    have hown : ∀ r, ¬ ownOf (cx0 W) r := by
      rintro r ⟨b, hb, _⟩
      simp [cx0, blkAt, live] at hb
    have bel : Go.RowKit.Below W.heap.size W c'.w := ⟨hM.os, hM.tape, hM.output, hM.size, fun k hk => hM.frame k hk (hown k)⟩
    obtain ⟨cs, hcs, hv⟩ := hv
    have hcs : cs = [.bool true] := hcs
    subst hcs
    have hv : v = .bool true := hv
    subst hv
    have hfnH := hs ds hlen
    refine ⟨ds, [], _, [], p, [], hW', ?_, ?_, ?_, bel.frame _, fun h => by cases h⟩
    · rw [List.append_nil, hfnH, hres]
      exact Go.ChangeShapes.trodAll_mk1 (Go.RowKit.shut_bool hbt _)
    · rw [List.append_nil, hfnH]
      refine trodAll_below hl bel ts _ _ _ _ hargs hA fun x hx => ?_
      exact DataW.TrodAll.lt hA x hx
    · rw [List.append_nil, hfnH, hvars]
      rfl
end
end Sym
