/- Natural numbers by digits of 65536: what the reference's first functions compute. -/
import Derived.Test.YtdnjkjfccdcfkaaPart4
import Derived.Test.YtdnjkjfccdcfkaaPart6
import Derived.Test.YtdnjkjfccdcfkaaPart5
namespace Sym
open Go

abbrev Dg : Type := I .i64

/-- The digits' value. -/
def bv : List Dg → Nat
  | [] => 0
  | d :: l => d.nat + 65536 * bv l

def DigOk (d : Dg) : Prop := 0 ≤ d.val ∧ d.val < 65536
def Digs (l : List Dg) : Prop := ∀ d ∈ l, DigOk d

/-- No zero stands in front. -/
def Lead : List Dg → Prop
  | [] => True
  | [d] => d.val ≠ 0
  | _ :: e :: l => Lead (e :: l)

/-- l is the number n. -/
structure IsB (l : List Dg) (n : Nat) : Prop where
  dig : Digs l
  lead : Lead l
  val : bv l = n

theorem DigOk.nat {d : Dg} (h : DigOk d) : (d.nat : Int) = d.val ∧ d.nat < 65536 := by
  unfold DigOk at h
  unfold I.nat
  omega

theorem digs_cons {d : Dg} {l : List Dg} : Digs (d :: l) ↔ DigOk d ∧ Digs l := by
  unfold Digs
  simp
theorem digs_app {l r : List Dg} : Digs (l ++ r) ↔ Digs l ∧ Digs r := by
  unfold Digs
  simp only [List.mem_append]
  exact ⟨fun h => ⟨fun d hd => h d (.inl hd), fun d hd => h d (.inr hd)⟩, fun h d hd => hd.elim (h.1 d) (h.2 d)⟩
theorem digs_take {l : List Dg} (h : Digs l) (n : Nat) : Digs (l.take n) := fun d hd => h d (List.mem_of_mem_take hd)
theorem digs_drop {l : List Dg} (h : Digs l) (n : Nat) : Digs (l.drop n) := fun d hd => h d (List.mem_of_mem_drop hd)

theorem bv_lt : ∀ {l : List Dg}, Digs l → bv l < 65536 ^ l.length
  | [], _ => by simp [bv]
  | d :: l, h => by
    have h := digs_cons.1 h
    have h1 := h.1.nat.2
    have h2 := bv_lt h.2
    simp only [bv, List.length_cons, Nat.pow_succ]
    omega

theorem lead_cons {d : Dg} {l : List Dg} (h : Lead (d :: l)) : Lead l := by
  cases l with
  | nil => trivial
  | cons e l => exact h

theorem bv_pos : ∀ {l : List Dg}, Digs l → Lead l → l ≠ [] → 0 < bv l
  | [], _, _, h => absurd rfl h
  | [d], hd, hl, _ => by
    have h := (digs_cons.1 hd).1.nat.1
    have : d.val ≠ 0 := hl
    simp only [bv]
    omega
  | d :: e :: l, hd, hl, _ => by
    have := bv_pos (l := e :: l) (digs_cons.1 hd).2 hl (by simp)
    simp only [bv] at *
    omega

theorem isB_nil : IsB [] 0 := ⟨fun _ h => by simp at h, trivial, rfl⟩

theorem dig_ext {d e : Dg} (hd : DigOk d) (he : DigOk e) (h : d.nat = e.nat) : d = e := by
  apply I.ext'
  have := hd.nat.1
  have := he.nat.1
  omega

/-- A number has one list. -/
theorem IsB.unique : ∀ {l r : List Dg} {n : Nat}, IsB l n → IsB r n → l = r
  | [], [], _, _, _ => rfl
  | [], e :: r, n, h1, h2 => by
    have := bv_pos h2.dig h2.lead (by simp)
    have h3 := h1.val
    have h4 := h2.val
    simp only [bv] at h3 h4 this
    omega
  | d :: l, [], n, h1, h2 => by
    have := bv_pos h1.dig h1.lead (by simp)
    have h3 := h1.val
    have h4 := h2.val
    simp only [bv] at h3 h4 this
    omega
  | d :: l, e :: r, n, h1, h2 => by
    have d1 := digs_cons.1 h1.dig
    have d2 := digs_cons.1 h2.dig
    have h3 := h1.val
    have h4 := h2.val
    simp only [bv] at h3 h4
    have := d1.1.nat.2
    have := d2.1.nat.2
    rw [dig_ext d1.1 d2.1 (by omega), IsB.unique (n := bv l) ⟨d1.2, lead_cons h1.lead, rfl⟩ ⟨d2.2, lead_cons h2.lead, by omega⟩]

theorem bv_app : ∀ (l r : List Dg), bv (l ++ r) = bv l + 65536 ^ l.length * bv r
  | [], r => by simp [bv]
  | d :: l, r => by
    simp only [List.cons_append, bv, List.length_cons, bv_app l r, Nat.pow_succ, Nat.mul_add]
    rw [Nat.mul_comm (65536 ^ l.length) 65536, Nat.mul_assoc]
    omega

theorem lead_snoc : ∀ (l : List Dg) (d : Dg), d.val ≠ 0 → Lead (l ++ [d])
  | [], d, h => h
  | [e], d, h => h
  | e :: f :: l, d, h => lead_snoc (f :: l) d h

theorem bv_ge : ∀ {l : List Dg}, Digs l → Lead l → l ≠ [] → 65536 ^ (l.length - 1) ≤ bv l
  | [], _, _, h => absurd rfl h
  | [d], hd, hl, _ => by
    have h := (digs_cons.1 hd).1.nat.1
    have : d.val ≠ 0 := hl
    simp only [bv, List.length_singleton, Nat.sub_self, Nat.pow_zero]
    omega
  | d :: e :: l, hd, hl, _ => by
    have := bv_ge (l := e :: l) (digs_cons.1 hd).2 hl (by simp)
    simp only [List.length_cons, Nat.add_sub_cancel] at this ⊢
    simp only [bv, Nat.pow_succ] at *
    omega

theorem IsB.len {l : List Dg} {n k : Nat} (h : IsB l n) : l.length ≤ k ↔ n < 65536 ^ k := by
  have h1 := bv_lt h.dig
  rw [h.val] at h1
  constructor
  · intro hk
    exact Nat.lt_of_lt_of_le h1 (Nat.pow_le_pow_right (by decide) hk)
  · intro hn
    rcases Nat.lt_or_ge k l.length with hk | hk
    · have h2 := bv_ge h.dig h.lead (by intro e; subst e; simp at hk)
      rw [h.val] at h2
      have h3 : 65536 ^ k ≤ 65536 ^ (l.length - 1) := Nat.pow_le_pow_right (by decide) (by omega)
      omega
    · exact hk

theorem K0_ge (n : Nat) (h : n < 2 ^ 64) : n < K0 := by rw [K0_eq]; exact h

/-- A list of digits without the zeros in front. -/
theorem norm_ok (l : List Dg) (hd : Digs l) (hl : l.length ≤ 1073741824) : ∃ r, pontageref1_norm ((l, ()), ()) = some ((r, ()), ()) ∧ IsB r (bv l) := by
  have key : Wp (fun o => ∃ r, o = some ((r, ()), ()) ∧ IsB r (bv l)) (pontageref1_norm ((l, ()), ())) := by
    have hlen : (I.ofNat .i64 (lenL l)).val = l.length := ofNat_i64 (by show l.length < _; omega)
    have c1 : (I.of .i64 1).val = 1 := rfl
    have c0 : (I.of .i64 0).val = 0 := rfl
    unfold pontageref1_norm
    refine Wp.iter (fun x => x.1.1 = l ∧ 0 ≤ x.1.2.1.val ∧ x.1.2.1.val ≤ (l.length : Int) ∧ bv (l.take x.1.2.1.val.toNat) = bv l) (fun x => x.1.2.1.val.toNat) ?_ ?_ ?_
    · rintro ⟨⟨l', i, ⟨⟩⟩, ⟨⟩⟩ ⟨e1, hi0, hi1, hb⟩
      simp only at e1 hi0 hi1 hb
      subst e1
      have cut : inB' i (lenL l') = true := by
        show (decide (0 ≤ i.val) && decide (i.val ≤ ((l'.length : Nat) : Int))) = true
        simp [hi0, hi1]
      have sub : subL l' 0 (I.nat i) = l'.take i.val.toNat := by simp [subL, I.nat]
      refine Wp.brn (fun h => ?_) (fun h => ?_)
      · have h := iff_ltb.1 h
        simp only [c0] at h
        have hs : (I.sub i (I.of .i64 1)).val = i.val - 1 := by rw [sub_i64 (by omega)]; omega
        have hidx : (I.nat (I.sub i (I.of .i64 1))) = i.val.toNat - 1 := by unfold I.nat; omega
        have hlt : i.val.toNat - 1 < l'.length := by omega
        have hrd : rdL (I.of .i64 0) l' (I.nat (I.sub i (I.of .i64 1))) = l'[i.val.toNat - 1] := by rw [hidx]; exact rdL_eq _ _ _ hlt
        have htk : l'.take i.val.toNat = l'.take (i.val.toNat - 1) ++ [l'[i.val.toNat - 1]] := by
          rw [List.take_append_getElem hlt]
          congr 1
          omega
        refine Wp.brnT (iff_inB.2 ⟨by show 0 ≤ (I.sub i (I.of .i64 1)).val; omega, by show (I.sub i (I.of .i64 1)).val < (l'.length : Int); omega⟩) ?_
        refine Wp.brn (fun h2 => ?_) (fun h2 => ?_)
        · have h2 := iff_eqb.1 h2
          simp only [hrd] at h2
          refine Wp.again ⟨rfl, ?_, ?_, ?_⟩ ?_
          · show 0 ≤ (I.sub i (I.of .i64 1)).val; omega
          · show (I.sub i (I.of .i64 1)).val ≤ _; omega
          · show bv (l'.take (I.sub i (I.of .i64 1)).val.toNat) = _
            have e : (I.sub i (I.of .i64 1)).val.toNat = i.val.toNat - 1 := by omega
            rw [e, ← hb, htk, bv_app]
            have hz : (l'[i.val.toNat - 1]).nat = 0 := by unfold I.nat; rw [h2]; rfl
            simp [bv, hz]
          · show (I.sub i (I.of .i64 1)).val.toNat < _
            simp only; omega
        · have h2 := niff_eqb.1 h2
          simp only [hrd] at h2
          refine Wp.done (Wp.brnT cut ⟨_, rfl, ?_⟩)
          show IsB (subL l' 0 (I.nat i)) _
          rw [sub]
          refine ⟨digs_take hd _, ?_, hb⟩
          rw [htk]
          exact lead_snoc _ _ h2
      · have h := niff_ltb.1 h
        simp only [c0] at h
        refine Wp.done (Wp.brnT cut ⟨_, rfl, ?_⟩)
        show IsB (subL l' 0 (I.nat i)) _
        rw [sub]
        have e : i.val.toNat = 0 := by omega
        rw [e] at hb ⊢
        simp only [List.take_zero] at hb ⊢
        rw [← hb]
        exact isB_nil
    · refine ⟨rfl, ?_, ?_, ?_⟩
      · show 0 ≤ (I.ofNat .i64 (lenL l)).val; omega
      · show (I.ofNat .i64 (lenL l)).val ≤ _; omega
      · show bv (l.take (I.ofNat .i64 (lenL l)).val.toNat) = _
        rw [hlen, Int.toNat_natCast, List.take_length]
    · refine K0_ge _ ?_
      show (I.ofNat .i64 (lenL l)).val.toNat < _
      omega
  exact key.out
end Sym

/- Natural numbers by digits of 65536: from and to 256 bits, comparison. -/
namespace Sym
open Go

theorem and_mask (k : IntKind) (hk : k.bits = 64) (x : I k) (h : 0 ≤ x.val) (hx : x.val < 18446744073709551616) : ((BitVec.ofInt k.bits x.val &&& BitVec.ofInt k.bits 65535).toNat : Int) = x.val % 65536 := by
  rw [hk, BitVec.toNat_and]
  have h1 : (BitVec.ofInt 64 65535).toNat = 2 ^ 16 - 1 := rfl
  rw [h1, Nat.and_two_pow_sub_one_eq_mod, BitVec.toNat_ofInt]
  omega

theorem and_u64 (x : I .u64) : (I.and x (I.of .u64 65535)).val = x.val % 65536 := by
  have h := u64_range x
  have := and_mask .u64 rfl x h.1 h.2
  have e : (I.of .u64 65535).val = 65535 := rfl
  show (I.of .u64 _).val = _
  rw [e, this]
  exact of_u64 ⟨by omega, by omega⟩

theorem and_i64 (x : I .i64) (h : 0 ≤ x.val) : (I.and x (I.of .i64 65535)).val = x.val % 65536 := by
  have h2 := i64_range x
  have := and_mask .i64 rfl x h (by omega)
  have e : (I.of .i64 65535).val = 65535 := rfl
  show (I.of .i64 _).val = _
  rw [e, this]
  exact of_i64 ⟨by omega, by omega⟩

theorem fdiv_pos (a : Int) (n : Nat) (h : 0 ≤ a) : a.fdiv ((2 : Int) ^ n) = a / (2 : Int) ^ n := by
  have h2 : (0 : Int) ≤ (2 : Int) ^ n := Int.le_of_lt (Int.pow_pos (by decide))
  rw [Int.fdiv_eq_ediv_of_nonneg _ h2]

theorem shr_u64 (x s : I .u64) (hs : s.val < 64) : (I.shr x s).val = x.val / (2 : Int) ^ s.val.toNat := by
  have hx := u64_range x
  have h0 := u64_range s
  have hm : min s.val.toNat IntKind.u64.bits = s.val.toNat := by
    have : IntKind.u64.bits = 64 := rfl
    omega
  unfold I.shr
  rw [hm, fdiv_pos _ _ hx.1]
  have h2 : (0 : Int) < (2 : Int) ^ s.val.toNat := Int.pow_pos (by decide)
  have h3 : 0 ≤ x.val / (2 : Int) ^ s.val.toNat := Int.ediv_nonneg hx.1 (by omega)
  have h4 : x.val / (2 : Int) ^ s.val.toNat ≤ x.val := Int.ediv_le_self _ hx.1
  exact of_u64 ⟨by omega, by omega⟩

theorem shr_i64_16 (x : I .i64) (h : 0 ≤ x.val) : (I.shr x (I.of .u64 16)).val = x.val / 65536 := by
  have hx := i64_range x
  have hm : min (I.of .u64 16).val.toNat IntKind.i64.bits = 16 := rfl
  unfold I.shr
  rw [hm, fdiv_pos _ _ h]
  have e : (2 : Int) ^ 16 = 65536 := by decide
  rw [e]
  exact of_i64 ⟨by omega, by omega⟩

/-- The j-th digit of 256 bits. -/
def digF (a : U) (j : Nat) : Dg := I.conv .i64 (I.and (I.shr (Arr.sel (I.of .u64 0) 4 a (j / 4)) (I.of .u64 (16 * (j % 4) : Nat))) (I.of .u64 65535))

theorem digF_nat (a : U) (j : Nat) : (digF a j).val = (Arr.sel (I.of .u64 0) 4 a (j / 4)).val / (2 : Int) ^ (16 * (j % 4)) % 65536 := by
  have h1 : (I.of .u64 (16 * (j % 4) : Nat)).val = (16 * (j % 4) : Nat) := of_u64 ⟨by omega, by omega⟩
  have h2 := shr_u64 (Arr.sel (I.of .u64 0) 4 a (j / 4)) (I.of .u64 (16 * (j % 4) : Nat)) (by omega)
  rw [h1, Int.toNat_natCast] at h2
  unfold digF
  show (I.of .i64 _).val = _
  rw [and_u64, h2]
  exact of_i64 ⟨by omega, by omega⟩

theorem digF_ok (a : U) (j : Nat) : DigOk (digF a j) := by
  unfold DigOk
  rw [digF_nat]
  omega

theorem limb (x : I .u64) (d0 d1 d2 d3 : Nat) (h0 : (d0 : Int) = x.val / (2 : Int) ^ 0 % 65536) (h1 : (d1 : Int) = x.val / (2 : Int) ^ 16 % 65536) (h2 : (d2 : Int) = x.val / (2 : Int) ^ 32 % 65536) (h3 : (d3 : Int) = x.val / (2 : Int) ^ 48 % 65536) :
    x.nat = d0 + 65536 * d1 + 4294967296 * d2 + 281474976710656 * d3 := by
  have p0 : (2 : Int) ^ 0 = 1 := by decide
  have p1 : (2 : Int) ^ 16 = 65536 := by decide
  have p2 : (2 : Int) ^ 32 = 4294967296 := by decide
  have p3 : (2 : Int) ^ 48 = 281474976710656 := by decide
  rw [p0] at h0
  rw [p1] at h1
  rw [p2] at h2
  rw [p3] at h3
  have hx := u64_range x
  have hn := nat_val x
  omega

theorem comb (a0 a1 a2 a3 d0 d1 d2 d3 d4 d5 d6 d7 d8 d9 d10 d11 d12 d13 d14 d15 : Nat) (v0 : a0 = d0 + 65536 * d1 + 4294967296 * d2 + 281474976710656 * d3) (v1 : a1 = d4 + 65536 * d5 + 4294967296 * d6 + 281474976710656 * d7)
    (v2 : a2 = d8 + 65536 * d9 + 4294967296 * d10 + 281474976710656 * d11) (v3 : a3 = d12 + 65536 * d13 + 4294967296 * d14 + 281474976710656 * d15) :
    d0 + 65536 * (d1 + 65536 * (d2 + 65536 * (d3 + 65536 * (d4 + 65536 * (d5 + 65536 * (d6 + 65536 * (d7 + 65536 * (d8 + 65536 * (d9 + 65536 * (d10 + 65536 * (d11 + 65536 * (d12 + 65536 * (d13 + 65536 * (d14 + 65536 * (d15 + 65536 * 0))))))))))))))) =
      a0 + 18446744073709551616 * (a1 + 18446744073709551616 * (a2 + 18446744073709551616 * a3)) := by
  subst v0 v1 v2 v3
  omega

theorem digs_of_U (a : U) : bv ((List.range 16).map (digF a)) = a.val := by
  obtain ⟨a0, a1, a2, a3, ⟨⟩⟩ := a
  have n : ∀ j, ((digF (a0, a1, a2, a3, ()) j).nat : Int) = (Arr.sel (I.of .u64 0) 4 (a0, a1, a2, a3, ()) (j / 4)).val / (2 : Int) ^ (16 * (j % 4)) % 65536 := fun j => (digF_ok _ j).nat.1.trans (digF_nat _ j)
  exact comb _ _ _ _ _ _ _ _ _ _ _ _ _ _ _ _ _ _ _ _ (limb a0 _ _ _ _ (n 0) (n 1) (n 2) (n 3)) (limb a1 _ _ _ _ (n 4) (n 5) (n 6) (n 7)) (limb a2 _ _ _ _ (n 8) (n 9) (n 10) (n 11)) (limb a3 _ _ _ _ (n 12) (n 13) (n 14) (n 15))

theorem FromUint256_ok (a : U) : ∃ r, pontageref1_FromUint256 ((a, ()), ()) = some ((r, ()), ()) ∧ IsB r a.val := by
  have key : Wp (fun o => ∃ r, o = some ((r, ()), ()) ∧ IsB r a.val) (pontageref1_FromUint256 ((a, ()), ())) := by
    have c16 : (I.of .i64 16).val = 16 := rfl
    have c4 : (I.of .i64 4).val = 4 := rfl
    have c1 : (I.of .i64 1).val = 1 := rfl
    unfold pontageref1_FromUint256
    refine Wp.iter (fun x => 0 ≤ x.1.1.val ∧ x.1.1.val ≤ 16 ∧ x.2.1 = a ∧ x.2.2.1 = (List.range x.1.1.val.toNat).map (digF a) ++ List.replicate (16 - x.1.1.val.toNat) (I.of .i64 0)) (fun x => (16 - x.1.1.val).toNat) ?_ ?_ ?_
    · rintro ⟨⟨i, ⟨⟩⟩, a', out, ⟨⟩⟩ ⟨hi0, hi1, e1, e2⟩
      simp only at hi0 hi1 e1 e2
      subst e1
      refine Wp.brn (fun h => ?_) (fun h => ?_)
      · have h := iff_ltb.1 h
        simp only [c16] at h
        have hq : (I.quo i (I.of .i64 4)).val = i.val / 4 := quo_i64 hi0 (by decide)
        have hr : (I.rem i (I.of .i64 4)).val = i.val % 4 := rem_i64 hi0 (by decide)
        have hlen : out.length = 16 := by rw [e2]; simp; omega
        have hs : (I.add i (I.of .i64 1)).val = i.val + 1 := by rw [add_i64 (by omega)]; omega
        have hm : (I.mul (I.of .i64 16) (I.rem i (I.of .i64 4))).val = 16 * (i.val % 4) := by rw [mul_i64 (by rw [c16, hr]; omega), hr, c16]
        refine Wp.brnT (iff_inB.2 ⟨by show 0 ≤ (I.quo i (I.of .i64 4)).val; omega, by show (I.quo i (I.of .i64 4)).val < ((4 : Nat) : Int); omega⟩) ?_
        refine Wp.brnT (nn_u64 _) ?_
        refine Wp.brnT (iff_inB.2 ⟨hi0, by show i.val < ((out.length : Nat) : Int); omega⟩) ?_
        refine Wp.again ⟨?_, ?_, rfl, ?_⟩ ?_
        · show 0 ≤ (I.add i (I.of .i64 1)).val; omega
        · show (I.add i (I.of .i64 1)).val ≤ 16; omega
        · have ed : I.conv .i64 (I.and (I.shr (Arr.sel (I.of .u64 0) 4 a' (I.nat (I.quo i (I.of .i64 4)))) (I.conv .u64 (I.mul (I.of .i64 16) (I.rem i (I.of .i64 4))))) (I.of .u64 65535)) = digF a' i.val.toNat := by
            unfold digF
            have e1 : I.nat (I.quo i (I.of .i64 4)) = i.val.toNat / 4 := by unfold I.nat; omega
            have e2 : I.conv .u64 (I.mul (I.of .i64 16) (I.rem i (I.of .i64 4))) = I.of .u64 (16 * (i.val.toNat % 4) : Nat) := by
              show I.of .u64 _ = _
              rw [hm]
              congr 1
              omega
            rw [e1, e2]
          show setAt out (I.nat i) _ = (List.range (I.add i (I.of .i64 1)).val.toNat).map (digF a') ++ List.replicate (16 - (I.add i (I.of .i64 1)).val.toNat) (I.of .i64 0)
          have e3 : (I.add i (I.of .i64 1)).val.toNat = i.val.toNat + 1 := by omega
          have e4 : I.nat i = ((List.range i.val.toNat).map (digF a')).length := by simp [I.nat]
          have e5 : 16 - i.val.toNat = (16 - (i.val.toNat + 1)) + 1 := by omega
          rw [setAt_eq, e2, e3, e4, List.set_append_right _ _ (Nat.le_refl _), Nat.sub_self, e5, List.replicate_succ, List.set_cons_zero, List.range_succ, List.map_append, List.map_cons, List.map_nil, List.append_assoc]
          show _ ++ _ = _ ++ ([_] ++ _)
          rw [← ed]
          rfl
        · show (16 - (I.add i (I.of .i64 1)).val).toNat < _
          simp only; omega
      · have h := niff_ltb.1 h
        simp only [c16] at h
        have hi : i.val.toNat = 16 := by omega
        rw [hi] at e2
        simp only [Nat.sub_self, List.replicate_zero, List.append_nil] at e2
        subst e2
        have hd : Digs ((List.range 16).map (digF a')) := by
          intro d hd
          rw [List.mem_map] at hd
          obtain ⟨j, _, rfl⟩ := hd
          exact digF_ok a' j
        obtain ⟨r, hr, hB⟩ := norm_ok _ hd (by simp)
        exact Wp.done (Wp.optF hr ⟨r, rfl, hB.dig, hB.lead, hB.val.trans (digs_of_U a')⟩)
    · exact ⟨by show 0 ≤ (I.of .i64 0).val; decide, by show (I.of .i64 0).val ≤ 16; decide, rfl, rfl⟩
    · exact K0_ge _ (by show (16 - (I.of .i64 0).val).toNat < _; decide)
  exact key.out
end Sym

/- Natural numbers by digits of 65536: to 256 bits, comparison. -/
namespace Sym
open Go

theorem shl_u64 (x s : I .u64) (hs : s.val < 64) (h : x.val * (2 : Int) ^ s.val.toNat < 18446744073709551616) : (I.shl x s).val = x.val * (2 : Int) ^ s.val.toNat := by
  have hx := u64_range x
  have h0 := u64_range s
  have hm : min s.val.toNat IntKind.u64.bits = s.val.toNat := by
    have : IntKind.u64.bits = 64 := rfl
    omega
  have h2 : (0 : Int) ≤ (2 : Int) ^ s.val.toNat := Int.le_of_lt (Int.pow_pos (by decide))
  unfold I.shl
  rw [hm]
  exact of_u64 ⟨Int.mul_nonneg hx.1 h2, h⟩

theorem add_shl (x : I .u64) (d r S : Nat) (hd : d < 65536) (hr : r < 4) (hS : (S : Int) = (2 : Int) ^ (16 * r)) (hx : x.nat < S) (hl : S ≤ 281474976710656) : (I.add x (I.shl (I.of .u64 d) (I.of .u64 (16 * r : Nat)))).nat = x.nat + S * d := by
  have h1 : (I.of .u64 (16 * r : Nat)).val = (16 * r : Nat) := of_u64 ⟨by omega, by omega⟩
  have h2 : (I.of .u64 (d : Int)).val = d := of_u64 ⟨by omega, by omega⟩
  have hv := nat_val x
  have hdS : (d : Int) * S = ((S * d : Nat) : Int) := by rw [Nat.mul_comm, Int.natCast_mul]
  have hle : S * d ≤ 281474976710656 * 65535 := Nat.mul_le_mul hl (by omega)
  have h3 : (I.shl (I.of .u64 d) (I.of .u64 (16 * r : Nat))).val = ((S * d : Nat) : Int) := by
    rw [shl_u64 _ _ (by omega) (by rw [h1, h2, Int.toNat_natCast, ← hS, hdS]; omega), h1, h2, Int.toNat_natCast, ← hS, hdS]
  have h4 := add_u64 (a := x) (b := I.shl (I.of .u64 d) (I.of .u64 (16 * r : Nat))) (by rw [h3]; omega)
  rw [h3] at h4
  have h5 := nat_val (I.add x (I.shl (I.of .u64 d) (I.of .u64 (16 * r : Nat))))
  omega

theorem toU_step (u : U) (d : Nat) (j : Nat) (hj : j < 16) (hu : u.val < 65536 ^ j) (hd : d < 65536) :
    U.val (Arr.upd 4 u (j / 4) (I.add (Arr.sel (I.of .u64 0) 4 u (j / 4)) (I.shl (I.of .u64 d) (I.of .u64 (16 * (j % 4) : Nat))))) = u.val + 65536 ^ j * d := by
  obtain ⟨u0, u1, u2, u3, ⟨⟩⟩ := u
  have n0 := nat_lt u0
  have n1 := nat_lt u1
  have n2 := nat_lt u2
  have n3 := nat_lt u3
  unfold U.val at hu
  simp only at hu
  have hc : j = 0 ∨ j = 1 ∨ j = 2 ∨ j = 3 ∨ j = 4 ∨ j = 5 ∨ j = 6 ∨ j = 7 ∨ j = 8 ∨ j = 9 ∨ j = 10 ∨ j = 11 ∨ j = 12 ∨ j = 13 ∨ j = 14 ∨ j = 15 := by omega
  rcases hc with rfl | rfl | rfl | rfl | rfl | rfl | rfl | rfl | rfl | rfl | rfl | rfl | rfl | rfl | rfl | rfl
  · have p : 65536 ^ 0 = 1 := by decide
    rw [p] at hu ⊢
    have k := add_shl u0 d 0 1 hd (by decide) (by decide) (by omega) (by decide)
    show U.val ((I.add u0 (I.shl (I.of .u64 d) (I.of .u64 (16 * 0 : Nat)))), u1, u2, u3, ()) = _
    unfold U.val
    simp only
    omega
  · have p : 65536 ^ 1 = 65536 := by decide
    rw [p] at hu ⊢
    have k := add_shl u0 d 1 65536 hd (by decide) (by decide) (by omega) (by decide)
    show U.val ((I.add u0 (I.shl (I.of .u64 d) (I.of .u64 (16 * 1 : Nat)))), u1, u2, u3, ()) = _
    unfold U.val
    simp only
    omega
  · have p : 65536 ^ 2 = 4294967296 := by decide
    rw [p] at hu ⊢
    have k := add_shl u0 d 2 4294967296 hd (by decide) (by decide) (by omega) (by decide)
    show U.val ((I.add u0 (I.shl (I.of .u64 d) (I.of .u64 (16 * 2 : Nat)))), u1, u2, u3, ()) = _
    unfold U.val
    simp only
    omega
  · have p : 65536 ^ 3 = 281474976710656 := by decide
    rw [p] at hu ⊢
    have k := add_shl u0 d 3 281474976710656 hd (by decide) (by decide) (by omega) (by decide)
    show U.val ((I.add u0 (I.shl (I.of .u64 d) (I.of .u64 (16 * 3 : Nat)))), u1, u2, u3, ()) = _
    unfold U.val
    simp only
    omega
  · have p : 65536 ^ 4 = 18446744073709551616 := by decide
    rw [p] at hu ⊢
    have k := add_shl u1 d 0 1 hd (by decide) (by decide) (by omega) (by decide)
    show U.val (u0, (I.add u1 (I.shl (I.of .u64 d) (I.of .u64 (16 * 0 : Nat)))), u2, u3, ()) = _
    unfold U.val
    simp only
    omega
  · have p : 65536 ^ 5 = 1208925819614629174706176 := by decide
    rw [p] at hu ⊢
    have k := add_shl u1 d 1 65536 hd (by decide) (by decide) (by omega) (by decide)
    show U.val (u0, (I.add u1 (I.shl (I.of .u64 d) (I.of .u64 (16 * 1 : Nat)))), u2, u3, ()) = _
    unfold U.val
    simp only
    omega
  · have p : 65536 ^ 6 = 79228162514264337593543950336 := by decide
    rw [p] at hu ⊢
    have k := add_shl u1 d 2 4294967296 hd (by decide) (by decide) (by omega) (by decide)
    show U.val (u0, (I.add u1 (I.shl (I.of .u64 d) (I.of .u64 (16 * 2 : Nat)))), u2, u3, ()) = _
    unfold U.val
    simp only
    omega
  · have p : 65536 ^ 7 = 5192296858534827628530496329220096 := by decide
    rw [p] at hu ⊢
    have k := add_shl u1 d 3 281474976710656 hd (by decide) (by decide) (by omega) (by decide)
    show U.val (u0, (I.add u1 (I.shl (I.of .u64 d) (I.of .u64 (16 * 3 : Nat)))), u2, u3, ()) = _
    unfold U.val
    simp only
    omega
  · have p : 65536 ^ 8 = 340282366920938463463374607431768211456 := by decide
    rw [p] at hu ⊢
    have k := add_shl u2 d 0 1 hd (by decide) (by decide) (by omega) (by decide)
    show U.val (u0, u1, (I.add u2 (I.shl (I.of .u64 d) (I.of .u64 (16 * 0 : Nat)))), u3, ()) = _
    unfold U.val
    simp only
    omega
  · have p : 65536 ^ 9 = 22300745198530623141535718272648361505980416 := by decide
    rw [p] at hu ⊢
    have k := add_shl u2 d 1 65536 hd (by decide) (by decide) (by omega) (by decide)
    show U.val (u0, u1, (I.add u2 (I.shl (I.of .u64 d) (I.of .u64 (16 * 1 : Nat)))), u3, ()) = _
    unfold U.val
    simp only
    omega
  · have p : 65536 ^ 10 = 1461501637330902918203684832716283019655932542976 := by decide
    rw [p] at hu ⊢
    have k := add_shl u2 d 2 4294967296 hd (by decide) (by decide) (by omega) (by decide)
    show U.val (u0, u1, (I.add u2 (I.shl (I.of .u64 d) (I.of .u64 (16 * 2 : Nat)))), u3, ()) = _
    unfold U.val
    simp only
    omega
  · have p : 65536 ^ 11 = 95780971304118053647396689196894323976171195136475136 := by decide
    rw [p] at hu ⊢
    have k := add_shl u2 d 3 281474976710656 hd (by decide) (by decide) (by omega) (by decide)
    show U.val (u0, u1, (I.add u2 (I.shl (I.of .u64 d) (I.of .u64 (16 * 3 : Nat)))), u3, ()) = _
    unfold U.val
    simp only
    omega
  · have p : 65536 ^ 12 = 6277101735386680763835789423207666416102355444464034512896 := by decide
    rw [p] at hu ⊢
    have k := add_shl u3 d 0 1 hd (by decide) (by decide) (by omega) (by decide)
    show U.val (u0, u1, u2, (I.add u3 (I.shl (I.of .u64 d) (I.of .u64 (16 * 0 : Nat)))), ()) = _
    unfold U.val
    simp only
    omega
  · have p : 65536 ^ 13 = 411376139330301510538742295639337626245683966408394965837152256 := by decide
    rw [p] at hu ⊢
    have k := add_shl u3 d 1 65536 hd (by decide) (by decide) (by omega) (by decide)
    show U.val (u0, u1, u2, (I.add u3 (I.shl (I.of .u64 d) (I.of .u64 (16 * 1 : Nat)))), ()) = _
    unfold U.val
    simp only
    omega
  · have p : 65536 ^ 14 = 26959946667150639794667015087019630673637144422540572481103610249216 := by decide
    rw [p] at hu ⊢
    have k := add_shl u3 d 2 4294967296 hd (by decide) (by decide) (by omega) (by decide)
    show U.val (u0, u1, u2, (I.add u3 (I.shl (I.of .u64 d) (I.of .u64 (16 * 2 : Nat)))), ()) = _
    unfold U.val
    simp only
    omega
  · have p : 65536 ^ 15 = 1766847064778384329583297500742918515827483896875618958121606201292619776 := by decide
    rw [p] at hu ⊢
    have k := add_shl u3 d 3 281474976710656 hd (by decide) (by decide) (by omega) (by decide)
    show U.val (u0, u1, u2, (I.add u3 (I.shl (I.of .u64 d) (I.of .u64 (16 * 3 : Nat)))), ()) = _
    unfold U.val
    simp only
    omega

theorem bv_take_succ {l : List Dg} {i : Nat} (h : i < l.length) : bv (l.take (i + 1)) = bv (l.take i) + 65536 ^ i * (l[i]).nat := by
  rw [← List.take_append_getElem h, bv_app]
  have e : (l.take i).length = i := by simp; omega
  simp [bv, e]

theorem ToUint256_ok {l : List Dg} {n : Nat} (hl : IsB l n) (hn : n < U.top) : pontageref1_ToUint256 ((l, ()), ()) = some ((U.of n, ()), ()) := by
  have ht : U.top = 65536 ^ 16 := by decide
  have hlen : l.length ≤ 16 := hl.len.2 (by rw [← ht]; exact hn)
  have c16 : (I.of .i64 16).val = 16 := rfl
  have c4 : (I.of .i64 4).val = 4 := rfl
  have c1 : (I.of .i64 1).val = 1 := rfl
  have hol : (I.ofNat .i64 (lenL l)).val = l.length := ofNat_i64 (by show l.length < _; omega)
  have key : Wp (fun o => o = some ((U.of n, ()), ())) (pontageref1_ToUint256 ((l, ()), ())) := by
    unfold pontageref1_ToUint256
    refine Wp.iter (fun x => x.1.1 = l ∧ 0 ≤ x.1.2.1.val ∧ x.1.2.1.val ≤ (l.length : Int) ∧ U.val x.2.2.1 = bv (l.take x.1.2.1.val.toNat)) (fun x => ((l.length : Int) - x.1.2.1.val).toNat) ?_ ?_ ?_
    · rintro ⟨⟨l', i, ⟨⟩⟩, r0, u, ⟨⟩⟩ ⟨e1, hi0, hi1, hu⟩
      simp only at e1 hi0 hi1 hu
      subst e1
      have fin : i.val.toNat = l'.length → u = U.of n := by
        intro e
        rw [e, List.take_length, hl.val] at hu
        rw [← hu]
        exact (U.of_val u).symm
      refine Wp.brn (fun h => ?_) (fun h => ?_)
      · have h := iff_ltb.1 h
        simp only [hol] at h
        have hlt : i.val.toNat < l'.length := by omega
        refine Wp.brnT (iff_ltb.2 (by show i.val < (I.of .i64 16).val; omega)) ?_
        have hq : (I.quo i (I.of .i64 4)).val = i.val / 4 := quo_i64 hi0 (by decide)
        have hr : (I.rem i (I.of .i64 4)).val = i.val % 4 := rem_i64 hi0 (by decide)
        have hs : (I.add i (I.of .i64 1)).val = i.val + 1 := by rw [add_i64 (by omega)]; omega
        have hm : (I.mul (I.of .i64 16) (I.rem i (I.of .i64 4))).val = 16 * (i.val % 4) := by rw [mul_i64 (by rw [c16, hr]; omega), hr, c16]
        have hin : inB (I.quo i (I.of .i64 4)) 4 = true := iff_inB.2 ⟨by omega, by omega⟩
        refine Wp.brnT hin ?_
        refine Wp.brnT (iff_inB.2 ⟨hi0, by show i.val < ((l'.length : Nat) : Int); omega⟩) ?_
        refine Wp.brnT (nn_u64 _) ?_
        refine Wp.brnT hin ?_
        have hdig : DigOk l'[i.val.toNat] := hl.dig _ (List.getElem_mem hlt)
        have hrd : rdL (I.of .i64 0) l' (I.nat i) = l'[i.val.toNat] := rdL_eq _ _ _ hlt
        have e1 : I.nat (I.quo i (I.of .i64 4)) = i.val.toNat / 4 := by unfold I.nat; omega
        have e2 : I.conv .u64 (I.mul (I.of .i64 16) (I.rem i (I.of .i64 4))) = I.of .u64 (16 * (i.val.toNat % 4) : Nat) := by
          show I.of .u64 _ = _
          rw [hm]
          congr 1
          omega
        have e3 : I.conv .u64 (rdL (I.of .i64 0) l' (I.nat i)) = I.of .u64 ((l'[i.val.toNat]).nat : Int) := by
          show I.of .u64 _ = _
          rw [hrd, hdig.nat.1]
        have hub : U.val u < 65536 ^ i.val.toNat := by
          rw [hu]
          have := bv_lt (digs_take hl.dig i.val.toNat)
          rw [List.length_take] at this
          rwa [Nat.min_eq_left (by omega)] at this
        have st := toU_step u (l'[i.val.toNat]).nat i.val.toNat (by omega) hub hdig.nat.2
        refine Wp.again ⟨rfl, ?_, ?_, ?_⟩ ?_
        · show 0 ≤ (I.add i (I.of .i64 1)).val; omega
        · show (I.add i (I.of .i64 1)).val ≤ _; omega
        · show U.val (Arr.upd 4 u (I.nat (I.quo i (I.of .i64 4))) (I.add (Arr.sel (I.of .u64 0) 4 u (I.nat (I.quo i (I.of .i64 4)))) (I.shl (I.conv .u64 (rdL (I.of .i64 0) l' (I.nat i))) (I.conv .u64 (I.mul (I.of .i64 16) (I.rem i (I.of .i64 4))))))) = bv (l'.take (I.add i (I.of .i64 1)).val.toNat)
          have e4 : (I.add i (I.of .i64 1)).val.toNat = i.val.toNat + 1 := by omega
          rw [e1, e2, e3, e4, st, bv_take_succ hlt, ← hu]
        · show ((l'.length : Int) - (I.add i (I.of .i64 1)).val).toNat < _
          simp only; omega
      · have h := niff_ltb.1 h
        simp only [hol] at h
        have := fin (by omega)
        subst this
        exact Wp.done rfl
    · refine ⟨rfl, by show 0 ≤ (I.of .i64 0).val; decide, by show (I.of .i64 0).val ≤ (l.length : Int); have : (I.of .i64 0).val = 0 := rfl; omega, ?_⟩
      show U.val _ = bv (l.take (I.of .i64 0).val.toNat)
      rfl
    · exact K0_ge _ (by show ((l.length : Int) - (I.of .i64 0).val).toNat < _; have : (I.of .i64 0).val = 0 := rfl; omega)
  exact key.out

def errS (n : Nat) : U × I .i64 := if n < U.top then (U.of n, I.of .i64 0) else (U.of 0, I.of .i64 4)

theorem Fits_ok {l : List Dg} {n : Nat} (hl : IsB l n) (hlen : l.length < 9223372036854775808) : pontageref1_Fits ((l, ()), ()) = some ((decide (n < U.top), ()), ()) := by
  have ht : U.top = 65536 ^ 16 := by decide
  have h := hl.len (k := 16)
  have hol : (I.ofNat .i64 (lenL l)).val = l.length := ofNat_i64 hlen
  have c16 : (I.of .i64 16).val = 16 := rfl
  have e : I.leb (I.ofNat .i64 (lenL l)) (I.of .i64 16) = decide (n < U.top) := by
    unfold I.leb
    rw [hol, c16, ht]
    by_cases hc : l.length ≤ 16
    · have := h.1 hc
      simp [this]; omega
    · have : ¬ n < 65536 ^ 16 := fun hh => hc (h.2 hh)
      simp [this]; omega
  refine Wp.out (T := fun o => o = _) ?_
  unfold pontageref1_Fits
  show some ((I.leb (I.ofNat .i64 (lenL l)) (I.of .i64 16), ()), ()) = _
  rw [e]

theorem Checked_ok {l : List Dg} {n : Nat} (hl : IsB l n) (hlen : l.length < 9223372036854775808) : pontageref1_Checked ((l, ()), ()) = some (((errS n).1, (errS n).2, ()), ()) := by
  refine Wp.out (T := fun o => o = _) ?_
  unfold pontageref1_Checked errS
  refine Wp.optF (Fits_ok hl hlen) ?_
  by_cases h : n < U.top
  · refine Wp.brnF (by show (!decide (n < U.top)) = false; simp [h]) ?_
    refine Wp.optF (ToUint256_ok hl h) ?_
    show _ = _
    rw [if_pos h]
    rfl
  · refine Wp.brnT (by show (!decide (n < U.top)) = true; simp [h]) ?_
    show _ = _
    rw [if_neg h]
    rfl

theorem Checked_ok' {l : List Dg} {n : Nat} (hl : IsB l n) (hlen : l.length ≤ 1000000) : pontageref1_Checked ((l, ()), ()) = some (((errS n).1, (errS n).2, ()), ()) := Checked_ok hl (by omega)

def u64U (x : I .u64) : U := (x, I.of .u64 0, I.of .u64 0, I.of .u64 0, ())

theorem u64U_val (x : I .u64) : (u64U x).val = x.nat := by
  unfold u64U U.val
  have : (I.of .u64 0).nat = 0 := rfl
  simp only [this]
  omega

theorem FromUint64_ok (x : I .u64) : ∃ r, pontageref1_FromUint64 ((x, ()), ()) = some ((r, ()), ()) ∧ IsB r x.nat := by
  obtain ⟨r, hr, hB⟩ := FromUint256_ok (u64U x)
  rw [u64U_val] at hB
  refine ⟨r, ?_, hB⟩
  refine Wp.out (T := fun o => o = _) ?_
  unfold pontageref1_FromUint64
  exact Wp.optF hr rfl
end Sym

/- Natural numbers by digits of 65536: sums, differences, comparison. -/
namespace Sym
open Go

abbrev rd0 (l : List Dg) (i : Nat) : Dg := rdL (I.of .i64 0) l i

theorem digOk0 : DigOk (I.of .i64 0) := by unfold DigOk; decide

theorem rd0_ok {l : List Dg} (h : Digs l) (i : Nat) : DigOk (rd0 l i) := by
  rcases Nat.lt_or_ge i l.length with hi | hi
  · rw [rd0, rdL_eq _ _ _ hi]; exact h _ (List.getElem_mem hi)
  · rw [rd0, rdL_out _ _ _ hi]; exact digOk0

theorem rd0_zero {l : List Dg} {i : Nat} (h : l.length ≤ i) : (rd0 l i).nat = 0 := by rw [rd0, rdL_out _ _ _ h]; rfl

theorem bv_drop : ∀ (l : List Dg) (i : Nat), bv (l.drop i) = (rd0 l i).nat + 65536 * bv (l.drop (i + 1))
  | [], i => by simp [bv, rd0, rdL]; rfl
  | x :: l, 0 => by simp [bv, rd0, rdL]
  | x :: l, i + 1 => by simpa [rd0, rdL] using bv_drop l i

theorem bv_take1 (l : List Dg) (i : Nat) : bv (l.take (i + 1)) = bv (l.take i) + 65536 ^ i * (rd0 l i).nat := by
  rcases Nat.lt_or_ge i l.length with hi | hi
  · rw [bv_take_succ hi, rd0, rdL_eq _ _ _ hi]
  · rw [rd0_zero hi, List.take_of_length_le (by omega), List.take_of_length_le hi]; simp

theorem lead_last : ∀ {l : List Dg}, Lead l → ∀ (i : Nat), i + 1 = l.length → (rd0 l i).val ≠ 0
  | [], _, i, h => by simp at h
  | [d], h, i, hi => by
    have : i = 0 := by simpa using hi
    subst this
    exact h
  | d :: e :: l, h, 0, hi => by simp at hi
  | d :: e :: l, h, i + 1, hi => lead_last (l := e :: l) h i (by simpa using hi)

structure AddInv (a b : List Dg) (over i : I .i64) (out : List Dg) : Prop where
  o0 : 0 ≤ over.val
  o1 : over.val ≤ 1
  i0 : 0 ≤ i.val
  i1 : i.val ≤ max a.length b.length ∨ (over.val = 0 ∧ i.val = max a.length b.length + 1)
  len : (out.length : Int) = i.val
  dig : Digs out
  sum : bv out + 65536 ^ i.val.toNat * (over.nat + bv (a.drop i.val.toNat) + bv (b.drop i.val.toNat)) = bv a + bv b
  lead : over.val = 0 → (a.length : Int) ≤ i.val → (b.length : Int) ≤ i.val → Lead out

theorem add_step {a b : List Dg} {over i s : I .i64} {out : List Dg} (ha : Digs a) (hb : Digs b) (la : Lead a) (lb : Lead b) (hal : a.length ≤ 1000000) (hbl : b.length ≤ 1000000) (h : AddInv a b over i out)
    (hc : i.val < a.length ∨ i.val < b.length ∨ 0 < over.val) (hs : s.val = over.val + (rd0 a i.val.toNat).val + (rd0 b i.val.toNat).val) :
    AddInv a b (I.shr s (I.of .u64 16)) (I.add i (I.of .i64 1)) (appL out [I.and s (I.of .i64 65535)]) := by
  have c1 : (I.of .i64 1).val = 1 := rfl
  have da := rd0_ok ha i.val.toNat
  have db := rd0_ok hb i.val.toNat
  have da2 := da.nat
  have db2 := db.nat
  unfold DigOk at da db
  have ho0 := h.o0
  have ho1 := h.o1
  have hi0 := h.i0
  have hi1 := h.i1
  have hsh := shr_i64_16 s (by omega)
  have han := and_i64 s (by omega)
  have hi : (I.add i (I.of .i64 1)).val = i.val + 1 := by rw [add_i64 (by omega)]; omega
  have hin : (I.add i (I.of .i64 1)).val.toNat = i.val.toNat + 1 := by omega
  have hout : out.length = i.val.toNat := by have := h.len; omega
  refine ⟨by omega, by omega, by omega, ?_, ?_, ?_, ?_, ?_⟩
  · rcases hi1 with hi1 | hi1
    · rcases Int.lt_or_le i.val (max a.length b.length) with hlt | hge
      · left; omega
      · right
        have z1 := rd0_zero (l := a) (i := i.val.toNat) (by omega)
        have z2 := rd0_zero (l := b) (i := i.val.toNat) (by omega)
        omega
    · exfalso; omega
  · show ((appL out [_]).length : Int) = _
    simp only [appL, List.length_append, List.length_singleton]
    have := h.len
    omega
  · exact digs_app.2 ⟨h.dig, digs_cons.2 ⟨by unfold DigOk; omega, fun _ h => by simp at h⟩⟩
  · have hsum := h.sum
    rw [bv_drop a, bv_drop b] at hsum
    rw [hin]
    have hn1 : (I.and s (I.of .i64 65535)).nat + 65536 * (I.shr s (I.of .u64 16)).nat = over.nat + (rd0 a i.val.toNat).nat + (rd0 b i.val.toNat).nat := by
      unfold I.nat at *
      omega
    have e : over.nat + ((rd0 a i.val.toNat).nat + 65536 * bv (a.drop (i.val.toNat + 1))) + ((rd0 b i.val.toNat).nat + 65536 * bv (b.drop (i.val.toNat + 1))) =
        (I.and s (I.of .i64 65535)).nat + 65536 * ((I.shr s (I.of .u64 16)).nat + bv (a.drop (i.val.toNat + 1)) + bv (b.drop (i.val.toNat + 1))) := by omega
    rw [e, Nat.mul_add, ← Nat.mul_assoc] at hsum
    rw [← hsum, appL, bv_app, hout, Nat.pow_succ]
    simp only [bv, Nat.mul_zero, Nat.add_zero]
    omega
  · intro hz h1 h2
    refine lead_snoc _ _ ?_
    intro hz2
    have hs0 : s.val = 0 := by omega
    rcases hc with hc | hc | hc
    · have := lead_last la i.val.toNat (by omega)
      omega
    · have := lead_last lb i.val.toNat (by omega)
      omega
    · omega

theorem Add_ok {a b : List Dg} {m n : Nat} (ha : IsB a m) (hb : IsB b n) (hal : a.length ≤ 1000000) (hbl : b.length ≤ 1000000) : ∃ r, pontageref1_Add ((a, b, ()), ()) = some ((r, ()), ()) ∧ IsB r (m + n) := by
  have hol : (I.ofNat .i64 (lenL a)).val = a.length := ofNat_i64 (by show a.length < _; omega)
  have hol2 : (I.ofNat .i64 (lenL b)).val = b.length := ofNat_i64 (by show b.length < _; omega)
  have c0 : (I.of .i64 0).val = 0 := rfl
  have key : Wp (fun o => ∃ r, o = some ((r, ()), ()) ∧ IsB r (m + n)) (pontageref1_Add ((a, b, ()), ())) := by
    unfold pontageref1_Add
    refine Wp.iter (fun x => x.1.1 = a ∧ x.1.2.1 = b ∧ AddInv a b x.1.2.2.1 x.1.2.2.2.1 x.2.1) (fun x => ((max a.length b.length : Int) + 2 - x.1.2.2.2.1.val).toNat) ?_ ?_ ?_
    · rintro ⟨⟨a', b', over, i, ⟨⟩⟩, out, ⟨⟩⟩ ⟨e1, e2, hI⟩
      simp only at e1 e2 hI
      subst e1 e2
      have hi0 := hI.i0
      have hi1 := hI.i1
      have ho0 := hI.o0
      have ho1 := hI.o1
      have again : ∀ (s : I .i64), (i.val < a'.length ∨ i.val < b'.length ∨ 0 < over.val) → s.val = over.val + (rd0 a' i.val.toNat).val + (rd0 b' i.val.toNat).val →
          AddInv a' b' (I.shr s (I.of .u64 16)) (I.add i (I.of .i64 1)) (appL out [I.and s (I.of .i64 65535)]) ∧ ((max a'.length b'.length : Int) + 2 - (I.add i (I.of .i64 1)).val).toNat < ((max a'.length b'.length : Int) + 2 - i.val).toNat := by
        intro s hc hs
        refine ⟨add_step ha.dig hb.dig ha.lead hb.lead hal hbl hI hc hs, ?_⟩
        have c1 : (I.of .i64 1).val = 1 := rfl
        have hi : (I.add i (I.of .i64 1)).val = i.val + 1 := by rw [add_i64 (by omega)]; omega
        omega
      have fits : fitsLen (lenL (appL out [I.of .i64 0])) = true := iff_fits.2 (by show (appL out [_]).length ≤ _; rw [appL, List.length_append, List.length_singleton]; have := hI.len; omega)
      have fits' : ∀ d : Dg, fitsLen (lenL (appL out [d])) = true := fun d => iff_fits.2 (by show (appL out [_]).length ≤ _; rw [appL, List.length_append, List.length_singleton]; have := hI.len; omega)
      refine Wp.jn (fun x => x.1.1 = a' ∧ x.1.2.1 = b' ∧ x.1.2.2.1 = over ∧ x.1.2.2.2.1 = i ∧ x.2.1 = out ∧ (i.val < a'.length ∨ i.val < b'.length ∨ 0 < over.val)) ?_ ?_
      · rintro ⟨⟨a1, b1, over1, i1, ⟨⟩⟩, out1, ⟨⟩⟩ ⟨e1, e2, e3, e4, e5, hc⟩
        simp only at e1 e2 e3 e4 e5
        subst e1 e2 e3 e4 e5
        have ra := rd0_ok ha.dig i1.val.toNat
        have rb := rd0_ok hb.dig i1.val.toNat
        unfold DigOk at ra rb
        refine Wp.jn (fun x => x.1.1 = a1 ∧ x.1.2.1 = b1 ∧ x.1.2.2.1.val = over1.val + (rd0 a1 i1.val.toNat).val ∧ x.1.2.2.2.1 = i1 ∧ x.2.1 = out1) ?_ ?_
        · rintro ⟨⟨a2, b2, over2, i2, ⟨⟩⟩, out2, ⟨⟩⟩ ⟨e1, e2, e3, e4, e5⟩
          simp only at e1 e2 e3 e4 e5
          subst e1 e2 e4 e5
          refine Wp.brn (fun h => ?_) (fun h => ?_)
          · have h := iff_ltb.1 h
            simp only [hol2] at h
            refine Wp.brnT (iff_inB.2 ⟨hi0, by show i2.val < ((b2.length : Nat) : Int); omega⟩) ?_
            have hs : (I.add over2 (rd0 b2 i2.val.toNat)).val = over1.val + (rd0 a2 i2.val.toNat).val + (rd0 b2 i2.val.toNat).val := by rw [add_i64 (by omega)]; omega
            have := again _ hc hs
            exact Wp.brnT (fits' _) (Wp.again ⟨rfl, rfl, this.1⟩ this.2)
          · have h := niff_ltb.1 h
            simp only [hol2] at h
            have hz := rd0_zero (l := b2) (i := i2.val.toNat) (by omega)
            have hz2 : (rd0 b2 i2.val.toNat).val = 0 := by unfold I.nat at hz; omega
            have := again over2 hc (by omega)
            exact Wp.brnT (fits' _) (Wp.again ⟨rfl, rfl, this.1⟩ this.2)
        · intro j2 hj2
          refine Wp.brn (fun h => ?_) (fun h => ?_)
          · have h := iff_ltb.1 h
            simp only [hol] at h
            refine Wp.brnT (iff_inB.2 ⟨hi0, by show i1.val < ((a1.length : Nat) : Int); omega⟩) ?_
            exact hj2 _ ⟨rfl, rfl, add_i64 (by show _ ≤ over1.val + (rd0 a1 i1.val.toNat).val ∧ over1.val + (rd0 a1 i1.val.toNat).val < _; omega), rfl, rfl⟩
          · have h := niff_ltb.1 h
            simp only [hol] at h
            have hz := rd0_zero (l := a1) (i := i1.val.toNat) (by omega)
            have hz2 : (rd0 a1 i1.val.toNat).val = 0 := by unfold I.nat at hz; omega
            exact hj2 _ ⟨rfl, rfl, by show over1.val = _; omega, rfl, rfl⟩
      · intro j1 hj1
        refine Wp.brn (fun h => ?_) (fun h => ?_)
        · have h := iff_ltb.1 h
          simp only [hol] at h
          exact hj1 _ ⟨rfl, rfl, rfl, rfl, rfl, .inl h⟩
        · have h := niff_ltb.1 h
          simp only [hol] at h
          refine Wp.brn (fun h2 => ?_) (fun h2 => ?_)
          · have h2 := iff_ltb.1 h2
            simp only [hol2] at h2
            exact hj1 _ ⟨rfl, rfl, rfl, rfl, rfl, .inr (.inl h2)⟩
          · have h2 := niff_ltb.1 h2
            simp only [hol2] at h2
            refine Wp.brn (fun h3 => ?_) (fun h3 => ?_)
            · have h3 := iff_ltb.1 h3
              simp only [c0] at h3
              exact hj1 _ ⟨rfl, rfl, rfl, rfl, rfl, .inr (.inr h3)⟩
            · have h3 := niff_ltb.1 h3
              simp only [c0] at h3
              refine Wp.done ⟨out, rfl, hI.dig, hI.lead (by omega) (by omega) (by omega), ?_⟩
              have hsum := hI.sum
              have hz : over.nat = 0 := by unfold I.nat; omega
              rw [List.drop_of_length_le (l := a') (by omega), List.drop_of_length_le (l := b') (by omega), hz] at hsum
              simp only [bv, Nat.mul_zero, Nat.add_zero] at hsum
              rw [hsum, ha.val, hb.val]
    · refine ⟨rfl, rfl, ?_⟩
      show AddInv a b (I.of .i64 0) (I.of .i64 0) []
      refine ⟨by decide, by decide, by decide, ?_, rfl, fun _ h => by simp at h, ?_, fun _ _ _ => trivial⟩
      · left; show (I.of .i64 0).val ≤ _; omega
      · show bv [] + 65536 ^ (I.of .i64 0).val.toNat * ((I.of .i64 0).nat + bv (a.drop (I.of .i64 0).val.toNat) + bv (b.drop (I.of .i64 0).val.toNat)) = _
        have e : (I.of .i64 0).val.toNat = 0 := rfl
        have e2 : (I.of .i64 0).nat = 0 := rfl
        rw [e, e2]
        simp [bv]
    · exact K0_ge _ (by show ((max a.length b.length : Int) + 2 - (I.of .i64 0).val).toNat < _; omega)
  exact key.out
end Sym

/- Natural numbers by digits of 65536: differences, comparison. -/
namespace Sym
open Go

theorem repL_digs : ∀ (n : Nat), Digs (repL n (I.of .i64 0))
  | 0 => fun _ h => by simp [repL] at h
  | n + 1 => digs_cons.2 ⟨digOk0, repL_digs n⟩

theorem repL_length {X : Type} : ∀ (n : Nat) (x : X), (repL n x).length = n
  | 0, _ => rfl
  | n + 1, x => by simp [repL, repL_length n x]

theorem take_set_succ {X : Type} (l : List X) (i : Nat) (v : X) (h : i < l.length) : (l.set i v).take (i + 1) = l.take i ++ [v] := by
  have h2 : i < (l.set i v).length := by simpa using h
  rw [← List.take_append_getElem h2]
  simp [List.take_set_of_le]

theorem digs_set {l : List Dg} (h : Digs l) (i : Nat) {d : Dg} (hd : DigOk d) : Digs (l.set i d) := by
  intro e he
  rcases List.mem_or_eq_of_mem_set he with h1 | h1
  · exact h e h1
  · subst h1; exact hd

structure SubInv (a b : List Dg) (under i : I .i64) (out : List Dg) : Prop where
  u0 : 0 ≤ under.val
  u1 : under.val ≤ 1
  i0 : 0 ≤ i.val
  i1 : i.val ≤ a.length
  len : out.length = a.length
  dig : Digs out
  sum : bv (out.take i.val.toNat) + bv (b.take i.val.toNat) = bv (a.take i.val.toNat) + 65536 ^ i.val.toNat * under.nat

theorem sub_step {a b : List Dg} {under i d un : I .i64} {out : List Dg} (ha : Digs a) (hb : Digs b) (hal : a.length ≤ 1000000) (h : SubInv a b under i out) (hc : i.val < a.length)
    (hd : DigOk d) (hu : un.val = 0 ∨ un.val = 1) (hs : d.val = (rd0 a i.val.toNat).val - under.val - (rd0 b i.val.toNat).val + 65536 * un.val) :
    SubInv a b un (I.add i (I.of .i64 1)) (setAt out (I.nat i) d) := by
  have c1 : (I.of .i64 1).val = 1 := rfl
  have da2 := (rd0_ok ha i.val.toNat).nat
  have db2 := (rd0_ok hb i.val.toNat).nat
  have hd2 := hd.nat
  have hu0 := h.u0
  have hu1 := h.u1
  have hi0 := h.i0
  have hi : (I.add i (I.of .i64 1)).val = i.val + 1 := by rw [add_i64 (by omega)]; omega
  have hin : (I.add i (I.of .i64 1)).val.toNat = i.val.toNat + 1 := by omega
  have hlen := h.len
  have hni : I.nat i = i.val.toNat := rfl
  rw [setAt_eq, hni]
  refine ⟨by omega, by omega, by omega, by omega, by simpa using hlen, digs_set h.dig _ hd, ?_⟩
  rw [hin, take_set_succ _ _ _ (by omega), bv_app, bv_take1 a, bv_take1 b]
  have el : (out.take i.val.toNat).length = i.val.toNat := by simp; omega
  rw [el, Nat.pow_succ]
  simp only [bv, Nat.mul_zero, Nat.add_zero]
  have hsum := h.sum
  have e : d.nat + (rd0 b i.val.toNat).nat + under.nat = (rd0 a i.val.toNat).nat + 65536 * un.nat := by
    unfold I.nat at *
    omega
  have e2 := congrArg (fun z => 65536 ^ i.val.toNat * z) e
  simp only [Nat.mul_add] at e2
  rw [← Nat.mul_assoc] at e2
  omega

theorem Sub_ok {a b : List Dg} {m n : Nat} (ha : IsB a m) (hb : IsB b n) (hmn : n ≤ m) (hal : a.length ≤ 1000000) : ∃ r, pontageref1_Sub ((a, b, ()), ()) = some ((r, ()), ()) ∧ IsB r (m - n) := by
  have hbl : b.length ≤ a.length := hb.len.2 (Nat.lt_of_le_of_lt hmn (ha.len.1 (Nat.le_refl _)))
  have hol : (I.ofNat .i64 (lenL a)).val = a.length := ofNat_i64 (by show a.length < _; omega)
  have hol2 : (I.ofNat .i64 (lenL b)).val = b.length := ofNat_i64 (by show b.length < _; omega)
  have c0 : (I.of .i64 0).val = 0 := rfl
  have hn : I.nat (I.ofNat .i64 (lenL a)) = a.length := by unfold I.nat; omega
  have key : Wp (fun o => ∃ r, o = some ((r, ()), ()) ∧ IsB r (m - n)) (pontageref1_Sub ((a, b, ()), ())) := by
    unfold pontageref1_Sub
    refine Wp.brnT ?_ ?_
    · show (decide (0 ≤ (I.ofNat .i64 (lenL a)).val) && decide ((I.ofNat .i64 (lenL a)).val ≤ ((I.nat (I.ofNat .i64 (lenL a)) : Nat) : Int))) = true
      rw [hn, hol]; simp
    refine Wp.brnT ?_ ?_
    · show (decide (0 ≤ (I.ofNat .i64 (lenL a)).val) && decide ((I.ofNat .i64 (lenL a)).val ≤ ((1073741824 : Nat) : Int))) = true
      rw [hol]; simp; omega
    refine Wp.iter (fun x => x.1.1 = a ∧ x.1.2.1 = b ∧ SubInv a b x.1.2.2.1 x.1.2.2.2.1 x.2.1) (fun x => ((a.length : Int) - x.1.2.2.2.1.val).toNat) ?_ ?_ ?_
    · rintro ⟨⟨a', b', under, i, ⟨⟩⟩, out, ⟨⟩⟩ ⟨e1, e2, hI⟩
      simp only at e1 e2 hI
      subst e1 e2
      have hi0 := hI.i0
      have hi1 := hI.i1
      have hu0 := hI.u0
      have hu1 := hI.u1
      refine Wp.brn (fun h => ?_) (fun h => ?_)
      · have hlt := iff_ltb.1 h
        simp only [hol] at hlt
        clear h
        have ra := rd0_ok ha.dig i.val.toNat
        have rb := rd0_ok hb.dig i.val.toNat
        have ra' := ra
        have rb' := rb
        unfold DigOk at ra rb
        have c1 : (I.of .i64 1).val = 1 := rfl
        have hi : (I.add i (I.of .i64 1)).val = i.val + 1 := by rw [add_i64 (by omega)]; omega
        have hm : ((a'.length : Int) - (I.add i (I.of .i64 1)).val).toNat < ((a'.length : Int) - i.val).toNat := by omega
        have hlen := hI.len
        refine Wp.brnT (iff_inB.2 ⟨hi0, by show i.val < ((a'.length : Nat) : Int); omega⟩) ?_
        refine Wp.jn (fun x => x.1.1 = a' ∧ x.1.2.1 = b' ∧ x.1.2.2.1 = i ∧ x.1.2.2.2.1.val = (rd0 a' i.val.toNat).val - under.val - (rd0 b' i.val.toNat).val ∧ x.2.1 = out) ?_ ?_
        · rintro ⟨⟨a1, b1, i1, x, ⟨⟩⟩, out1, ⟨⟩⟩ ⟨e1, e2, e3, e4, e5⟩
          simp only at e1 e2 e3 e4 e5
          subst e1 e2 e3 e5
          refine Wp.brn (fun h2 => ?_) (fun h2 => ?_)
          · have h2 := iff_ltb.1 h2
            simp only [c0] at h2
            refine Wp.brnT (iff_inB.2 ⟨hi0, by show i1.val < ((out1.length : Nat) : Int); omega⟩) ?_
            have c6 : (I.of .i64 65536).val = 65536 := rfl
            have hx : (I.add x (I.of .i64 65536)).val = x.val + 65536 := by rw [add_i64 (by omega)]; omega
            have st := sub_step (un := I.of .i64 1) (d := I.add x (I.of .i64 65536)) ha.dig hb.dig hal hI hlt (by unfold DigOk; omega) (.inr rfl) (by omega)
            exact Wp.again ⟨rfl, rfl, st⟩ hm
          · have h2 := niff_ltb.1 h2
            simp only [c0] at h2
            refine Wp.brnT (iff_inB.2 ⟨hi0, by show i1.val < ((out1.length : Nat) : Int); omega⟩) ?_
            have st := sub_step (un := I.of .i64 0) (d := x) ha.dig hb.dig hal hI hlt (by unfold DigOk; omega) (.inl rfl) (by omega)
            exact Wp.again ⟨rfl, rfl, st⟩ hm
        · intro j hj
          have hs1 : (I.sub (rd0 a' i.val.toNat) under).val = (rd0 a' i.val.toNat).val - under.val := sub_i64 (by omega)
          refine Wp.brn (fun h2 => ?_) (fun h2 => ?_)
          · have h2 := iff_ltb.1 h2
            simp only [hol2] at h2
            refine Wp.brnT (iff_inB.2 ⟨hi0, by show i.val < ((b'.length : Nat) : Int); omega⟩) ?_
            refine hj _ ⟨rfl, rfl, rfl, ?_, rfl⟩
            show (I.sub (I.sub (rd0 a' i.val.toNat) under) (rd0 b' i.val.toNat)).val = _
            rw [sub_i64 (by omega), hs1]
          · have h2 := niff_ltb.1 h2
            simp only [hol2] at h2
            have hz := rd0_zero (l := b') (i := i.val.toNat) (by omega)
            have hz2 : (rd0 b' i.val.toNat).val = 0 := by unfold I.nat at hz; omega
            refine hj _ ⟨rfl, rfl, rfl, ?_, rfl⟩
            show (I.sub (rd0 a' i.val.toNat) under).val = _
            omega
      · have h := niff_ltb.1 h
        simp only [hol] at h
        have hlen := hI.len
        have hsum := hI.sum
        have hi : i.val.toNat = a'.length := by omega
        rw [hi, List.take_of_length_le (by omega), List.take_of_length_le hbl, List.take_length, ha.val, hb.val] at hsum
        have hlt := bv_lt hI.dig
        rw [hlen] at hlt
        have hz : under.nat = 0 := by
          unfold I.nat
          rcases Int.lt_or_le under.val 1 with h1 | h1
          · omega
          · exfalso
            have : under.nat = 1 := by unfold I.nat; omega
            rw [this] at hsum
            omega
        rw [hz, Nat.mul_zero, Nat.add_zero] at hsum
        have hbv : bv out = m - n := by omega
        have holen : (I.ofNat .i64 (lenL out)).val = out.length := ofNat_i64 (by show out.length < _; omega)
        clear hsum h
        refine Wp.done ?_
        refine Wp.iter (fun x => x.2.1 = out ∧ 0 ≤ x.1.1.val ∧ x.1.1.val ≤ (out.length : Int) ∧ bv (out.take x.1.1.val.toNat) = bv out) (fun x => x.1.1.val.toNat) ?_ ?_ ?_
        · rintro ⟨⟨j, r⟩, out', ⟨⟩⟩ ⟨e1, hj0, hj1, hb⟩
          simp only at e1 hj0 hj1 hb
          subst e1
          have c1 : (I.of .i64 1).val = 1 := rfl
          have cut : inB' j (lenL out') = true := by
            show (decide (0 ≤ j.val) && decide (j.val ≤ ((out'.length : Nat) : Int))) = true
            simp [hj0, hj1]
          have sub : subL out' 0 (I.nat j) = out'.take j.val.toNat := by simp [subL, I.nat]
          refine Wp.brn (fun h => ?_) (fun h => ?_)
          · have h := iff_ltb.1 h
            have h : (I.of .i64 0).val < j.val := h
            have hs : (I.sub j (I.of .i64 1)).val = j.val - 1 := by rw [sub_i64 (by omega)]; omega
            have hidx : (I.nat (I.sub j (I.of .i64 1))) = j.val.toNat - 1 := by unfold I.nat; omega
            have hlt : j.val.toNat - 1 < out'.length := by omega
            have hrd : rdL (I.of .i64 0) out' (I.nat (I.sub j (I.of .i64 1))) = out'[j.val.toNat - 1] := by rw [hidx]; exact rdL_eq _ _ _ hlt
            have htk : out'.take j.val.toNat = out'.take (j.val.toNat - 1) ++ [out'[j.val.toNat - 1]] := by
              rw [List.take_append_getElem hlt]
              congr 1
              omega
            refine Wp.brnT (iff_inB.2 ⟨by show 0 ≤ (I.sub j (I.of .i64 1)).val; omega, by show (I.sub j (I.of .i64 1)).val < (out'.length : Int); omega⟩) ?_
            refine Wp.brn (fun h2 => ?_) (fun h2 => ?_)
            · have h2 := iff_eqb.1 h2
              have h2 : (rdL (I.of .i64 0) out' (I.nat (I.sub j (I.of .i64 1)))).val = (I.of .i64 0).val := h2
              rw [hrd] at h2
              refine Wp.again ⟨rfl, ?_, ?_, ?_⟩ ?_
              · show 0 ≤ (I.sub j (I.of .i64 1)).val; omega
              · show (I.sub j (I.of .i64 1)).val ≤ _; omega
              · show bv (out'.take (I.sub j (I.of .i64 1)).val.toNat) = _
                have e : (I.sub j (I.of .i64 1)).val.toNat = j.val.toNat - 1 := by omega
                rw [e, ← hb, htk, bv_app]
                have hz : (out'[j.val.toNat - 1]).nat = 0 := by unfold I.nat; rw [h2]; rfl
                simp [bv, hz]
              · show (I.sub j (I.of .i64 1)).val.toNat < j.val.toNat
                omega
            · have h2 := niff_eqb.1 h2
              have h2 : (rdL (I.of .i64 0) out' (I.nat (I.sub j (I.of .i64 1)))).val ≠ (I.of .i64 0).val := h2
              rw [hrd] at h2
              refine Wp.done (Wp.brnT cut ⟨_, rfl, ?_⟩)
              show IsB (subL out' 0 (I.nat j)) _
              rw [sub]
              refine ⟨digs_take hI.dig _, ?_, hb.trans hbv⟩
              rw [htk]
              exact lead_snoc _ _ h2
          · have h := niff_ltb.1 h
            have h : j.val ≤ (I.of .i64 0).val := h
            refine Wp.done (Wp.brnT cut ⟨_, rfl, ?_⟩)
            show IsB (subL out' 0 (I.nat j)) _
            rw [sub]
            have e : j.val.toNat = 0 := by omega
            rw [e] at hb ⊢
            simp only [List.take_zero] at hb ⊢
            rw [← hbv, ← hb]
            exact isB_nil
        · refine ⟨rfl, ?_, ?_, ?_⟩
          · show 0 ≤ (I.ofNat .i64 (lenL out)).val; omega
          · show (I.ofNat .i64 (lenL out)).val ≤ _; omega
          · show bv (out.take (I.ofNat .i64 (lenL out)).val.toNat) = _
            rw [holen, Int.toNat_natCast, List.take_length]
        · refine K0_ge _ ?_
          show (I.ofNat .i64 (lenL out)).val.toNat < _
          omega
    · refine ⟨rfl, rfl, ?_⟩
      show SubInv a b (I.of .i64 0) (I.of .i64 0) (repL (I.nat (I.ofNat .i64 (lenL a))) (I.of .i64 0))
      rw [hn]
      have e : (I.of .i64 0).val.toNat = 0 := rfl
      refine ⟨by decide, by decide, by decide, by omega, repL_length _ _, repL_digs _, ?_⟩
      rw [e]
      rfl
    · exact K0_ge _ (by show ((a.length : Int) - (I.of .i64 0).val).toNat < _; omega)
  exact key.out

/-- -1, 0 or 1. -/
def cmpN (m n : Nat) : I .i64 := if m < n then I.of .i64 (-1) else if n < m then I.of .i64 1 else I.of .i64 0

theorem cmp_at {a b : List Dg} (ha : Digs a) (hb : Digs b) (i : Nat) (hd : bv (a.drop (i + 1)) = bv (b.drop (i + 1))) (hlt : (rd0 a i).nat < (rd0 b i).nat) (hia : i ≤ a.length) (hib : i ≤ b.length) : bv a < bv b := by
  have e1 : bv a = bv (a.take i) + 65536 ^ i * bv (a.drop i) := by
    have := bv_app (a.take i) (a.drop i)
    rw [List.take_append_drop] at this
    rw [this]; simp [Nat.min_eq_left hia]
  have e2 : bv b = bv (b.take i) + 65536 ^ i * bv (b.drop i) := by
    have := bv_app (b.take i) (b.drop i)
    rw [List.take_append_drop] at this
    rw [this]; simp [Nat.min_eq_left hib]
  have h1 := bv_lt (digs_take ha i)
  rw [List.length_take, Nat.min_eq_left hia] at h1
  have h2 : bv (a.drop i) + 1 ≤ bv (b.drop i) := by rw [bv_drop a, bv_drop b]; omega
  have h3 := Nat.mul_le_mul_left (65536 ^ i) h2
  rw [Nat.mul_add] at h3
  omega

theorem Cmp_ok {a b : List Dg} {m n : Nat} (ha : IsB a m) (hb : IsB b n) (hal : a.length ≤ 1000000) (hbl : b.length ≤ 1000000) : pontageref1_Cmp ((a, b, ()), ()) = some ((cmpN m n, ()), ()) := by
  have hol : (I.ofNat .i64 (lenL a)).val = a.length := ofNat_i64 (by show a.length < _; omega)
  have hol2 : (I.ofNat .i64 (lenL b)).val = b.length := ofNat_i64 (by show b.length < _; omega)
  have c0 : (I.of .i64 0).val = 0 := rfl
  have c1 : (I.of .i64 1).val = 1 := rfl
  have key : Wp (fun o => o = some ((cmpN m n, ()), ())) (pontageref1_Cmp ((a, b, ()), ())) := by
    unfold pontageref1_Cmp
    refine Wp.brn (fun h => ?_) (fun h => ?_)
    · have h := iff_neb.1 h
      simp only [hol, hol2] at h
      refine Wp.brn (fun h2 => ?_) (fun h2 => ?_)
      · have h2 := iff_ltb.1 h2
        simp only [hol, hol2] at h2
        have h3 : m < n := by
          rcases Nat.lt_or_ge m n with h3 | h3
          · exact h3
          · have := hb.len.2 (Nat.lt_of_le_of_lt h3 (ha.len.1 (Nat.le_refl _)))
            omega
        show _ = _
        unfold cmpN
        rw [if_pos h3]
        rfl
      · have h2 := niff_ltb.1 h2
        simp only [hol, hol2] at h2
        have h3 : n < m := by
          rcases Nat.lt_or_ge n m with h3 | h3
          · exact h3
          · have := ha.len.2 (Nat.lt_of_le_of_lt h3 (hb.len.1 (Nat.le_refl _)))
            omega
        show _ = _
        unfold cmpN
        rw [if_neg (by omega), if_pos h3]
        rfl
    · have h := niff_neb.1 h
      simp only [hol, hol2] at h
      have hs : (I.sub (I.ofNat .i64 (lenL a)) (I.of .i64 1)).val = a.length - 1 := by rw [sub_i64 (by omega)]; omega
      refine Wp.iter (fun x => x.1.1 = a ∧ x.1.2.1 = b ∧ -1 ≤ x.1.2.2.1.val ∧ x.1.2.2.1.val < (a.length : Int) ∧ bv (a.drop (x.1.2.2.1.val + 1).toNat) = bv (b.drop (x.1.2.2.1.val + 1).toNat)) (fun x => (x.1.2.2.1.val + 1).toNat) ?_ ?_ ?_
      · rintro ⟨⟨a', b', i, ⟨⟩⟩, ⟨⟩⟩ ⟨e1, e2, hi0, hi1, hd⟩
        simp only at e1 e2 hi0 hi1 hd
        subst e1 e2
        refine Wp.brn (fun h2 => ?_) (fun h2 => ?_)
        · have h2 := iff_leb.1 h2
          simp only [c0] at h2
          have ha1 : inB i (lenL a') = true := iff_inB.2 ⟨h2, by show i.val < ((a'.length : Nat) : Int); omega⟩
          have hb1 : inB i (lenL b') = true := iff_inB.2 ⟨h2, by show i.val < ((b'.length : Nat) : Int); omega⟩
          have en : (i.val + 1).toNat = i.val.toNat + 1 := by omega
          rw [en] at hd
          have na := (rd0_ok ha.dig i.val.toNat).nat
          have nb := (rd0_ok hb.dig i.val.toNat).nat
          refine Wp.brnT ha1 (Wp.brnT hb1 ?_)
          refine Wp.brn (fun h3 => ?_) (fun h3 => ?_)
          · have h3 := iff_ltb.1 h3
            have h3 : (rd0 a' i.val.toNat).val < (rd0 b' i.val.toNat).val := h3
            have := cmp_at ha.dig hb.dig i.val.toNat hd (by omega) (by omega) (by omega)
            rw [ha.val, hb.val] at this
            refine Wp.done ?_
            show _ = _
            unfold cmpN
            rw [if_pos this]
            rfl
          · have h3 := niff_ltb.1 h3
            have h3 : (rd0 b' i.val.toNat).val ≤ (rd0 a' i.val.toNat).val := h3
            refine Wp.brnT ha1 (Wp.brnT hb1 ?_)
            refine Wp.brn (fun h4 => ?_) (fun h4 => ?_)
            · have h4 := iff_ltb.1 h4
              have h4 : (rd0 b' i.val.toNat).val < (rd0 a' i.val.toNat).val := h4
              have := cmp_at hb.dig ha.dig i.val.toNat hd.symm (by omega) (by omega) (by omega)
              rw [ha.val, hb.val] at this
              refine Wp.done ?_
              show _ = _
              unfold cmpN
              rw [if_neg (by omega), if_pos this]
              rfl
            · have h4 := niff_ltb.1 h4
              have h4 : (rd0 a' i.val.toNat).val ≤ (rd0 b' i.val.toNat).val := h4
              have hsi : (I.sub i (I.of .i64 1)).val = i.val - 1 := by rw [sub_i64 (by omega)]; omega
              refine Wp.again ⟨rfl, rfl, ?_, ?_, ?_⟩ ?_
              · show -1 ≤ (I.sub i (I.of .i64 1)).val; omega
              · show (I.sub i (I.of .i64 1)).val < _; omega
              · show bv (a'.drop ((I.sub i (I.of .i64 1)).val + 1).toNat) = bv (b'.drop ((I.sub i (I.of .i64 1)).val + 1).toNat)
                have e : ((I.sub i (I.of .i64 1)).val + 1).toNat = i.val.toNat := by omega
                rw [e, bv_drop a', bv_drop b', hd]
                omega
              · show ((I.sub i (I.of .i64 1)).val + 1).toNat < _
                simp only; omega
        · have h2 := niff_leb.1 h2
          simp only [c0] at h2
          have e : (i.val + 1).toNat = 0 := by omega
          rw [e] at hd
          simp only [List.drop_zero] at hd
          rw [ha.val, hb.val] at hd
          refine Wp.done ?_
          show _ = _
          unfold cmpN
          rw [if_neg (by omega), if_neg (by omega)]
          rfl
      · refine ⟨rfl, rfl, ?_, ?_, ?_⟩
        · show -1 ≤ (I.sub (I.ofNat .i64 (lenL a)) (I.of .i64 1)).val; omega
        · show (I.sub (I.ofNat .i64 (lenL a)) (I.of .i64 1)).val < _; omega
        · show bv (a.drop ((I.sub (I.ofNat .i64 (lenL a)) (I.of .i64 1)).val + 1).toNat) = bv (b.drop ((I.sub (I.ofNat .i64 (lenL a)) (I.of .i64 1)).val + 1).toNat)
          have e : ((I.sub (I.ofNat .i64 (lenL a)) (I.of .i64 1)).val + 1).toNat = a.length := by omega
          rw [e, List.drop_of_length_le (Nat.le_refl _), List.drop_of_length_le (by omega)]
      · exact K0_ge _ (by show ((I.sub (I.ofNat .i64 (lenL a)) (I.of .i64 1)).val + 1).toNat < _; omega)
  exact key.out
end Sym

/- The law of the gas price's bounds, of the plain functions. -/
namespace Sym
open Go

def minS (a b : U) : U := if b.val < a.val then b else a

theorem K0_two : ∃ k, K0 = k + 2 := ⟨2 ^ 64 - 2, by rw [K0_eq]⟩

theorem uint256_Min_eq (a b : U) : uint256_Min ((a, [b], ()), ()) = some ((minS a b, ()), ()) := by
  obtain ⟨k, hk⟩ := K0_two
  refine Wp.out (T := fun o => o = some ((minS a b, ()), ())) ?_
  unfold uint256_Min
  rw [hk]
  refine Wp.unroll ?_
  refine Wp.brnT rfl ?_
  refine Wp.brnT rfl ?_
  refine Wp.optF (uint256_Cmp_eq b a) ?_
  unfold cmpS minS
  by_cases h : b.val < a.val
  · rw [if_pos h, if_pos h]
    refine Wp.brnT rfl ?_
    refine Wp.next (Wp.unroll ?_)
    refine Wp.brnF rfl ?_
    exact rfl
  · rw [if_neg h, if_neg h]
    refine Wp.brnF ?_ ?_
    · split <;> rfl
    · refine Wp.next (Wp.unroll ?_)
      refine Wp.brnF rfl ?_
      exact rfl

def gasS (t : U × U) (base : U) : U × I .i64 :=
  if base.val ≤ t.1.val then (U.of (base.val + min t.2.val (t.1.val - base.val)), I.of .i64 0) else (U.of 0, I.of .i64 12)

theorem neb00 : I.neb (I.of .i64 0) (I.of .i64 0) = false := rfl
theorem neb40 : I.neb (I.of .i64 4) (I.of .i64 0) = true := rfl

theorem minS_val (a b : U) : (minS a b).val = min a.val b.val := by
  unfold minS
  split <;> omega

theorem txfee_GasPrice_eq (f1 f2 f3 f5 f8 f9) (v c t base : U) : txfee_GasPrice (((f1, f2, f3, v, f5, c, t, f8, f9, ()), base, ()), ()) = some (((gasS (c, t) base).1, (gasS (c, t) base).2, ()), ()) := by
  refine Wp.out (T := fun o => o = some (((gasS (c, t) base).1, (gasS (c, t) base).2, ()), ())) ?_
  unfold txfee_GasPrice gasS
  refine Wp.optF (uint256_Sub_eq c base) ?_
  unfold subS
  by_cases h : base.val ≤ c.val
  · have hc := c.lt
    rw [if_pos h, if_pos h]
    refine Wp.brnF rfl ?_
    refine Wp.optF (uint256_Min_eq t _) ?_
    refine Wp.optF (uint256_Add_eq base _) ?_
    have e : (minS t (U.of (c.val - base.val))).val = min t.val (c.val - base.val) := by
      rw [minS_val, U.val_of (by omega)]
    have h2 : base.val + min t.val (c.val - base.val) < U.top := by omega
    show _ = _
    dsimp only
    have h3 : addS base (minS t (U.of (c.val - base.val))) = (U.of (base.val + min t.val (c.val - base.val)), I.of .i64 0) := by
      unfold addS
      rw [e, if_pos h2]
    rw [h3]
    rfl
  · rw [if_neg h, if_neg h]
    refine Wp.brnT rfl ?_
    rfl

theorem pontagelaw23_awake_eq : pontagelaw23_awake ((), ()) = some ((true, ()), ()) := by
  refine Wp.out (T := fun o => o = some ((true, ()), ())) ?_
  unfold pontagelaw23_awake
  refine Wp.optF (txfee_GasPrice_eq _ _ _ _ _ _ _ _ _ _) ?_
  refine Wp.optF (txfee_GasPrice_eq _ _ _ _ _ _ _ _ _ _) ?_
  refine Wp.brnT (by kernel_rfl) ?_
  refine Wp.brnT (by kernel_rfl) ?_
  show _ = _
  kernel_rfl

end Sym

/- Equality and order of 256 bits. -/
namespace Sym
open Go

theorem eqb_u256 (a b : U) : Ty.eqb (.arr 4 (.int .u64)) a b = decide (a.val = b.val) := by
  by_cases h : a.val = b.val
  · have := U.ext h
    subst this
    simp [Ty.eqb, Arr.eqb]
  · simp only [h, decide_false]
    cases hb : Ty.eqb (.arr 4 (.int .u64)) a b with
    | false => rfl
    | true =>
      exfalso
      apply h
      obtain ⟨a0, a1, a2, a3, ⟨⟩⟩ := a
      obtain ⟨b0, b1, b2, b3, ⟨⟩⟩ := b
      simp only [Ty.eqb, Arr.eqb, Bool.and_eq_true, decide_eq_true_eq, and_true] at hb
      obtain ⟨h0, h1, h2, h3⟩ := hb
      rw [I.ext' h0, I.ext' h1, I.ext' h2, I.ext' h3]

theorem cmp_le (a b : U) (h : a.val ≤ b.val) : I.leb (cmpS a b) (I.of .i64 0) = true := by
  unfold cmpS
  split
  · rfl
  · rw [if_neg (by omega)]; rfl

theorem cmp_lt (a b : U) (h : a.val < b.val) : I.ltb (cmpS a b) (I.of .i64 0) = true := by
  unfold cmpS
  rw [if_pos h]; rfl

end Sym

/- The law of the charge's total. -/
namespace Sym
open Go

theorem K0_four : ∃ k, K0 = k + 4 := ⟨2 ^ 64 - 4, by rw [K0_eq]⟩

theorem errS_lt {n : Nat} (h : n < U.top) : errS n = (U.of n, I.of .i64 0) := if_pos h
theorem errS_ge {n : Nat} (h : U.top ≤ n) : errS n = (U.of 0, I.of .i64 4) := if_neg (by omega)

theorem add_errS (a b : U) : addS a b = errS (a.val + b.val) := rfl

theorem Add_errS (a b : U) : uint256_Add ((a, b, ()), ()) = some (((errS (a.val + b.val)).1, (errS (a.val + b.val)).2, ()), ()) := uint256_Add_eq a b
theorem Add_errS' {m : Nat} (h : m < U.top) (b : U) : uint256_Add ((U.of m, b, ()), ()) = some (((errS (m + b.val)).1, (errS (m + b.val)).2, ()), ()) := by
  have := Add_errS (U.of m) b
  rw [U.val_of h] at this
  exact this

theorem Total_eq (f1 f2 f3 f4 f5) (t p q r s : U) : txfee_Total (((f1, f2, f3, f4, f5, t, p, q, r, s, ()), ()), ()) = some (((errS (p.val + q.val + r.val + s.val)).1, (errS (p.val + q.val + r.val + s.val)).2, ()), ()) := by
  obtain ⟨k, hk⟩ := K0_four
  refine Wp.out (T := fun o => o = some (((errS (p.val + q.val + r.val + s.val)).1, (errS (p.val + q.val + r.val + s.val)).2, ()), ())) ?_
  unfold txfee_Total
  rw [hk]
  refine Wp.unroll (Wp.brnT rfl (Wp.brnT rfl ?_))
  refine Wp.optF (Add_errS p q) ?_
  by_cases h1 : p.val + q.val < U.top
  · rw [errS_lt h1]
    refine Wp.brnF rfl (Wp.next (Wp.unroll (Wp.brnT rfl (Wp.brnT rfl ?_))))
    refine Wp.optF (Add_errS' h1 r) ?_
    by_cases h2 : p.val + q.val + r.val < U.top
    · rw [errS_lt h2]
      refine Wp.brnF rfl (Wp.next (Wp.unroll (Wp.brnT rfl (Wp.brnT rfl ?_))))
      refine Wp.optF (Add_errS' h2 s) ?_
      by_cases h3 : p.val + q.val + r.val + s.val < U.top
      · rw [errS_lt h3]
        refine Wp.brnF rfl (Wp.next (Wp.unroll (Wp.brnF rfl (Wp.stop rfl))))
      · rw [errS_ge (by omega)]
        exact Wp.brnT rfl (Wp.stop rfl)
    · rw [errS_ge (by omega), errS_ge (by omega)]
      exact Wp.brnT rfl (Wp.stop rfl)
  · rw [errS_ge (by omega), errS_ge (by omega)]
    exact Wp.brnT rfl (Wp.stop rfl)

theorem len_small {l : List Dg} {n : Nat} (h : IsB l n) (k : Nat) (hn : n < 65536 ^ k) (hk : k ≤ 1000000) : l.length ≤ 1000000 := Nat.le_trans (h.len.2 hn) hk
theorem top_pow : U.top = 65536 ^ 16 := by decide
theorem len_U {l : List Dg} {a : U} (h : IsB l a.val) : l.length ≤ 1000000 := len_small h 16 (by rw [← top_pow]; exact a.lt) (by decide)

theorem RefTotal_eq (f1 f2 f3 f4 f5) (t p q r s : U) : pontageref23_Total (((f1, f2, f3, f4, f5, t, p, q, r, s, ()), ()), ()) = some (((errS (p.val + q.val + r.val + s.val)).1, (errS (p.val + q.val + r.val + s.val)).2, ()), ()) := by
  have hp := p.lt
  have hq := q.lt
  have hr := r.lt
  have hs := s.lt
  have hb : 4 * U.top < 65536 ^ 17 := by decide
  refine Wp.out (T := fun o => o = some (((errS (p.val + q.val + r.val + s.val)).1, (errS (p.val + q.val + r.val + s.val)).2, ()), ())) ?_
  unfold pontageref23_Total
  obtain ⟨lp, ep, bp⟩ := FromUint256_ok p
  obtain ⟨lq, eq, bq⟩ := FromUint256_ok q
  obtain ⟨lr, er, br⟩ := FromUint256_ok r
  obtain ⟨ls, es, bs⟩ := FromUint256_ok s
  refine Wp.optF ep (Wp.optF eq ?_)
  obtain ⟨l1, e1, b1⟩ := Add_ok bp bq (len_U bp) (len_U bq)
  refine Wp.optF e1 (Wp.optF er (Wp.optF es ?_))
  obtain ⟨l2, e2, b2⟩ := Add_ok br bs (len_U br) (len_U bs)
  refine Wp.optF e2 ?_
  obtain ⟨l3, e3, b3⟩ := Add_ok b1 b2 (len_small b1 17 (by omega) (by decide)) (len_small b2 17 (by omega) (by decide))
  refine Wp.optF e3 ?_
  have hl := len_small b3 17 (by omega) (by decide)
  refine Wp.optF (Checked_ok' b3 hl) ?_
  show _ = _
  rw [show p.val + q.val + (r.val + s.val) = p.val + q.val + r.val + s.val by omega]
  rfl

theorem eqb_self (a : U) : Ty.eqb (.arr 4 (.int .u64)) a a = true := by rw [eqb_u256]; simp
theorem I.eqb_self {k : IntKind} (a : I k) : I.eqb a a = true := by simp [I.eqb]

theorem sum_law (f1 f2 f3 f4 f5) (t p q r s : U) (b0 b1 b2 b3 : I .u64) : pontagelaw23_TxFeeSum (((f1, f2, f3, f4, f5, t, p, q, r, s, ()), (b0, b1, b2, b3, ()), ()), ()) = some ((true, ()), ()) := by
  refine Wp.out (T := fun o => o = some ((true, ()), ())) ?_
  unfold pontagelaw23_TxFeeSum
  refine Wp.optF (Total_eq _ _ _ _ _ _ _ _ _ _) ?_
  refine Wp.optF (RefTotal_eq _ _ _ _ _ _ _ _ _ _) ?_
  refine Wp.optF (Total_eq _ _ _ _ _ _ _ _ _ _) ?_
  refine Wp.optF (RefTotal_eq _ _ _ _ _ _ _ _ _ _) ?_
  refine Wp.brnT (eqb_self _) (Wp.brnT (I.eqb_self _) (Wp.brnT (eqb_self _) (Wp.brnT (I.eqb_self _) ?_)))
  exact Wp.optF pontagelaw23_awake_eq rfl
end Sym

/- Limbs of 256 bits; products of 64 bits. -/
namespace Sym
open Go

abbrev W64 : Nat := 18446744073709551616

/-- The i-th limb. -/
def limb' (a : U) (i : Nat) : Nat := (Arr.sel (I.of .u64 0) 4 a i).nat

theorem limb_lt (a : U) (i : Nat) : limb' a i < W64 := nat_lt _

theorem limb_mod (a : U) (i : Nat) (h : i < 4) : a.val % W64 ^ (i + 1) = a.val % W64 ^ i + W64 ^ i * limb' a i := by
  obtain ⟨a0, a1, a2, a3, ⟨⟩⟩ := a
  have n0 := nat_lt a0
  have n1 := nat_lt a1
  have n2 := nat_lt a2
  have n3 := nat_lt a3
  have p0 : W64 ^ 0 = 1 := by decide
  have p1 : W64 ^ 1 = 18446744073709551616 := by decide
  have p2 : W64 ^ 2 = 340282366920938463463374607431768211456 := by decide
  have p3 : W64 ^ 3 = 6277101735386680763835789423207666416102355444464034512896 := by decide
  have p4 : W64 ^ 4 = 115792089237316195423570985008687907853269984665640564039457584007913129639936 := by decide
  have hc : i = 0 ∨ i = 1 ∨ i = 2 ∨ i = 3 := by omega
  rcases hc with rfl | rfl | rfl | rfl
  · show U.val _ % W64 ^ 1 = U.val _ % W64 ^ 0 + W64 ^ 0 * a0.nat
    rw [p0, p1]; unfold U.val; simp only; omega
  · show U.val _ % W64 ^ 2 = U.val _ % W64 ^ 1 + W64 ^ 1 * a1.nat
    rw [p1, p2]; unfold U.val; simp only; omega
  · show U.val _ % W64 ^ 3 = U.val _ % W64 ^ 2 + W64 ^ 2 * a2.nat
    rw [p2, p3]; unfold U.val; simp only; omega
  · show U.val _ % W64 ^ 4 = U.val _ % W64 ^ 3 + W64 ^ 3 * a3.nat
    rw [p3, p4]; unfold U.val; simp only; omega

theorem upd_val (a : U) (i : Nat) (z : I .u64) (h : i < 4) : U.val (Arr.upd 4 a i z) + W64 ^ i * limb' a i = a.val + W64 ^ i * z.nat := by
  obtain ⟨a0, a1, a2, a3, ⟨⟩⟩ := a
  have p0 : W64 ^ 0 = 1 := by decide
  have p1 : W64 ^ 1 = 18446744073709551616 := by decide
  have p2 : W64 ^ 2 = 340282366920938463463374607431768211456 := by decide
  have p3 : W64 ^ 3 = 6277101735386680763835789423207666416102355444464034512896 := by decide
  have hc : i = 0 ∨ i = 1 ∨ i = 2 ∨ i = 3 := by omega
  rcases hc with rfl | rfl | rfl | rfl
  · show U.val (z, a1, a2, a3, ()) + W64 ^ 0 * a0.nat = U.val (a0, a1, a2, a3, ()) + W64 ^ 0 * z.nat
    rw [p0]; unfold U.val; simp only; omega
  · show U.val (a0, z, a2, a3, ()) + W64 ^ 1 * a1.nat = U.val (a0, a1, a2, a3, ()) + W64 ^ 1 * z.nat
    rw [p1]; unfold U.val; simp only; omega
  · show U.val (a0, a1, z, a3, ()) + W64 ^ 2 * a2.nat = U.val (a0, a1, a2, a3, ()) + W64 ^ 2 * z.nat
    rw [p2]; unfold U.val; simp only; omega
  · show U.val (a0, a1, a2, z, ()) + W64 ^ 3 * a3.nat = U.val (a0, a1, a2, a3, ()) + W64 ^ 3 * z.nat
    rw [p3]; unfold U.val; simp only; omega

theorem and_low (x : I .u64) (n : Nat) (m : I .u64) (hn : n < 64) (hm : m.val = ((2 ^ n - 1 : Nat) : Int)) : (I.and x m).nat = x.nat % 2 ^ n := by
  have hx := u64_range x
  have h1 : (BitVec.ofInt 64 x.val).toNat = x.nat := by rw [BitVec.toNat_ofInt]; unfold I.nat; omega
  have hp : 2 ^ n ≤ 2 ^ 63 := Nat.pow_le_pow_right (by decide) (by omega)
  have h2 : (BitVec.ofInt 64 m.val).toNat = 2 ^ n - 1 := by rw [BitVec.toNat_ofInt, hm]; omega
  have h3 : (BitVec.ofInt IntKind.u64.bits x.val &&& BitVec.ofInt IntKind.u64.bits m.val).toNat = x.nat % 2 ^ n := by
    show (BitVec.ofInt 64 x.val &&& BitVec.ofInt 64 m.val).toNat = _
    rw [BitVec.toNat_and, h1, h2, Nat.and_two_pow_sub_one_eq_mod]
  unfold I.and
  rw [h3]
  have h4 : x.nat % 2 ^ n < 2 ^ n := Nat.mod_lt _ (Nat.pow_pos (by decide))
  exact of_nat (by omega)

theorem shr_nat (x s : I .u64) (hs : s.nat < 64) : (I.shr x s).nat = x.nat / 2 ^ s.nat := by
  have h0 := u64_range s
  have hx := u64_range x
  have h := shr_u64 x s (by unfold I.nat at hs; omega)
  have e : s.val.toNat = s.nat := rfl
  rw [e] at h
  have h1 : ((x.nat / 2 ^ s.nat : Nat) : Int) = x.val / (2 : Int) ^ s.nat := by
    rw [Int.natCast_ediv, nat_val]
    simp
  have := nat_val (I.shr x s)
  omega

theorem mul_nat (a b : I .u64) : (I.mul a b).nat = a.nat * b.nat % W64 := by
  have h1 := nat_val a
  have h2 := nat_val b
  unfold I.mul
  have : a.val * b.val = ((a.nat * b.nat : Nat) : Int) := by rw [← h1, ← h2, Int.natCast_mul]
  rw [this]
  show (IntKind.u64.wrap _).toNat = _ % 18446744073709551616
  rw [wrap_u64]
  omega
theorem add_nat (a b : I .u64) : (I.add a b).nat = (a.nat + b.nat) % W64 := by
  have h1 := nat_val a
  have h2 := nat_val b
  show (IntKind.u64.wrap (a.val + b.val)).toNat = _ % 18446744073709551616
  rw [wrap_u64]
  omega

theorem Mul64_ok (a b : I .u64) : ∃ hi lo : I .u64, math_bits_Mul64 ((a, b, ()), ()) = some ((hi, lo, ()), ()) ∧ lo.nat + W64 * hi.nat = a.nat * b.nat := by
  refine ⟨_, _, rfl, ?_⟩
  show (I.mul a b).nat + W64 * (I.add (I.add (I.mul (I.shr a (I.of .u64 32)) (I.shr b (I.of .u64 32))) (I.shr (I.add (I.mul (I.shr a (I.of .u64 32)) (I.and b (I.of .u64 4294967295))) (I.shr (I.mul (I.and a (I.of .u64 4294967295)) (I.and b (I.of .u64 4294967295))) (I.of .u64 32))) (I.of .u64 32)))
    (I.shr (I.add (I.and (I.add (I.mul (I.shr a (I.of .u64 32)) (I.and b (I.of .u64 4294967295))) (I.shr (I.mul (I.and a (I.of .u64 4294967295)) (I.and b (I.of .u64 4294967295))) (I.of .u64 32))) (I.of .u64 4294967295)) (I.mul (I.and a (I.of .u64 4294967295)) (I.shr b (I.of .u64 32)))) (I.of .u64 32))).nat = _
  have c32 : (I.of .u64 32).nat = 32 := rfl
  have p32 : 2 ^ 32 = 4294967296 := by decide
  have sh : ∀ x : I .u64, (I.shr x (I.of .u64 32)).nat = x.nat / 4294967296 := fun x => by rw [shr_nat _ _ (by decide), c32, p32]
  have an : ∀ x : I .u64, (I.and x (I.of .u64 4294967295)).nat = x.nat % 4294967296 := fun x => by rw [and_low x 32 _ (by decide) (by decide), p32]
  simp only [mul_nat, add_nat, sh, an]
  have ha := nat_lt a
  have hb := nat_lt b
  have ea : a.nat = 4294967296 * (a.nat / 4294967296) + a.nat % 4294967296 := by omega
  have eb : b.nat = 4294967296 * (b.nat / 4294967296) + b.nat % 4294967296 := by omega
  generalize hA1 : a.nat / 4294967296 = a1 at *
  generalize hA0 : a.nat % 4294967296 = a0 at *
  generalize hB1 : b.nat / 4294967296 = b1 at *
  generalize hB0 : b.nat % 4294967296 = b0 at *
  have la1 : a1 ≤ 4294967295 := by omega
  have la0 : a0 ≤ 4294967295 := by omega
  have lb1 : b1 ≤ 4294967295 := by omega
  have lb0 : b0 ≤ 4294967295 := by omega
  have m11 : a1 * b1 ≤ 4294967295 * 4294967295 := Nat.mul_le_mul la1 lb1
  have m10 : a1 * b0 ≤ 4294967295 * 4294967295 := Nat.mul_le_mul la1 lb0
  have m01 : a0 * b1 ≤ 4294967295 * 4294967295 := Nat.mul_le_mul la0 lb1
  have m00 : a0 * b0 ≤ 4294967295 * 4294967295 := Nat.mul_le_mul la0 lb0
  have prod : a.nat * b.nat = 18446744073709551616 * (a1 * b1) + 4294967296 * (a1 * b0) + 4294967296 * (a0 * b1) + a0 * b0 := by
    rw [ea, eb, Nat.add_mul, Nat.mul_add, Nat.mul_add]
    have e1 : 4294967296 * a1 * (4294967296 * b1) = 18446744073709551616 * (a1 * b1) := by
      rw [Nat.mul_mul_mul_comm]
    have e2 : 4294967296 * a1 * b0 = 4294967296 * (a1 * b0) := Nat.mul_assoc _ _ _
    have e3 : a0 * (4294967296 * b1) = 4294967296 * (a0 * b1) := Nat.mul_left_comm _ _ _
    rw [e1, e2, e3]
    omega
  rw [prod]
  generalize a1 * b1 = p11 at *
  generalize a1 * b0 = p10 at *
  generalize a0 * b1 = p01 at *
  generalize a0 * b0 = p00 at *
  clear ea eb prod ha hb hA1 hA0 hB1 hB0
  unfold W64
  omega
end Sym

/- Products of 256 bits. -/
namespace Sym
open Go

theorem or_zero (x y : I .u64) : I.neb (I.or x y) (I.of .u64 0) = false ↔ x.nat = 0 ∧ y.nat = 0 := by
  rw [niff_neb]
  have c0 : (I.of .u64 0).val = 0 := rfl
  have h1 : (BitVec.ofInt 64 x.val).toNat = x.nat := by have := u64_range x; rw [BitVec.toNat_ofInt]; unfold I.nat; omega
  have h2 : (BitVec.ofInt 64 y.val).toNat = y.nat := by have := u64_range y; rw [BitVec.toNat_ofInt]; unfold I.nat; omega
  have h3 : (BitVec.ofInt IntKind.u64.bits x.val ||| BitVec.ofInt IntKind.u64.bits y.val).toNat = x.nat ||| y.nat := by
    show (BitVec.ofInt 64 x.val ||| BitVec.ofInt 64 y.val).toNat = _
    rw [BitVec.toNat_or, h1, h2]
  have hlt : x.nat ||| y.nat < 2 ^ 64 := Nat.or_lt_two_pow (nat_lt x) (nat_lt y)
  have h4 : (I.or x y).val = ((x.nat ||| y.nat : Nat) : Int) := by
    unfold I.or
    rw [h3]
    exact of_u64 ⟨by omega, by omega⟩
  rw [h4, c0]
  constructor
  · intro h
    have : x.nat ||| y.nat = 0 := by omega
    exact Nat.or_eq_zero_iff.1 this
  · rintro ⟨h5, h6⟩
    rw [h5, h6]; rfl

theorem limb_le (a : U) (i : Nat) (h : i < 4) : W64 ^ i * limb' a i ≤ a.val := by
  have h1 := limb_mod a i h
  have h2 := Nat.mod_le a.val (W64 ^ (i + 1))
  rw [h1] at h2
  exact Nat.le_trans (Nat.le_add_left _ _) h2

theorem over_prod {a b : U} {i k : Nat} (hi : i < 4) (hk : k < 4) (h : 3 < i + k) (hp : limb' a i * limb' b k ≠ 0) : U.top ≤ a.val * b.val := by
  have h1 := Nat.mul_le_mul (limb_le a i hi) (limb_le b k hk)
  rw [Nat.mul_mul_mul_comm, ← Nat.pow_add] at h1
  have h2 : U.top = W64 ^ 4 := by decide
  have h3 : W64 ^ 4 ≤ W64 ^ (i + k) := Nat.pow_le_pow_right (by decide) (by omega)
  have h4 : W64 ^ (i + k) * 1 ≤ W64 ^ (i + k) * (limb' a i * limb' b k) := Nat.mul_le_mul_left _ (by omega)
  omega

theorem mod_mul_le (a b : U) (n : Nat) : (a.val % n) * b.val ≤ a.val * b.val := Nat.mul_le_mul_right _ (Nat.mod_le _ _)

theorem top_W : W64 ^ 4 = U.top := by decide

/-- One round of the inner loop, of numbers. -/
theorem mul_round {P c L B M i k hi lo z1 q1 z2 q2 p c' P' bk : Nat} (inv : P + c * W64 ^ (i + k) = M + L * W64 ^ i * B) (h1 : lo + W64 * hi = L * bk) (h2 : z1 + W64 * q1 = lo + c) (h3 : z2 + W64 * q2 = p + z1)
    (hc : c' = hi + q1 + q2) (hP : P' + W64 ^ (i + k) * p = P + W64 ^ (i + k) * z2) : P' + c' * W64 ^ (i + k + 1) = M + L * W64 ^ i * (B + W64 ^ k * bk) := by
  have e1 : L * W64 ^ i * (B + W64 ^ k * bk) = L * W64 ^ i * B + W64 ^ (i + k) * (L * bk) := by
    rw [Nat.mul_add, Nat.pow_add]
    congr 1
    simp only [Nat.mul_comm, Nat.mul_left_comm, Nat.mul_assoc]
  have e2 : c' * W64 ^ (i + k + 1) = W64 ^ (i + k) * (W64 * c') := by
    rw [Nat.pow_succ]
    simp only [Nat.mul_comm, Nat.mul_left_comm, Nat.mul_assoc]
  have e3 : W64 * c' = L * bk + c + p - z2 ∧ z2 ≤ L * bk + c + p := by
    subst hc
    unfold W64 at *
    omega
  have e4 : W64 * c' + z2 = L * bk + c + p := by omega
  have e5 := congrArg (fun t => W64 ^ (i + k) * t) e4
  simp only [Nat.mul_add] at e5
  have e6 : c * W64 ^ (i + k) = W64 ^ (i + k) * c := Nat.mul_comm _ _
  rw [e1, e2]
  omega

theorem Mul_ok (a b : U) : uint256_Mul ((a, b, ()), ()) = some (((errS (a.val * b.val)).1, (errS (a.val * b.val)).2, ()), ()) := by
  have c0 : (I.of .i64 0).val = 0 := rfl
  have c1 : (I.of .i64 1).val = 1 := rfl
  have c3 : (I.of .i64 3).val = 3 := rfl
  have c4 : (I.of .i64 4).val = 4 := rfl
  have over : U.top ≤ a.val * b.val → some (((I.of .u64 0, I.of .u64 0, I.of .u64 0, I.of .u64 0, ()), I.of .i64 4, ()), ()) = some (((errS (a.val * b.val)).1, (errS (a.val * b.val)).2, ()), ()) := by
    intro h
    rw [show errS (a.val * b.val) = (U.of 0, I.of .i64 4) from if_neg (by omega)]
    rfl
  have key : Wp (fun o => o = some (((errS (a.val * b.val)).1, (errS (a.val * b.val)).2, ()), ())) (uint256_Mul ((a, b, ()), ())) := by
    unfold uint256_Mul
    refine Wp.iter (fun x => 0 ≤ x.1.1.val ∧ x.1.1.val ≤ 4 ∧ x.2.1 = a ∧ x.2.2.1 = b ∧ U.val x.2.2.2.2.1 = (a.val % W64 ^ x.1.1.val.toNat) * b.val) (fun x => (4 - x.1.1.val).toNat) ?_ ?_ ?_
    · rintro ⟨⟨i, ⟨⟩⟩, a', b', r0, p0, ⟨⟩⟩ ⟨hi0, hi1, e1, e2, hp⟩
      simp only at hi0 hi1 e1 e2 hp
      subst e1 e2
      refine Wp.brn (fun h => ?_) (fun h => ?_)
      · have hlt := iff_ltb.1 h
        simp only [c4] at hlt
        clear h
        have si : (I.add i (I.of .i64 1)).val = i.val + 1 := by rw [add_i64 (by omega)]; omega
        have sin : (I.add i (I.of .i64 1)).val.toNat = i.val.toNat + 1 := by omega
        have ini : inB i 4 = true := iff_inB.2 ⟨hi0, by omega⟩
        refine Wp.iter (fun x => x.1.1 = i ∧ x.1.2.2.1 = i ∧ 0 ≤ x.1.2.2.2.1.val ∧ x.1.2.2.2.1.val ≤ 4 ∧ x.2.1 = a' ∧ x.2.2.1 = b' ∧
          U.val x.2.2.2.2.1 + I.nat (k := .u64) x.1.2.1 * W64 ^ (min (i.val.toNat + x.1.2.2.2.1.val.toNat) 4) = (U.val a' % W64 ^ i.val.toNat) * U.val b' + limb' a' i.val.toNat * W64 ^ i.val.toNat * (U.val b' % W64 ^ x.1.2.2.2.1.val.toNat)) (fun x => (4 - x.1.2.2.2.1.val).toNat) ?_ ?_ ?_
        · rintro ⟨⟨i2, c, i1, k, ⟨⟩⟩, a1, b1, r1, p, ⟨⟩⟩ ⟨e1, e2, hk0, hk1, e3, e4, hinv⟩
          simp only at e1 e2 hk0 hk1 e3 e4 hinv
          subst e1 e2 e3 e4
          refine Wp.brn (fun h => ?_) (fun h => ?_)
          · have hkl := iff_ltb.1 h
            simp only [c4] at hkl
            clear h
            have sk : (I.add k (I.of .i64 1)).val = k.val + 1 := by rw [add_i64 (by omega)]; omega
            have skn : (I.add k (I.of .i64 1)).val.toNat = k.val.toNat + 1 := by omega
            have sik : (I.add i1 k).val = i1.val + k.val := add_i64 (by omega)
            have hm : (4 - (I.add k (I.of .i64 1)).val).toNat < (4 - k.val).toNat := by omega
            have bmod := limb_mod b1 k.val.toNat (by omega)
            refine Wp.brnT ini (Wp.brnT (iff_inB.2 ⟨hk0, by show k.val < ((4 : Nat) : Int); omega⟩) ?_)
            obtain ⟨hi, lo, hmul, hprod⟩ := Mul64_ok (Arr.sel (I.of .u64 0) 4 a1 (I.nat i1)) (Arr.sel (I.of .u64 0) 4 b1 (I.nat k))
            have hprod : lo.nat + W64 * hi.nat = limb' a1 i1.val.toNat * limb' b1 k.val.toNat := hprod
            refine Wp.optF hmul ?_
            refine Wp.brn (fun h => ?_) (fun h => ?_)
            · have h := iff_ltb.1 h
              have h : (I.of .i64 3).val < (I.add i1 k).val := h
              refine Wp.brn (fun h2 => ?_) (fun h2 => ?_)
              · refine Wp.done (Wp.done (over ?_))
                refine over_prod (i := i1.val.toNat) (k := k.val.toNat) (by omega) (by omega) (by omega) ?_
                intro hz
                have h3 : hi.nat = 0 ∧ lo.nat = 0 := by rw [hz] at hprod; unfold W64 at hprod; omega
                have := (or_zero hi lo).2 h3
                exact absurd (h2.symm.trans this) (by decide)
              · have h3 := (or_zero hi lo).1 h2
                have hz : limb' a1 i1.val.toNat * limb' b1 k.val.toNat = 0 := by rw [← hprod, h3.1, h3.2, Nat.mul_zero]
                refine Wp.again ⟨rfl, rfl, ?_, ?_, rfl, rfl, ?_⟩ hm
                · show 0 ≤ (I.add k (I.of .i64 1)).val; omega
                · show (I.add k (I.of .i64 1)).val ≤ 4; omega
                · show U.val p + c.nat * W64 ^ (min (i1.val.toNat + (I.add k (I.of .i64 1)).val.toNat) 4) = _ + _ * (U.val b1 % W64 ^ (I.add k (I.of .i64 1)).val.toNat)
                  rw [skn, bmod, Nat.mul_add]
                  have e1 : limb' a1 i1.val.toNat * W64 ^ i1.val.toNat * (W64 ^ k.val.toNat * limb' b1 k.val.toNat) = 0 := by
                    have : limb' a1 i1.val.toNat * W64 ^ i1.val.toNat * (W64 ^ k.val.toNat * limb' b1 k.val.toNat) = W64 ^ i1.val.toNat * W64 ^ k.val.toNat * (limb' a1 i1.val.toNat * limb' b1 k.val.toNat) := by simp only [Nat.mul_comm, Nat.mul_left_comm, Nat.mul_assoc]
                    rw [this, hz, Nat.mul_zero]
                  rw [Nat.min_eq_right (by omega)] at hinv
                  rw [e1, Nat.min_eq_right (by omega)]
                  exact hinv
            · have h := niff_ltb.1 h
              have h : (I.add i1 k).val ≤ (I.of .i64 3).val := h
              have inik : inB (I.add i1 k) 4 = true := iff_inB.2 ⟨by omega, by omega⟩
              obtain ⟨z1, q1, ha1, hs1, hq1⟩ := add64_nat lo c (I.of .u64 0) (by decide)
              refine Wp.optF ha1 ?_
              refine Wp.brnT inik ?_
              obtain ⟨z2, q2, ha2, hs2, hq2⟩ := add64_nat (Arr.sel (I.of .u64 0) 4 p (I.nat (I.add i1 k))) z1 (I.of .u64 0) (by decide)
              refine Wp.optF ha2 ?_
              refine Wp.brnT inik ?_
              have z0 : (I.of .u64 0).nat = 0 := rfl
              have en : I.nat (I.add i1 k) = i1.val.toNat + k.val.toNat := by unfold I.nat; omega
              have hup := upd_val p (i1.val.toNat + k.val.toNat) z2 (by omega)
              have hs2' : z2.nat + W64 * q2.nat = limb' p (i1.val.toNat + k.val.toNat) + z1.nat := by
                have : (Arr.sel (I.of .u64 0) 4 p (I.nat (I.add i1 k))).nat = limb' p (i1.val.toNat + k.val.toNat) := by rw [en]; rfl
                unfold W64
                omega
              have hcv : (I.add (I.add hi q1) q2).nat = hi.nat + q1.nat + q2.nat := by
                have l1 := limb_lt a1 i1.val.toNat
                have l2 := limb_lt b1 k.val.toNat
                have l3 := limb_lt p (i1.val.toNat + k.val.toNat)
                have l4 := nat_lt c
                have l5 : limb' a1 i1.val.toNat * limb' b1 k.val.toNat ≤ (W64 - 1) * (W64 - 1) := Nat.mul_le_mul (by omega) (by omega)
                rw [add_nat, add_nat]
                unfold W64 at *
                omega
              refine Wp.again ⟨rfl, rfl, ?_, ?_, rfl, rfl, ?_⟩ hm
              · show 0 ≤ (I.add k (I.of .i64 1)).val; omega
              · show (I.add k (I.of .i64 1)).val ≤ 4; omega
              · show U.val (Arr.upd 4 p (I.nat (I.add i1 k)) z2) + (I.add (I.add hi q1) q2).nat * W64 ^ (min (i1.val.toNat + (I.add k (I.of .i64 1)).val.toNat) 4) = _ + _ * (U.val b1 % W64 ^ (I.add k (I.of .i64 1)).val.toNat)
                rw [skn, bmod, en, Nat.min_eq_left (by omega)]
                rw [Nat.min_eq_left (by omega)] at hinv
                exact mul_round hinv hprod (by unfold W64; omega) hs2' hcv hup
          · have h := niff_ltb.1 h
            simp only [c4] at h
            have hk : k.val.toNat = 4 := by omega
            rw [hk, Nat.min_eq_right (by omega), top_W, Nat.mod_eq_of_lt (U.lt b1)] at hinv
            have amod := limb_mod a1 i1.val.toNat (by omega)
            have hA : U.val p + c.nat * U.top = (U.val a1 % W64 ^ (i1.val.toNat + 1)) * U.val b1 := by
              rw [hinv, amod, Nat.add_mul]
              congr 1
              simp only [Nat.mul_comm, Nat.mul_left_comm, Nat.mul_assoc]
            refine Wp.done ?_
            refine Wp.brn (fun h2 => ?_) (fun h2 => ?_)
            · refine Wp.done (over ?_)
              have h2 := iff_neb.1 h2
              have h2 : c.val ≠ (I.of .u64 0).val := h2
              have z0 : (I.of .u64 0).val = 0 := rfl
              have hc1 : 1 ≤ c.nat := by have := nat_val c; omega
              have h3 := mod_mul_le a1 b1 (W64 ^ (i1.val.toNat + 1))
              have h4 : 1 * U.top ≤ c.nat * U.top := Nat.mul_le_mul_right _ hc1
              omega
            · have h2 := niff_neb.1 h2
              have h2 : c.val = (I.of .u64 0).val := h2
              have z0 : (I.of .u64 0).val = 0 := rfl
              have hc1 : c.nat = 0 := by have := nat_val c; omega
              rw [hc1, Nat.zero_mul, Nat.add_zero] at hA
              refine Wp.again ⟨?_, ?_, rfl, rfl, ?_⟩ ?_
              · show 0 ≤ (I.add i1 (I.of .i64 1)).val; omega
              · show (I.add i1 (I.of .i64 1)).val ≤ 4; omega
              · show U.val p = U.val a1 % W64 ^ (I.add i1 (I.of .i64 1)).val.toNat * U.val b1
                rw [sin]; exact hA
              · show (4 - (I.add i1 (I.of .i64 1)).val).toNat < (4 - i1.val).toNat
                omega
        · refine ⟨rfl, rfl, by show 0 ≤ (I.of .i64 0).val; decide, by show (I.of .i64 0).val ≤ 4; decide, rfl, rfl, ?_⟩
          show U.val p0 + (I.of .u64 0).nat * _ = _ + _ * (U.val b' % W64 ^ (I.of .i64 0).val.toNat)
          have e1 : (I.of .u64 0).nat = 0 := rfl
          have e2 : (I.of .i64 0).val.toNat = 0 := rfl
          rw [e1, e2, Nat.zero_mul, Nat.pow_zero, Nat.mod_one, Nat.mul_zero, hp]
        · exact K0_ge _ (by show (4 - (I.of .i64 0).val).toNat < _; decide)
      · have h := niff_ltb.1 h
        simp only [c4] at h
        have hi : i.val.toNat = 4 := by omega
        rw [hi, top_W, Nat.mod_eq_of_lt (U.lt a')] at hp
        refine Wp.done ?_
        show some ((p0, I.of .i64 0, ()), ()) = _
        have hlt : U.val a' * U.val b' < U.top := by rw [← hp]; exact U.lt p0
        rw [show errS (U.val a' * U.val b') = (U.of (U.val a' * U.val b'), I.of .i64 0) from if_pos hlt]
        have hU : p0 = U.of (U.val a' * U.val b') := by
          have := U.of_val p0
          rw [hp] at this
          exact this.symm
        exact congrArg (fun z : U => some ((z, I.of .i64 0, ()), ())) hU
    · refine ⟨by show 0 ≤ (I.of .i64 0).val; decide, by show (I.of .i64 0).val ≤ 4; decide, rfl, rfl, ?_⟩
      show U.val (I.of .u64 0, I.of .u64 0, I.of .u64 0, I.of .u64 0, ()) = (a.val % W64 ^ (I.of .i64 0).val.toNat) * b.val
      have e2 : (I.of .i64 0).val.toNat = 0 := rfl
      rw [e2, Nat.pow_zero, Nat.mod_one, Nat.zero_mul]
      rfl
    · exact K0_ge _ (by show (4 - (I.of .i64 0).val).toNat < _; decide)
  exact key.out
end Sym

/- Quotients of 512 by 256 bits. -/
namespace Sym
open Go

theorem u256_FromUint64 (x : I .u64) : uint256_FromUint64 ((x, ()), ()) = some ((u64U x, ()), ()) := rfl

theorem SatSub_ok (a b : U) : uint256_SaturatingSub ((a, b, ()), ()) = some ((U.of (a.val - b.val), ()), ()) := by
  refine Wp.out (T := fun o => o = _) ?_
  unfold uint256_SaturatingSub
  refine Wp.optF (uint256_Sub_eq a b) ?_
  unfold subS
  by_cases h : b.val ≤ a.val
  · rw [if_pos h]; rfl
  · rw [if_neg h, show a.val - b.val = 0 by omega]; rfl

theorem or_add (x y : I .u64) (n : Nat) (hy : y.nat < 2 ^ n) (hx : x.nat % 2 ^ n = 0) : (I.or x y).nat = x.nat + y.nat := by
  have h1 : (BitVec.ofInt 64 x.val).toNat = x.nat := by have := u64_range x; rw [BitVec.toNat_ofInt]; unfold I.nat; omega
  have h2 : (BitVec.ofInt 64 y.val).toNat = y.nat := by have := u64_range y; rw [BitVec.toNat_ofInt]; unfold I.nat; omega
  have h3 : (BitVec.ofInt IntKind.u64.bits x.val ||| BitVec.ofInt IntKind.u64.bits y.val).toNat = x.nat ||| y.nat := by
    show (BitVec.ofInt 64 x.val ||| BitVec.ofInt 64 y.val).toNat = _
    rw [BitVec.toNat_or, h1, h2]
  have hlt : x.nat ||| y.nat < 2 ^ 64 := Nat.or_lt_two_pow (nat_lt x) (nat_lt y)
  have h4 : x.nat ||| y.nat = x.nat + y.nat := by
    have e : x.nat = (x.nat / 2 ^ n) <<< n := by
      rw [Nat.shiftLeft_eq]
      have := Nat.div_add_mod x.nat (2 ^ n)
      rw [hx, Nat.add_zero, Nat.mul_comm] at this
      exact this.symm
    rw [e]
    exact (Nat.shiftLeft_add_eq_or_of_lt hy _).symm
  unfold I.or
  rw [h3, of_nat (by omega), h4]

theorem shl1_nat (x : I .u64) : (I.shl x (I.of .u64 1)).nat = 2 * x.nat % W64 := by
  have h1 := nat_val x
  have hm : min (I.of .u64 1).val.toNat IntKind.u64.bits = 1 := rfl
  unfold I.shl
  rw [hm]
  show (IntKind.u64.wrap (x.val * 2 ^ 1)).toNat = _ % 18446744073709551616
  rw [wrap_u64]
  have : (2 : Int) ^ 1 = 2 := by decide
  rw [this]
  omega

theorem shr63_nat (x : I .u64) : (I.shr x (I.of .u64 63)).nat = x.nat / 9223372036854775808 := by
  have c : (I.of .u64 63).nat = 63 := rfl
  rw [shr_nat _ _ (by decide), c]

theorem K0_four' : ∃ k, K0 = k + 4 := ⟨2 ^ 64 - 4, by rw [K0_eq]⟩

theorem sh_limb (x y : I .u64) : (I.or (I.shl x (I.of .u64 1)) (I.shr y (I.of .u64 63))).nat = 2 * x.nat % W64 + y.nat / 9223372036854775808 := by
  have hy := nat_lt y
  rw [or_add _ _ 1 (by rw [shr63_nat]; omega) (by rw [shl1_nat]; unfold W64; omega), shl1_nat, shr63_nat]

/-- Twice a number, and a bit. -/
theorem shiftLeft_ok (a : U) (bit : I .u64) (hb : bit.nat ≤ 1) : ∃ (r : U) (o : I .u64), muldiv_shiftLeft ((a, bit, ()), ()) = some ((r, o, ()), ()) ∧ r.val + U.top * o.nat = 2 * a.val + bit.nat := by
  obtain ⟨k, hk⟩ := K0_four'
  obtain ⟨a0, a1, a2, a3, ⟨⟩⟩ := a
  refine ⟨(I.or (I.shl a0 (I.of .u64 1)) bit, I.or (I.shl a1 (I.of .u64 1)) (I.shr a0 (I.of .u64 63)), I.or (I.shl a2 (I.of .u64 1)) (I.shr a1 (I.of .u64 63)), I.or (I.shl a3 (I.of .u64 1)) (I.shr a2 (I.of .u64 63)), ()), I.shr a3 (I.of .u64 63), ?_, ?_⟩
  · refine Wp.out (T := fun o => o = _) ?_
    unfold muldiv_shiftLeft
    rw [hk]
    refine Wp.unroll (Wp.brnT rfl (Wp.brnT rfl (Wp.brnT rfl (Wp.brnT rfl (Wp.next ?_)))))
    refine Wp.unroll (Wp.brnT rfl (Wp.brnT rfl (Wp.brnT rfl (Wp.brnT rfl (Wp.next ?_)))))
    refine Wp.unroll (Wp.brnT rfl (Wp.brnT rfl (Wp.brnT rfl (Wp.brnT rfl (Wp.next ?_)))))
    refine Wp.unroll (Wp.brnF rfl (Wp.stop rfl))
  · have n0 := nat_lt a0
    have n1 := nat_lt a1
    have n2 := nat_lt a2
    have n3 := nat_lt a3
    unfold U.val U.top
    simp only
    rw [sh_limb, sh_limb, sh_limb, shr63_nat, or_add _ _ 1 (by omega) (by rw [shl1_nat]; unfold W64; omega), shl1_nat]
    unfold W64
    omega
end Sym

/- Tables of posters: which are valid, where one stands. -/
namespace Sym
open Go

/-- Five limbs. -/
abbrev A5 : Type := (I .u64) × U
def val5 (s : A5) : Nat := s.1.nat + 18446744073709551616 * U.val s.2

theorem val5_ext {s t : A5} (h : val5 s = val5 t) : s = t := by
  unfold val5 at h
  have h1 := nat_lt s.1
  have h2 := nat_lt t.1
  have h3 : s.1.nat = t.1.nat := by omega
  have h4 : U.val s.2 = U.val t.2 := by omega
  have h5 : s.1 = t.1 := by rw [← nat_of s.1, ← nat_of t.1, h3]
  exact Prod.ext h5 (U.ext h4)

theorem K0_five : ∃ k, K0 = k + 5 := ⟨2 ^ 64 - 5, by rw [K0_eq]⟩

/-- a + b, without overflow. -/
theorem poster_sum_ok (a b : U) : ∃ y, poster_sum ((a, (b, ())), ()) = some y ∧ ∃ s : A5, y = ((s, ()), ()) ∧ val5 s = a.val + b.val := by
  obtain ⟨a0, a1, a2, a3, ⟨⟩⟩ := a
  obtain ⟨b0, b1, b2, b3, ⟨⟩⟩ := b
  refine Wp.out (T := fun o => ∃ y, o = some y ∧ ∃ s : A5, y = ((s, ()), ()) ∧ val5 s = U.val (a0, a1, a2, a3, ()) + U.val (b0, b1, b2, b3, ())) ?_
  unfold poster_sum
  obtain ⟨k, hk⟩ := K0_five
  rw [hk]
  have step : ∀ (x y c : I .u64), c.nat ≤ 1 → ∃ r, add64F ((x, (y, (c, ()))), ()) = some r ∧ ∃ z q : I .u64, r = ((z, (q, ())), ()) ∧ z.nat + 18446744073709551616 * q.nat = x.nat + y.nat + c.nat ∧ q.nat ≤ 1 := fun x y c hc => by
    obtain ⟨z, q, h1, h2, h3⟩ := add64_nat x y c hc
    exact ⟨_, h1, z, q, rfl, h2, h3⟩
  refine Wp.unroll (Wp.brnT rfl (Wp.brnT rfl (Wp.brnT rfl ?_)))
  refine Wp.call (step a0 b0 (I.of .u64 0) (by decide)) ?_
  rintro _ ⟨z0, q0, rfl, e0, l0⟩
  refine Wp.brnT rfl (Wp.next ?_)
  refine Wp.unroll (Wp.brnT rfl (Wp.brnT rfl (Wp.brnT rfl ?_)))
  refine Wp.call (step a1 b1 q0 l0) ?_
  rintro _ ⟨z1, q1, rfl, e1, l1⟩
  refine Wp.brnT rfl (Wp.next ?_)
  refine Wp.unroll (Wp.brnT rfl (Wp.brnT rfl (Wp.brnT rfl ?_)))
  refine Wp.call (step a2 b2 q1 l1) ?_
  rintro _ ⟨z2, q2, rfl, e2, l2⟩
  refine Wp.brnT rfl (Wp.next ?_)
  refine Wp.unroll (Wp.brnT rfl (Wp.brnT rfl (Wp.brnT rfl ?_)))
  refine Wp.call (step a3 b3 q2 l2) ?_
  rintro _ ⟨z3, q3, rfl, e3, l3⟩
  refine Wp.brnT rfl (Wp.next ?_)
  refine Wp.unroll (Wp.brnF rfl (Wp.stop ?_))
  refine ⟨_, rfl, (z0, (z1, z2, z3, q3, ())), rfl, ?_⟩
  have h0 : (I.of .u64 0).nat = 0 := rfl
  rw [h0] at e0
  simp only [val5, U.val]
  omega

abbrev Post.costs (p : Post) : U := p.2.2.1
abbrev Post.rewards (p : Post) : U := p.2.2.2.1
abbrev Post.paid (p : Post) : U := p.2.2.2.2.1

/-- Is an entry well formed by itself? -/
def EntryOk (p : Post) : Prop := (Post.addr p).val ≠ 0 ∧ (Post.due p).val + (Post.paid p).val = (Post.costs p).val + (Post.rewards p).val ∧ ((Post.since p).val = 0 ↔ (Post.due p).val = 0)

/-- Is a table well formed? -/
def TableOk (l : List Post) : Prop := l.length ≤ 64 ∧ ∀ i, i < l.length → EntryOk (rdL dP l i) ∧ (0 < i → (Post.addr (rdL dP l (i - 1))).val < (Post.addr (rdL dP l i)).val)

open Classical in
noncomputable def tabB (l : List Post) : Bool := decide (TableOk l)
open Classical in
theorem tabB_t {l : List Post} : tabB l = true ↔ TableOk l := by unfold tabB; exact decide_eq_true_iff
open Classical in
theorem tabB_f {l : List Post} : tabB l = false ↔ ¬ TableOk l := by unfold tabB; exact decide_eq_false_iff_not

theorem eqb_zU (a : U) : Ty.eqb (.arr 4 (.int .u64)) a Z_U = decide (a.val = 0) := by
  rw [eqb_u256]
  rw [show U.val Z_U = 0 from rfl]
theorem poster_isZero_eq (a : U) : poster_isZero ((a, ()), ()) = some ((decide (a.val = 0), ()), ()) := by
  show some _ = _
  rw [show Ty.eqb (.arr 4 (.int .u64)) ((a, ()), ()).1.1 Z_U = decide (a.val = 0) from eqb_zU a]
  rfl
theorem RIsZero_eq (a : U) : pontageref1_IsZero ((a, ()), ()) = some ((decide (a.val = 0), ()), ()) := by
  show some _ = _
  rw [show Ty.eqb (.arr 4 (.int .u64)) ((a, ()), ()).1.1 ((I.of .u64 0), ((I.of .u64 0), ((I.of .u64 0), ((I.of .u64 0), ())))) = decide (a.val = 0) from eqb_zU a]
  rfl

theorem eqbB_iff (a b : Bool) : Ty.eqb .bool a b = true ↔ a = b := eqb_iff .bool rfl a b

/-- The reference's look at one entry. -/
theorem ValidPoster_eq (p : Post) : ∃ y, pontageref16_ValidPoster ((p, ()), ()) = some y ∧ ∃ b : Bool, y = ((b, ()), ()) ∧ (b = true ↔ EntryOk p) := by
  obtain ⟨ad, due, costs, rewards, paid, since, ⟨⟩⟩ := p
  refine Wp.out (T := fun o => ∃ y, o = some y ∧ ∃ b : Bool, y = ((b, ()), ()) ∧ (b = true ↔ EntryOk (ad, due, costs, rewards, paid, since, ()))) ?_
  unfold pontageref16_ValidPoster
  have E : EntryOk (ad, due, costs, rewards, paid, since, ()) ↔ (ad.val ≠ 0 ∧ due.val + paid.val = costs.val + rewards.val ∧ (since.val = 0 ↔ due.val = 0)) := Iff.rfl
  have from_ : ∀ a : U, ∃ y, pontageref1_FromUint256 ((a, ()), ()) = some y ∧ ∃ r, y = ((r, ()), ()) ∧ IsB r a.val := fun a => by
    obtain ⟨r, h1, h2⟩ := FromUint256_ok a
    exact ⟨_, h1, r, rfl, h2⟩
  refine Wp.call (from_ due) ?_
  rintro _ ⟨d, rfl, hd⟩
  refine Wp.call (from_ paid) ?_
  rintro _ ⟨q, rfl, hq⟩
  obtain ⟨r1, g1, k1⟩ := Add_ok hd hq (len_U hd) (len_U hq)
  refine Wp.optF g1 ?_
  refine Wp.call (from_ costs) ?_
  rintro _ ⟨c, rfl, hc⟩
  refine Wp.call (from_ rewards) ?_
  rintro _ ⟨w, rfl, hw⟩
  obtain ⟨r2, g2, k2⟩ := Add_ok hc hw (len_U hc) (len_U hw)
  refine Wp.optF g2 ?_
  have t1 := due.lt
  have t2 := paid.lt
  have t3 := costs.lt
  have t4 := rewards.lt
  have hp : U.top + U.top ≤ 65536 ^ 17 := by decide
  refine Wp.brn (fun h => ?_) (fun h => ?_)
  · have h : ad.val ≠ 0 := by have := iff_neb.1 h; exact this
    refine Wp.optF (Cmp_ok k1 k2 (len_small k1 17 (by omega) (by decide)) (len_small k2 17 (by omega) (by decide))) ?_
    refine Wp.brn (fun h2 => ?_) (fun h2 => ?_)
    · have h2 : due.val + paid.val = costs.val + rewards.val := by
        have h2 := iff_eqb.1 h2
        revert h2
        show (cmpN _ _).val = (0 : Int) → _
        unfold cmpN
        split
        · intro h; exact absurd h (by decide)
        · split
          · intro h; exact absurd h (by decide)
          · intro _; omega
      refine Wp.optF (RIsZero_eq due) ?_
      refine ⟨_, rfl, _, rfl, ?_⟩
      rw [E]
      refine (eqbB_iff _ _).trans ?_
      constructor
      · intro hb
        have hb : I.eqb since (I.of .u64 0) = decide (due.val = 0) := hb
        refine ⟨h, h2, ?_⟩
        constructor
        · intro h0
          have : I.eqb since (I.of .u64 0) = true := iff_eqb.2 h0
          exact of_decide_eq_true (hb.symm.trans this)
        · intro h0
          have : I.eqb since (I.of .u64 0) = true := hb.trans (decide_eq_true h0)
          exact iff_eqb.1 this
      · rintro ⟨_, _, h3⟩
        by_cases h0 : due.val = 0
        · exact (iff_eqb.2 (h3.2 h0)).trans (decide_eq_true h0).symm
        · exact (niff_eqb.2 (fun e => h0 (h3.1 e))).trans (decide_eq_false h0).symm
    · have h2 : due.val + paid.val ≠ costs.val + rewards.val := by
        intro e
        refine (niff_eqb.1 h2) ?_
        show (cmpN _ _).val = (0 : Int)
        unfold cmpN
        rw [if_neg (by omega), if_neg (by omega)]
        rfl
      exact ⟨_, rfl, false, rfl, by rw [E]; simp [h2]⟩
  · have h : ad.val = 0 := niff_neb.1 h
    exact ⟨_, rfl, false, rfl, by rw [E]; simp [h]⟩
end Sym

/- Tables of posters: both programs' Valid and Find. -/
namespace Sym
open Go

/-- The first i entries are well formed. -/
def TabTo (l : List Post) (i : Nat) : Prop := ∀ k, k < i → EntryOk (rdL dP l k) ∧ (0 < k → (Post.addr (rdL dP l (k - 1))).val < (Post.addr (rdL dP l k)).val)

theorem TabTo.succ {l : List Post} {i : Nat} (h : TabTo l i) (h1 : EntryOk (rdL dP l i)) (h2 : 0 < i → (Post.addr (rdL dP l (i - 1))).val < (Post.addr (rdL dP l i)).val) : TabTo l (i + 1) := by
  intro k hk
  rcases (by omega : k < i ∨ k = i) with h3 | rfl
  · exact h k h3
  · exact ⟨h1, h2⟩

theorem not_tab {l : List Post} {i : Nat} (hi : i < l.length) (h : ¬ (EntryOk (rdL dP l i) ∧ (0 < i → (Post.addr (rdL dP l (i - 1))).val < (Post.addr (rdL dP l i)).val))) : tabB l = false := tabB_f.2 fun ht => h (ht.2 i hi)

theorem RValid_eq {l : List Post} (hl : l.length ≤ 1073741824) : pontageref16_Valid ((l, ()), ()) = some ((tabB l, ()), ()) := by
  refine Wp.out (T := fun o => o = some ((tabB l, ()), ())) ?_
  unfold pontageref16_Valid
  simp only [lenL_eq, i6_ofNat, of64_0, of64_1]
  refine Wp.brn (fun hc => ?_) (fun hc => ?_)
  · have hc := iff_ltb.1 hc
    rw [i6_val (by omega), show (I.of .i64 64).val = 64 from rfl] at hc
    have : tabB l = false := tabB_f.2 fun ht => by have := ht.1; omega
    rw [this]
    rfl
  · have hc := niff_ltb.1 hc
    rw [i6_val (by omega), show (I.of .i64 64).val = 64 from rfl] at hc
    have h64 : l.length ≤ 64 := by omega
    refine Wp.iter (fun s => ∃ i, s = ((l, (i6 i, ())), ()) ∧ i ≤ l.length ∧ TabTo l i) (fun s => l.length - s.1.2.1.val.toNat) ?_ ⟨0, rfl, by omega, fun k hk => by omega⟩ ?_
    · rintro s ⟨i, rfl, hi, ht⟩
      simp only [i6_ltb (show i < 9223372036854775808 by omega) (show l.length < 9223372036854775808 by omega), i6_ltb (show 0 < 9223372036854775808 by omega) (show i < 9223372036854775808 by omega), i6_nat (show i < 9223372036854775808 by omega), i6_add (show i + 1 < 9223372036854775808 by omega)]
      refine Wp.brn (fun hc => ?_) (fun hc => ?_)
      · have hc := of_decide_eq_true hc
        have hm : l.length - (i6 (i + 1)).val.toNat < l.length - (i6 i).val.toNat := by rw [i6_val (by omega), i6_val (by omega)]; omega
        have bi : inB (i6 i) l.length = true := i6_inB (by omega) (by omega)
        refine Wp.brnT bi ?_
        refine Wp.call (ValidPoster_eq _) ?_
        rintro _ ⟨b, rfl, hb⟩
        refine Wp.brn (fun h => ?_) (fun h => ?_)
        · have hbf : b = false := by cases b with | false => rfl | true => exact absurd h (by decide)
          refine Wp.done ?_
          rw [not_tab hc fun h2 => by have := hb.2 h2.1; rw [hbf] at this; cases this]
          rfl
        · have hbt : b = true := by cases b with | true => rfl | false => exact absurd h (by decide)
          have hE := hb.1 hbt
          refine Wp.brn (fun h0 => ?_) (fun h0 => ?_)
          · have h0 := of_decide_eq_true h0
            simp only [i6_sub (show i < 9223372036854775808 by omega) (show 1 ≤ i by omega), i6_nat (show i - 1 < 9223372036854775808 by omega)]
            refine Wp.brnT bi (Wp.brnT (i6_inB (by omega) (by omega)) ?_)
            refine Wp.brn (fun hl => ?_) (fun hl => ?_)
            · have hl := iff_leb.1 hl
              refine Wp.done ?_
              rw [not_tab hc fun h2 => by have := h2.2 h0; exact absurd this (Int.not_lt.2 hl)]
              rfl
            · have hl := niff_leb.1 hl
              exact Wp.again ⟨i + 1, rfl, by omega, ht.succ hE fun _ => hl⟩ hm
          · have h0 := of_decide_eq_false h0
            exact Wp.again ⟨i + 1, rfl, by omega, ht.succ hE fun h => by omega⟩ hm
      · have hc := of_decide_eq_false hc
        refine Wp.done ?_
        rw [tabB_t.2 ⟨h64, fun k hk => ht k (by omega)⟩]
        rfl
    · rw [K0_eq]
      show l.length - _ < _
      omega

theorem PValid_eq {l : List Post} (hl : l.length ≤ 1073741824) : poster_Valid ((l, ()), ()) = some ((tabB l, ()), ()) := by
  refine Wp.out (T := fun o => o = some ((tabB l, ()), ())) ?_
  unfold poster_Valid
  simp only [lenL_eq, i6_ofNat, of64_0, of64_1]
  refine Wp.iter (fun s => ∃ i, s = ((l, (l, (i6 l.length, (i6 i, ())))), ()) ∧ i ≤ l.length ∧ TabTo l i) (fun s => l.length - s.1.2.2.2.1.val.toNat) ?_ ⟨0, rfl, by omega, fun k hk => by omega⟩ ?_
  · rintro s ⟨i, rfl, hi, ht⟩
    simp only [i6_ltb (show i < 9223372036854775808 by omega) (show l.length < 9223372036854775808 by omega), i6_ltb (show 0 < 9223372036854775808 by omega) (show i < 9223372036854775808 by omega), i6_nat (show i < 9223372036854775808 by omega), i6_add (show i + 1 < 9223372036854775808 by omega)]
    refine Wp.brn (fun hc => ?_) (fun hc => ?_)
    · have hc := of_decide_eq_true hc
      have hm : l.length - (i6 (i + 1)).val.toNat < l.length - (i6 i).val.toNat := by rw [i6_val (by omega), i6_val (by omega)]; omega
      have bi : inB (i6 i) l.length = true := i6_inB (by omega) (by omega)
      refine Wp.brnT bi ?_
      have hEq : EntryOk (rdL dP l i) ↔ ((Post.addr (rdL dP l i)).val ≠ 0 ∧ (Post.due (rdL dP l i)).val + (Post.paid (rdL dP l i)).val = (Post.costs (rdL dP l i)).val + (Post.rewards (rdL dP l i)).val ∧ ((Post.since (rdL dP l i)).val = 0 ↔ (Post.due (rdL dP l i)).val = 0)) := Iff.rfl
      refine Wp.jn (fun s => ∃ b1 b2 b3 n, s = ((l, (l, (i6 l.length, (i6 i, (n, (b1, (b2, (b3, ())))))))), (rdL dP l i, ())) ∧ (Post.addr (rdL dP l i)).val ≠ 0 ∧ (0 < i → (Post.addr (rdL dP l (i - 1))).val < (Post.addr (rdL dP l i)).val)) ?_ ?_
      · rintro s ⟨b1, b2, b3, n, rfl, ha, hlt⟩
        refine Wp.call (poster_sum_ok _ _) ?_
        rintro _ ⟨s1, rfl, e1⟩
        refine Wp.call (poster_sum_ok _ _) ?_
        rintro _ ⟨s2, rfl, e2⟩
        have e1 : val5 s1 = (Post.due (rdL dP l i)).val + (Post.paid (rdL dP l i)).val := e1
        have e2 : val5 s2 = (Post.costs (rdL dP l i)).val + (Post.rewards (rdL dP l i)).val := e2
        have hs : Ty.eqb (.arr 5 (.int .u64)) s1 s2 = true ↔ s1 = s2 := eqb_iff (.arr 5 (.int .u64)) rfl s1 s2
        refine Wp.brn (fun h => ?_) (fun h => ?_)
        · have h : ¬ s1 = s2 := fun e => by
            have e3 := hs.2 e
            have : bnot (Ty.eqb (.arr 5 (.int .u64)) s1 s2) = true := h
            rw [e3] at this
            cases this
          refine Wp.done ?_
          rw [not_tab hc fun h2 => h (val5_ext (by rw [e1, e2]; exact (hEq.1 h2.1).2.1))]
          rfl
        · have h : s1 = s2 := hs.1 (by
            have : bnot (Ty.eqb (.arr 5 (.int .u64)) s1 s2) = false := h
            revert this
            cases Ty.eqb (.arr 5 (.int .u64)) s1 s2 <;> simp [bnot])
          have h5 : (Post.due (rdL dP l i)).val + (Post.paid (rdL dP l i)).val = (Post.costs (rdL dP l i)).val + (Post.rewards (rdL dP l i)).val := by rw [← e1, ← e2, h]
          refine Wp.optF (poster_isZero_eq _) ?_
          have hz : Ty.eqb .bool (I.eqb (Post.since (rdL dP l i)) (I.of .u64 0)) (decide ((Post.due (rdL dP l i)).val = 0)) = true ↔ ((Post.since (rdL dP l i)).val = 0 ↔ (Post.due (rdL dP l i)).val = 0) := by
            rw [eqbB_iff]
            constructor
            · intro hb
              constructor
              · intro h0
                exact of_decide_eq_true (hb.symm.trans (iff_eqb.2 h0))
              · intro h0
                exact iff_eqb.1 (hb.trans (decide_eq_true h0))
            · intro h3
              by_cases h0 : (Post.due (rdL dP l i)).val = 0
              · exact (iff_eqb.2 (h3.2 h0)).trans (decide_eq_true h0).symm
              · exact (niff_eqb.2 (fun e => h0 (h3.1 e))).trans (decide_eq_false h0).symm
          refine Wp.brn (fun h => ?_) (fun h => ?_)
          · refine Wp.done ?_
            rw [not_tab hc fun h2 => by
              have e3 := hz.2 (hEq.1 h2.1).2.2
              have : bnot (Ty.eqb .bool (I.eqb (Post.since (rdL dP l i)) (I.of .u64 0)) (decide ((Post.due (rdL dP l i)).val = 0))) = true := h
              rw [e3] at this
              cases this]
            rfl
          · have h6 := hz.1 (by
              have : bnot (Ty.eqb .bool (I.eqb (Post.since (rdL dP l i)) (I.of .u64 0)) (decide ((Post.due (rdL dP l i)).val = 0))) = false := h
              revert this
              cases Ty.eqb .bool (I.eqb (Post.since (rdL dP l i)) (I.of .u64 0)) (decide ((Post.due (rdL dP l i)).val = 0)) <;> simp [bnot])
            simp only [i6_add (show i + 1 < 9223372036854775808 by omega)]
            exact Wp.again ⟨i + 1, rfl, by omega, ht.succ (hEq.2 ⟨ha, h5, h6⟩) hlt⟩ hm
      · intro j hj
        refine Wp.brn (fun h => ?_) (fun h => ?_)
        · have h := iff_eqb.1 h
          refine Wp.done ?_
          rw [not_tab hc fun h2 => (hEq.1 h2.1).1 h]
          rfl
        · have ha := niff_eqb.1 h
          refine Wp.brn (fun h0 => ?_) (fun h0 => ?_)
          · have h0 := of_decide_eq_true h0
            simp only [i6_sub (show i < 9223372036854775808 by omega) (show 1 ≤ i by omega), i6_nat (show i - 1 < 9223372036854775808 by omega)]
            refine Wp.brnT (i6_inB (by omega) (by omega)) ?_
            refine Wp.brn (fun hl => ?_) (fun hl => ?_)
            · have hl := iff_leb.1 hl
              refine Wp.done ?_
              rw [not_tab hc fun h2 => by have := h2.2 h0; exact absurd this (Int.not_lt.2 hl)]
              rfl
            · have hl := niff_leb.1 hl
              exact hj _ ⟨_, _, _, _, rfl, ha, fun _ => hl⟩
          · have h0 := of_decide_eq_false h0
            exact hj _ ⟨_, _, _, _, rfl, ha, fun h => by omega⟩
    · have hc := of_decide_eq_false hc
      refine Wp.done ?_
      have e : I.leb (i6 l.length) (I.of .i64 64) = tabB l := by
        by_cases h64 : l.length ≤ 64
        · rw [tabB_t.2 ⟨h64, fun k hk => ht k (by omega)⟩]
          exact iff_leb.2 (by rw [i6_val (by omega), show (I.of .i64 64).val = 64 from rfl]; omega)
        · rw [tabB_f.2 fun h => h64 h.1]
          exact niff_leb.2 (by rw [i6_val (by omega), show (I.of .i64 64).val = 64 from rfl]; omega)
      rw [← e]
      rfl
  · rw [K0_eq]
    show l.length - _ < _
    omega

/-- Where the first entry with this address stands. -/
def atN (l : List Post) (a : I .u64) : Nat := l.findIdx fun p => I.eqb (Post.addr p) a
def atI (l : List Post) (a : I .u64) : I .i64 := if atN l a < l.length then i6 (atN l a) else I.of .i64 (-1)

theorem atN_of {l : List Post} {a : I .u64} {i : Nat} (hi : i < l.length) (h1 : I.eqb (Post.addr (rdL dP l i)) a = true) (h2 : ∀ k, k < i → I.eqb (Post.addr (rdL dP l k)) a = false) : atN l a = i := by
  unfold atN
  rw [List.findIdx_eq hi]
  refine ⟨by rw [← rdL_eq dP l i hi]; exact h1, fun k hk => ?_⟩
  rw [← rdL_eq dP l k (by omega)]
  exact h2 k hk
theorem atN_none {l : List Post} {a : I .u64} (h2 : ∀ k, k < l.length → I.eqb (Post.addr (rdL dP l k)) a = false) : atN l a = l.length := by
  unfold atN
  rw [List.findIdx_eq_length]
  intro x hx
  obtain ⟨k, hk, rfl⟩ := mem_rdL dP hx
  exact h2 k hk

theorem RFind_eq {l : List Post} (a : I .u64) (hl : l.length ≤ 1073741824) : pontageref16_Find ((l, (a, ())), ()) = some ((atI l a, ()), ()) := by
  refine Wp.out (T := fun o => o = some ((atI l a, ()), ())) ?_
  unfold pontageref16_Find
  simp only [lenL_eq, i6_ofNat, of64_0, of64_1]
  refine Wp.iter (fun s => ∃ i, s = ((l, (a, (i6 i, ()))), ()) ∧ i ≤ l.length ∧ ∀ k, k < i → I.eqb (Post.addr (rdL dP l k)) a = false) (fun s => l.length - s.1.2.2.1.val.toNat) ?_ ⟨0, rfl, by omega, fun k hk => by omega⟩ ?_
  · rintro s ⟨i, rfl, hi, ht⟩
    simp only [i6_ltb (show i < 9223372036854775808 by omega) (show l.length < 9223372036854775808 by omega), i6_nat (show i < 9223372036854775808 by omega), i6_add (show i + 1 < 9223372036854775808 by omega)]
    refine Wp.brn (fun hc => ?_) (fun hc => ?_)
    · have hc := of_decide_eq_true hc
      refine Wp.brnT (i6_inB (by omega) (by omega)) ?_
      refine Wp.brn (fun h => ?_) (fun h => ?_)
      · refine Wp.done ?_
        have e := atN_of hc h ht
        unfold atI
        rw [e, if_pos hc]
        rfl
      · refine Wp.again ⟨i + 1, rfl, by omega, fun k hk => ?_⟩ (by show l.length - (i6 (i + 1)).val.toNat < l.length - (i6 i).val.toNat; rw [i6_val (by omega), i6_val (by omega)]; omega)
        rcases (by omega : k < i ∨ k = i) with h3 | rfl
        · exact ht k h3
        · exact h
    · have hc := of_decide_eq_false hc
      refine Wp.done ?_
      have e := atN_none fun k hk => ht k (by omega)
      unfold atI
      rw [if_neg (by omega)]
      rfl
  · rw [K0_eq]
    show l.length - _ < _
    omega

theorem PFind_eq {l : List Post} (a : I .u64) (hl : l.length ≤ 1073741824) : poster_Find ((l, (a, ())), ()) = some ((atI l a, ()), ()) := by
  refine Wp.out (T := fun o => o = some ((atI l a, ()), ())) ?_
  unfold poster_Find
  simp only [lenL_eq, i6_ofNat, of64_0, of64_1]
  refine Wp.iter (fun s => ∃ i, s = ((l, (((), ()), (i6 l.length, (i6 i, ())))), (a, ())) ∧ i ≤ l.length ∧ ∀ k, k < i → I.eqb (Post.addr (rdL dP l k)) a = false) (fun s => l.length - s.1.2.2.2.1.val.toNat) ?_ ⟨0, rfl, by omega, fun k hk => by omega⟩ ?_
  · rintro s ⟨i, rfl, hi, ht⟩
    simp only [i6_ltb (show i < 9223372036854775808 by omega) (show l.length < 9223372036854775808 by omega), i6_nat (show i < 9223372036854775808 by omega), i6_add (show i + 1 < 9223372036854775808 by omega)]
    refine Wp.brn (fun hc => ?_) (fun hc => ?_)
    · have hc := of_decide_eq_true hc
      refine Wp.brnT (i6_inB (by omega) (by omega)) ?_
      refine Wp.brn (fun h => ?_) (fun h => ?_)
      · refine Wp.done ?_
        have e := atN_of hc h ht
        unfold atI
        rw [e, if_pos hc]
        rfl
      · refine Wp.again ⟨i + 1, rfl, by omega, fun k hk => ?_⟩ (by show l.length - (i6 (i + 1)).val.toNat < l.length - (i6 i).val.toNat; rw [i6_val (by omega), i6_val (by omega)]; omega)
        rcases (by omega : k < i ∨ k = i) with h3 | rfl
        · exact ht k h3
        · exact h
    · have hc := of_decide_eq_false hc
      refine Wp.done ?_
      have e := atN_none fun k hk => ht k (by omega)
      unfold atI
      rw [if_neg (by omega)]
      rfl
  · rw [K0_eq]
    show l.length - _ < _
    omega
end Sym

/- Tables of posters: Settle, sums. -/
namespace Sym
open Go

theorem from_ok (a : U) : ∃ y, pontageref1_FromUint256 ((a, ()), ()) = some y ∧ ∃ r, y = ((r, ()), ()) ∧ IsB r a.val := by
  obtain ⟨r, h1, h2⟩ := FromUint256_ok a
  exact ⟨_, h1, r, rfl, h2⟩

theorem RAdd256_eq (a b : U) : pontageref1_Add256 ((a, (b, ())), ()) = some (((errS (a.val + b.val)).1, ((errS (a.val + b.val)).2, ())), ()) := by
  refine Wp.out (T := fun o => o = _) ?_
  unfold pontageref1_Add256
  refine Wp.call (from_ok a) ?_
  rintro _ ⟨x, rfl, hx⟩
  refine Wp.call (from_ok b) ?_
  rintro _ ⟨y, rfl, hy⟩
  obtain ⟨r, g, k⟩ := Add_ok hx hy (len_U hx) (len_U hy)
  refine Wp.optF g ?_
  have t1 := a.lt
  have t2 := b.lt
  have hp : U.top + U.top ≤ 65536 ^ 17 := by decide
  refine Wp.optF (Checked_ok' k (len_small k 17 (by omega) (by decide))) ?_
  rfl

theorem RSub256_eq (a b : U) : pontageref1_Sub256 ((a, (b, ())), ()) = some (((subS a b).1, ((subS a b).2, ())), ()) := by
  refine Wp.out (T := fun o => o = _) ?_
  unfold pontageref1_Sub256
  refine Wp.call (from_ok a) ?_
  rintro _ ⟨x, rfl, hx⟩
  refine Wp.call (from_ok b) ?_
  rintro _ ⟨y, rfl, hy⟩
  refine Wp.optF (Cmp_ok hx hy (len_U hx) (len_U hy)) ?_
  have hc : I.ltb (cmpN a.val b.val) (I.of .i64 0) = decide (a.val < b.val) := by
    unfold cmpN
    by_cases h : a.val < b.val
    · rw [if_pos h, decide_eq_true h]; rfl
    · rw [if_neg h, decide_eq_false h]
      split <;> rfl
  refine Wp.brn (fun h => ?_) (fun h => ?_)
  · have h : a.val < b.val := of_decide_eq_true (hc.symm.trans h)
    unfold subS
    rw [if_neg (by omega)]
    rfl
  · have h : ¬ a.val < b.val := of_decide_eq_false (hc.symm.trans h)
    obtain ⟨r, g, k⟩ := Sub_ok hx hy (by omega) (len_U hx)
    refine Wp.optF g ?_
    refine Wp.optF (ToUint256_ok k (by have := a.lt; omega)) ?_
    unfold subS
    rw [if_pos (by omega)]
    rfl

/-- An entry behind a payment. -/
noncomputable def settled (p : Post) (n : U) : Post :=
  (p.addr, (U.of (p.due.val - n.val), (p.costs, (p.rewards, (U.of (p.paid.val + n.val), ((if p.due.val - n.val = 0 then I.of .u64 0 else p.since), ()))))))

noncomputable def settleS (l : List Post) (a : I .u64) (n : U) : List Post × I .i64 :=
  if tabB l = true then
    if atN l a < l.length then
      if n.val ≤ (Post.due (rdL dP l (atN l a))).val then
        if (Post.paid (rdL dP l (atN l a))).val + n.val < U.top then (setAt l (atN l a) (settled (rdL dP l (atN l a)) n), I.of .i64 0)
        else ([], I.of .i64 4)
      else ([], I.of .i64 10)
    else ([], I.of .i64 8)
  else ([], I.of .i64 2)

theorem atI_neg {l : List Post} {a : I .u64} (hl : l.length ≤ 1073741824) : I.ltb (atI l a) (I.of .i64 0) = decide (¬ atN l a < l.length) := by
  unfold atI
  by_cases h : atN l a < l.length
  · rw [if_pos h, decide_eq_false (by simpa using h)]
    exact niff_ltb.2 (by rw [i6_val (by omega)]; show (0 : Int) ≤ _; omega)
  · rw [if_neg h, decide_eq_true h]
    rfl

theorem setAt_setAt {X : Type} (l : List X) (i : Nat) (v w : X) : setAt (setAt l i v) i w = setAt l i w := by simp [setAt_eq]

theorem Clone_ok (l : List Post) (hl : l.length ≤ 1073741824) : slices_Clone___api_Poster_api_Poster_ ((l, ()), ()) = some ((), (l, ())) := by
  refine Wp.out (T := fun o => o = _) ?_
  unfold slices_Clone___api_Poster_api_Poster_
  refine Wp.brn (fun h => ?_) (fun h => ?_)
  · have h : l.length = 0 := by
      have : emptyN l.length = true := h
      exact Nat.eq_of_beq_eq_true this
    have := List.eq_nil_of_length_eq_zero h
    subst this
    show both _ _ _ = _
    have hb : brn (fitsLen (lenL (appL ([] : List Post) []))) (some ((), (appL ([] : List Post) [], ()))) none = some ((), (([] : List Post), ())) := rfl
    exact both_eq rfl
  · exact Wp.brnT (fits_le (by show ([] ++ l).length ≤ _; simpa using hl)) rfl

/-- Settle, both. -/
theorem PSettle_eq (l : List Post) (a : I .u64) (n : U) (hl : l.length ≤ 1073741824) : poster_Settle ((l, (a, (n, ()))), ()) = some (((settleS l a n).1, ((settleS l a n).2, ())), ()) := by
  refine Wp.out (T := fun o => o = _) ?_
  unfold poster_Settle
  refine Wp.optF (PFind_eq a hl) (Wp.optF (PValid_eq hl) ?_)
  unfold settleS
  refine Wp.brn (fun h => ?_) (fun h => ?_)
  · have h : tabB l = false := by have : bnot (tabB l) = true := h; revert this; cases tabB l <;> simp [bnot]
    rw [if_neg (by rw [h]; simp)]
    rfl
  · have h : tabB l = true := by have : bnot (tabB l) = false := h; revert this; cases tabB l <;> simp [bnot]
    rw [if_pos h]
    refine Wp.brn (fun h => ?_) (fun h => ?_)
    · have h := of_decide_eq_true ((atI_neg hl).symm.trans h)
      rw [if_neg h]
      rfl
    · have h := of_decide_eq_false ((atI_neg hl).symm.trans h)
      have h : atN l a < l.length := by simpa using h
      rw [if_pos h]
      have e : atI l a = i6 (atN l a) := if_pos h
      simp only [e, i6_nat (show atN l a < 9223372036854775808 by omega)]
      have bi : inB (i6 (atN l a)) l.length = true := i6_inB h (by omega)
      refine Wp.brnT bi ?_
      refine Wp.optF (uint256_Sub_eq _ _) ?_
      generalize rdL dP l (atN l a) = p
      by_cases hd : n.val ≤ (Post.due p).val
      · rw [if_pos hd]
        have es : subS (Post.due p) n = (U.of ((Post.due p).val - n.val), I.of .i64 0) := if_pos hd
        rw [es]
        refine Wp.brnF rfl ?_
        refine Wp.optF (Add_errS _ _) ?_
        by_cases hp : (Post.paid p).val + n.val < U.top
        · rw [if_pos hp]
          rw [errS_lt hp]
          refine Wp.brnF rfl ?_
          refine Wp.jn (fun s => s = ((l, (i6 (atN l a), ())), (settled p n, ()))) ?_ ?_
          · rintro s rfl
            refine Wp.optF (Clone_ok l hl) ?_
            simp only [i6_nat (show atN l a < 9223372036854775808 by omega)]
            exact Wp.brnT bi rfl
          · intro j hj
            refine Wp.optF (poster_isZero_eq _) ?_
            have hv : (U.of ((Post.due p).val - n.val)).val = (Post.due p).val - n.val := U.val_of (by have := U.lt (Post.due p); omega)
            refine Wp.brn (fun hz => ?_) (fun hz => ?_)
            · have hz := of_decide_eq_true hz
              have hz : (Post.due p).val - n.val = 0 := hv.symm.trans hz
              refine hj _ ?_
              unfold settled
              rw [if_pos hz]
            · have hz := of_decide_eq_false hz
              have hz : ¬ (Post.due p).val - n.val = 0 := fun e => hz (hv.trans e)
              refine hj _ ?_
              unfold settled
              rw [if_neg hz]
        · rw [if_neg hp]
          have e4 : errS ((Post.paid p).val + n.val) = (U.of 0, I.of .i64 4) := errS_ge (Nat.le_of_not_lt hp)
          rw [show errS (U.val p.2.2.2.2.1 + n.val) = (U.of 0, I.of .i64 4) from e4]
          exact Wp.brnT rfl rfl
      · rw [if_neg hd]
        have es : subS (Post.due p) n = (U.of 0, I.of .i64 4) := if_neg hd
        rw [es]
        exact Wp.brnT rfl rfl

theorem RSettle_eq (l : List Post) (a : I .u64) (n : U) (hl : l.length ≤ 1073741824) : pontageref16_Settle ((l, (a, (n, ()))), ()) = some (((settleS l a n).1, ((settleS l a n).2, ())), ()) := by
  refine Wp.out (T := fun o => o = _) ?_
  unfold pontageref16_Settle
  refine Wp.optF (RValid_eq hl) ?_
  unfold settleS
  refine Wp.brn (fun h => ?_) (fun h => ?_)
  · have h : tabB l = false := by have : bnot (tabB l) = true := h; revert this; cases tabB l <;> simp [bnot]
    rw [if_neg (by rw [h]; simp)]
    rfl
  · have h : tabB l = true := by have : bnot (tabB l) = false := h; revert this; cases tabB l <;> simp [bnot]
    rw [if_pos h]
    refine Wp.optF (RFind_eq a hl) ?_
    refine Wp.brn (fun h => ?_) (fun h => ?_)
    · have h := of_decide_eq_true ((atI_neg hl).symm.trans h)
      rw [if_neg h]
      rfl
    · have h := of_decide_eq_false ((atI_neg hl).symm.trans h)
      have h : atN l a < l.length := by simpa using h
      rw [if_pos h]
      have e : atI l a = i6 (atN l a) := if_pos h
      have en : appL ([] : List Post) l = l := rfl
      simp only [e, i6_nat (show atN l a < 9223372036854775808 by omega), setAt_setAt, rdL_set, en]
      have bi : inB (i6 (atN l a)) l.length = true := i6_inB h (by omega)
      refine Wp.brnT (fits_le hl) (Wp.brnT bi ?_)
      refine Wp.optF (RSub256_eq _ _) ?_
      simp only [true_and, h, if_true]
      generalize rdL dP l (atN l a) = p
      by_cases hd : n.val ≤ (Post.due p).val
      · rw [if_pos hd]
        have es : subS (Post.due p) n = (U.of ((Post.due p).val - n.val), I.of .i64 0) := if_pos hd
        rw [es]
        refine Wp.brnF rfl ?_
        refine Wp.optF (RAdd256_eq _ _) ?_
        by_cases hp : (Post.paid p).val + n.val < U.top
        · rw [if_pos hp]
          rw [errS_lt hp]
          refine Wp.brnF rfl ?_
          refine Wp.optF (RIsZero_eq _) ?_
          have hv : (U.of ((Post.due p).val - n.val)).val = (Post.due p).val - n.val := U.val_of (by have := U.lt (Post.due p); omega)
          refine Wp.brn (fun hz => ?_) (fun hz => ?_)
          · have hz := of_decide_eq_true hz
            have hz : (Post.due p).val - n.val = 0 := hv.symm.trans hz
            unfold settled
            rw [if_pos hz]
            rfl
          · have hz := of_decide_eq_false hz
            have hz : ¬ (Post.due p).val - n.val = 0 := fun e => hz (hv.trans e)
            unfold settled
            rw [if_neg hz]
            rfl
        · rw [if_neg hp]
          have e4 : errS ((Post.paid p).val + n.val) = (U.of 0, I.of .i64 4) := errS_ge (Nat.le_of_not_lt hp)
          rw [show errS (U.val p.2.2.2.2.1 + n.val) = (U.of 0, I.of .i64 4) from e4]
          exact Wp.brnT rfl rfl
      · rw [if_neg hd]
        have es : subS (Post.due p) n = (U.of 0, I.of .i64 4) := if_neg hd
        rw [es]
        exact Wp.brnT rfl rfl
end Sym

/- Payments: sums, both programs' plans. -/
namespace Sym
open Go

abbrev Pay : Type := S_api_Payment
noncomputable abbrev dY : Pay := Z_S_api_Payment

theorem zU_of : Z_U = U.of 0 := by apply U.ext; rfl

def sumN (l : List Nat) : Nat := l.foldr (· + ·) 0
theorem sumN_app (l m : List Nat) : sumN (l ++ m) = sumN l + sumN m := by
  induction l with
  | nil => simp [sumN]
  | cons x l ih => simp only [sumN, List.cons_append, List.foldr_cons] at *; omega
theorem sumN_take {X : Type} (d : X) (f : X → Nat) {l : List X} {i : Nat} (h : i < l.length) : sumN ((l.take (i + 1)).map f) = sumN ((l.take i).map f) + f (rdL d l i) := by
  rw [List.take_succ_eq_append_getElem h, List.map_append, sumN_app, ← rdL_eq d l i h]
  simp [sumN]
theorem sumN_le {X : Type} (f : X → Nat) (l : List X) (i : Nat) : sumN ((l.take i).map f) ≤ sumN (l.map f) := by
  have : sumN (l.map f) = sumN ((l.take i).map f) + sumN ((l.drop i).map f) := by
    rw [← sumN_app, ← List.map_append, List.take_append_drop]
  omega
theorem sumN_bound {X : Type} (f : X → Nat) (B : Nat) (hB : ∀ x, f x < B) : ∀ l : List X, sumN (l.map f) ≤ l.length * B
  | [] => by simp [sumN]
  | x :: l => by
    have := sumN_bound f B hB l
    have := hB x
    simp only [sumN, List.map_cons, List.foldr_cons, List.length_cons, Nat.succ_mul] at *
    omega

def amt (q : Pay) : Nat := U.val q.2.1

theorem PSum_eq {l : List Pay} (hl : l.length ≤ 1073741824) : payout_Sum ((l, ()), ()) = some (((errS (sumN (l.map amt))).1, ((errS (sumN (l.map amt))).2, ())), ()) := by
  refine Wp.out (T := fun o => o = _) ?_
  unfold payout_Sum
  simp only [lenL_eq, i6_ofNat, of64_0, of64_1]
  refine Wp.iter (fun s => ∃ i, s = ((l, (i6 l.length, (i6 i, ()))), (Z_U, (U.of (sumN ((l.take i).map amt)), ()))) ∧ i ≤ l.length ∧ sumN ((l.take i).map amt) < U.top) (fun s => l.length - s.1.2.2.1.val.toNat) ?_ ⟨0, by rw [zU_of]; rfl, by omega, by show (0 : Nat) < _; decide⟩ ?_
  · rintro s ⟨i, rfl, hi, ht⟩
    simp only [i6_ltb (show i < 9223372036854775808 by omega) (show l.length < 9223372036854775808 by omega), i6_nat (show i < 9223372036854775808 by omega), i6_add (show i + 1 < 9223372036854775808 by omega)]
    refine Wp.brn (fun hc => ?_) (fun hc => ?_)
    · have hc := of_decide_eq_true hc
      refine Wp.brnT (i6_inB (by omega) (by omega)) ?_
      refine Wp.optF (Add_errS' ht _) ?_
      have hs := sumN_take dY amt hc
      have hs' : sumN ((l.take i).map amt) + U.val (rdL Z_S_api_Payment l i).2.1 = sumN ((l.take (i + 1)).map amt) := hs.symm
      rw [hs']
      by_cases h : sumN ((l.take (i + 1)).map amt) < U.top
      · rw [errS_lt h]
        refine Wp.brnF rfl ?_
        exact Wp.again ⟨i + 1, rfl, by omega, h⟩ (by show l.length - (i6 (i + 1)).val.toNat < l.length - (i6 i).val.toNat; rw [i6_val (by omega), i6_val (by omega)]; omega)
      · have h2 := sumN_le amt l (i + 1)
        rw [errS_ge (n := sumN ((l.take (i + 1)).map amt)) (by omega), errS_ge (n := sumN (l.map amt)) (by omega), zU_of]
        exact Wp.brnT rfl (Wp.done rfl)
    · have hc := of_decide_eq_false hc
      rw [List.take_of_length_le (by omega)] at ht ⊢
      rw [errS_lt ht]
      exact Wp.done rfl
  · rw [K0_eq]
    show l.length - _ < _
    omega

theorem amt_lt (q : Pay) : amt q < U.top := U.lt _

theorem RSum_eq {l : List Pay} (hl : l.length ≤ 1073741824) : pontageref20_Sum ((l, ()), ()) = some (((errS (sumN (l.map amt))).1, ((errS (sumN (l.map amt))).2, ())), ()) := by
  refine Wp.out (T := fun o => o = _) ?_
  unfold pontageref20_Sum
  simp only [lenL_eq, i6_ofNat, of64_0, of64_1]
  have hb : ∀ i, sumN ((l.take i).map amt) < 65536 ^ 19 := fun i => by
    have h1 := sumN_le amt l i
    have h2 := sumN_bound amt U.top amt_lt l
    have h3 : l.length * U.top ≤ 1073741824 * U.top := Nat.mul_le_mul_right _ hl
    have h4 : 1073741824 * U.top < 65536 ^ 19 := by decide
    omega
  refine Wp.iter (fun s => ∃ i r, s = ((l, (r, (i6 i, ()))), (Z_U, ())) ∧ i ≤ l.length ∧ IsB r (sumN ((l.take i).map amt))) (fun s => l.length - s.1.2.2.1.val.toNat) ?_ ⟨0, [], rfl, by omega, isB_nil⟩ ?_
  · rintro s ⟨i, r, rfl, hi, hr⟩
    simp only [i6_ltb (show i < 9223372036854775808 by omega) (show l.length < 9223372036854775808 by omega), i6_nat (show i < 9223372036854775808 by omega), i6_add (show i + 1 < 9223372036854775808 by omega)]
    refine Wp.brn (fun hc => ?_) (fun hc => ?_)
    · have hc := of_decide_eq_true hc
      refine Wp.brnT (i6_inB (by omega) (by omega)) ?_
      refine Wp.call (from_ok _) ?_
      rintro _ ⟨x, rfl, hx⟩
      obtain ⟨z, g, k⟩ := Add_ok hr hx (len_small hr 19 (hb i) (by decide)) (len_U hx)
      refine Wp.optF g ?_
      refine Wp.again ⟨i + 1, z, rfl, by omega, ?_⟩ (by show l.length - (i6 (i + 1)).val.toNat < l.length - (i6 i).val.toNat; rw [i6_val (by omega), i6_val (by omega)]; omega)
      rw [sumN_take dY amt hc]
      exact k
    · have hc := of_decide_eq_false hc
      have hbl := hb l.length
      rw [List.take_of_length_le (by omega)] at hr hbl
      refine Wp.done (Wp.optF (Checked_ok' hr (len_small hr 19 hbl (by decide))) ?_)
      rfl
  · rw [K0_eq]
    show l.length - _ < _
    omega

def dueN (p : Post) : Nat := U.val p.due

theorem TotalDue_eq {l : List Post} (hl : l.length ≤ 1073741824) : poster_TotalDue ((l, ()), ()) = if tabB l = true then some (((errS (sumN (l.map dueN))).1, ((errS (sumN (l.map dueN))).2, ())), ()) else some ((Z_U, (I.of .i64 2, ())), ()) := by
  refine Wp.out (T := fun o => o = _) ?_
  unfold poster_TotalDue
  simp only [lenL_eq, i6_ofNat, of64_0, of64_1]
  refine Wp.optF (PValid_eq hl) ?_
  refine Wp.brn (fun h => ?_) (fun h => ?_)
  · have h : tabB l = false := by have : bnot (tabB l) = true := h; revert this; cases tabB l <;> simp [bnot]
    rw [if_neg (by rw [h]; simp)]
    rfl
  · have h : tabB l = true := by have : bnot (tabB l) = false := h; revert this; cases tabB l <;> simp [bnot]
    rw [if_pos h]
    refine Wp.iter (fun s => ∃ i, s = ((l, (i6 l.length, (i6 i, ()))), (Z_U, (U.of (sumN ((l.take i).map dueN)), ()))) ∧ i ≤ l.length ∧ sumN ((l.take i).map dueN) < U.top) (fun s => l.length - s.1.2.2.1.val.toNat) ?_ ⟨0, by rw [zU_of]; rfl, by omega, by show (0 : Nat) < _; decide⟩ ?_
    · rintro s ⟨i, rfl, hi, ht⟩
      simp only [i6_ltb (show i < 9223372036854775808 by omega) (show l.length < 9223372036854775808 by omega), i6_nat (show i < 9223372036854775808 by omega), i6_add (show i + 1 < 9223372036854775808 by omega)]
      refine Wp.brn (fun hc => ?_) (fun hc => ?_)
      · have hc := of_decide_eq_true hc
        refine Wp.brnT (i6_inB (by omega) (by omega)) ?_
        refine Wp.optF (Add_errS' ht _) ?_
        have hs := sumN_take dP dueN hc
        have hs' : sumN ((l.take i).map dueN) + U.val (rdL Z_S_api_Poster l i).2.1 = sumN ((l.take (i + 1)).map dueN) := hs.symm
        rw [hs']
        by_cases h : sumN ((l.take (i + 1)).map dueN) < U.top
        · rw [errS_lt h]
          refine Wp.brnF rfl ?_
          exact Wp.again ⟨i + 1, rfl, by omega, h⟩ (by show l.length - (i6 (i + 1)).val.toNat < l.length - (i6 i).val.toNat; rw [i6_val (by omega), i6_val (by omega)]; omega)
        · have h2 := sumN_le dueN l (i + 1)
          rw [errS_ge (n := sumN ((l.take (i + 1)).map dueN)) (by omega), errS_ge (n := sumN (l.map dueN)) (by omega), zU_of]
          exact Wp.brnT rfl (Wp.done rfl)
      · have hc := of_decide_eq_false hc
        rw [List.take_of_length_le (by omega)] at ht ⊢
        rw [errS_lt ht]
        exact Wp.done rfl
    · rw [K0_eq]
      show l.length - _ < _
      omega

/-- What a pool of n pays, oldest debts first. -/
noncomputable def planS : List Post → Nat → List Pay
  | [], _ => []
  | p :: r, n => if n = 0 then [] else (p.addr, (U.of (min (dueN p) n), ())) :: planS r (n - min (dueN p) n)

theorem planS_zero (l : List Post) : planS l 0 = [] := by cases l <;> simp [planS]
theorem planS_len : ∀ (l : List Post) (n : Nat), (planS l n).length ≤ l.length
  | [], n => Nat.le_refl _
  | p :: r, n => by
    have := planS_len r (n - min (dueN p) n)
    simp only [planS]
    split <;> simp <;> omega

noncomputable def planR (l : List Post) (pool : U) : List Pay × I .i64 :=
  if tabB l = true then (planS ((sortI l).map (·.1)) pool.val, I.of .i64 0) else ([], I.of .i64 2)

theorem nz_u {a : U} : bnot (Ty.eqb (.arr 4 (.int .u64)) a Z_U) = decide (a.val ≠ 0) := by
  rw [eqb_zU]
  by_cases h : a.val = 0 <;> simp [h, bnot]

theorem PPlan_eq (l : List Post) (pool : U) (hl : l.length ≤ 1073741824) : payout_Plan ((l, (pool, ())), ()) = some (((planR l pool).1, ((planR l pool).2, ())), ()) := by
  refine Wp.out (T := fun o => o = _) ?_
  unfold payout_Plan planR
  refine Wp.optF (PValid_eq hl) ?_
  refine Wp.brn (fun h => ?_) (fun h => ?_)
  · have h : tabB l = false := by have : bnot (tabB l) = true := h; revert this; cases tabB l <;> simp [bnot]
    rw [if_neg (by rw [h]; simp)]
    rfl
  · have h : tabB l = true := by have : bnot (tabB l) = false := h; revert this; cases tabB l <;> simp [bnot]
    rw [if_pos h]
    refine Wp.call (New_ok hl) ?_
    rintro _ ⟨h0, rfl, q0⟩
    have hs := sortI_len l
    have q0 : QOf h0 (sortI l) := q0
    refine Wp.call (Pop_any q0 (by omega)) ?_
    rintro _ ⟨h1, rfl, q1⟩
    refine Wp.iter (fun s => ∃ r h out n, s = ((!r.isEmpty, ()), (n, (out, (((), ()), (h, (hdP r, ())))))) ∧ QOf h r.tail ∧ out ++ planS (r.map (·.1)) (U.val n) = planS ((sortI l).map (·.1)) pool.val ∧ out.length + r.length ≤ (sortI l).length) (fun s => (sortI l).length - s.2.2.1.length) ?_ ⟨sortI l, h1, [], pool, rfl, q1, rfl, by simp⟩ ?_
    · rintro s ⟨r, h, out, n, rfl, q, ho, hol⟩
      have fin : out = planS ((sortI l).map (·.1)) pool.val → Wp (fun o => o = some (((planS ((sortI l).map (·.1)) pool.val, I.of .i64 0).1, ((planS ((sortI l).map (·.1)) pool.val, I.of .i64 0).2, ())), ())) (some ((out, ((I.of .i64 0), ())), ())) := fun e => by rw [e]; rfl
      refine Wp.jn (fun s => ∃ z b m r', r = m :: r' ∧ U.val n ≠ 0 ∧ s = ((n, (z, (b, ()))), (n, (out, (((), ()), (h, (m.1, ()))))))) ?_ ?_
      · rintro s ⟨z, b, m, r', rfl, hn, rfl⟩
        refine Wp.optF (uint256_Min_eq _ _) ?_
        refine Wp.optF (SatSub_ok _ _) ?_
        have hol' : out.length + (r'.length + 1) ≤ (sortI l).length := hol
        refine Wp.brnT (fits_le (by show (out ++ [_]).length ≤ _; simp; omega)) ?_
        have q : QOf h r' := q
        refine Wp.call (Pop_any q (by omega)) ?_
        rintro _ ⟨h', rfl, q'⟩
        have e1 : minS (Post.due m.1) n = U.of (min (dueN m.1) (U.val n)) := by
          rw [← U.of_val (minS (Post.due m.1) n), minS_val]
          rfl
        refine Wp.again ⟨r', h', out ++ [(Post.addr m.1, (minS (Post.due m.1) n, ()))], U.of (U.val n - (minS (Post.due m.1) n).val), rfl, q', ?_, by rw [List.length_append]; simp; omega⟩ ?_
        · rw [← ho, U.val_of (by have := U.lt n; omega), minS_val, e1]
          simp only [List.map_cons, planS, if_neg hn, List.append_assoc, List.singleton_append]
          rfl
        · show (sortI l).length - (out ++ [_]).length < (sortI l).length - out.length
          simp
          omega
      · intro j hj
        cases r with
        | nil =>
          refine Wp.brnF rfl (Wp.done (fin ?_))
          rw [← ho]
          simp [planS]
        | cons m r' =>
          refine Wp.brnT rfl ?_
          refine Wp.brn (fun hz => ?_) (fun hz => ?_)
          · have hz := of_decide_eq_true (nz_u.symm.trans hz)
            exact hj _ ⟨_, _, m, r', rfl, hz, rfl⟩
          · have hz := of_decide_eq_false (nz_u.symm.trans hz)
            have hz : U.val n = 0 := by simpa using hz
            refine Wp.done (fin ?_)
            rw [← ho, hz, planS_zero, List.append_nil]
    · rw [K0_eq]
      show (sortI l).length - _ < _
      omega

theorem RMin_eq {a b : List Dg} {m n : Nat} (ha : IsB a m) (hb : IsB b n) (hal : a.length ≤ 1000000) (hbl : b.length ≤ 1000000) : ∃ y, pontageref1_Min ((a, (b, ())), ()) = some y ∧ ∃ r, y = ((r, ()), ()) ∧ IsB r (min m n) := by
  refine Wp.out (T := fun o => ∃ y, o = some y ∧ ∃ r, y = ((r, ()), ()) ∧ IsB r (min m n)) ?_
  unfold pontageref1_Min
  refine Wp.optF (Cmp_ok ha hb hal hbl) ?_
  have hc : I.ltb (I.of .i64 0) (cmpN m n) = decide (n < m) := by
    unfold cmpN
    by_cases h : m < n
    · rw [if_pos h, decide_eq_false (by omega)]; rfl
    · rw [if_neg h]
      by_cases h2 : n < m
      · rw [if_pos h2, decide_eq_true h2]; rfl
      · rw [if_neg h2, decide_eq_false h2]; rfl
  refine Wp.brn (fun h => ?_) (fun h => ?_)
  · have h := of_decide_eq_true (hc.symm.trans h)
    exact ⟨_, rfl, b, rfl, by rw [Nat.min_eq_right (by omega)]; exact hb⟩
  · have h := of_decide_eq_false (hc.symm.trans h)
    exact ⟨_, rfl, a, rfl, by rw [Nat.min_eq_left (by omega)]; exact ha⟩

theorem RPlan_eq (l : List Post) (pool : U) (hl : l.length ≤ 1073741824) : pontageref20_Plan ((l, (pool, ())), ()) = some (((planR l pool).1, ((planR l pool).2, ())), ()) := by
  refine Wp.out (T := fun o => o = _) ?_
  unfold pontageref20_Plan planR
  refine Wp.optF (RValid_eq hl) ?_
  refine Wp.brn (fun h => ?_) (fun h => ?_)
  · have h : tabB l = false := by have : bnot (tabB l) = true := h; revert this; cases tabB l <;> simp [bnot]
    rw [if_neg (by rw [h]; simp)]
    rfl
  · have h : tabB l = true := by have : bnot (tabB l) = false := h; revert this; cases tabB l <;> simp [bnot]
    rw [if_pos h]
    refine Wp.optF (Sorted_eq hl) ?_
    have hs := sortI_len l
    obtain ⟨o, ho⟩ : ∃ o, o = (sortI l).map (·.1) := ⟨_, rfl⟩
    have hol : o.length ≤ 1073741824 := by rw [ho, List.length_map]; omega
    rw [← ho]
    refine Wp.call (from_ok pool) ?_
    rintro _ ⟨left0, rfl, hleft0⟩
    simp only [lenL_eq, i6_ofNat, of64_0, of64_1]
    refine Wp.iter (fun s => ∃ i left n out, s = ((o, (left, (i6 i, ()))), (out, ())) ∧ i ≤ o.length ∧ IsB left n ∧ n < U.top ∧ out ++ planS (o.drop i) n = planS o pool.val ∧ out.length ≤ i) (fun s => o.length - s.1.2.2.1.val.toNat) ?_ ⟨0, left0, pool.val, [], rfl, by omega, hleft0, pool.lt, rfl, by simp⟩ ?_
    · rintro s ⟨i, left, n, out, rfl, hi, hleft, hn, hout, houtl⟩
      have hll : left.length ≤ 1000000 := len_small hleft 16 (by rw [← top_pow]; exact hn) (by decide)
      simp only [i6_ltb (show i < 9223372036854775808 by omega) (show o.length < 9223372036854775808 by omega), i6_ltb (show 0 < 9223372036854775808 by omega) (show left.length < 9223372036854775808 by omega)]
      refine Wp.jn (fun s => ∃ z b, i < o.length ∧ n ≠ 0 ∧ s = ((o, (left, (i6 i, (left, (z, (b, ())))))), (out, ()))) ?_ ?_
      · rintro s ⟨z, b, hc, hn0, rfl⟩
        simp only [i6_nat (show i < 9223372036854775808 by omega), i6_add (show i + 1 < 9223372036854775808 by omega)]
        have bi : inB (i6 i) o.length = true := i6_inB (by omega) (by omega)
        refine Wp.brnT bi ?_
        refine Wp.call (from_ok _) ?_
        rintro _ ⟨du, rfl, hdu⟩
        refine Wp.call (RMin_eq hleft hdu hll (len_U hdu)) ?_
        rintro _ ⟨mn, rfl, hmn⟩
        have hmin : min n (U.val (Post.due (rdL dP o i))) ≤ n := Nat.min_le_left _ _
        refine Wp.brnT bi ?_
        refine Wp.optF (ToUint256_ok hmn (by show min n _ < _; omega)) ?_
        refine Wp.brnT (fits_le (by show (out ++ [_]).length ≤ _; simp; omega)) ?_
        obtain ⟨z', g, k⟩ := Sub_ok hleft hmn hmin hll
        refine Wp.optF g ?_
        refine Wp.again ⟨i + 1, z', n - min n (dueN (rdL dP o i)), _, rfl, by omega, k, by omega, ?_, by show (out ++ [_]).length ≤ _; simp; omega⟩ (by show o.length - (i6 (i + 1)).val.toNat < o.length - (i6 i).val.toNat; rw [i6_val (by omega), i6_val (by omega)]; omega)
        rw [← hout, List.drop_eq_getElem_cons hc, ← rdL_eq dP o i hc]
        simp only [planS, if_neg hn0, appL_eq, List.append_assoc, List.singleton_append]
        rw [Nat.min_comm (dueN (rdL dP o i)) n]
        rfl
      · intro j hj
        refine Wp.brn (fun hc => ?_) (fun hc => ?_)
        · have hc := of_decide_eq_true hc
          refine Wp.brn (fun hz => ?_) (fun hz => ?_)
          · have hz := of_decide_eq_true hz
            refine hj _ ⟨_, _, hc, ?_, rfl⟩
            intro e
            subst e
            have := (hleft.len (k := 0)).2 (by decide)
            omega
          · have hz := of_decide_eq_false hz
            have : n = 0 := by
              have := (hleft.len (k := 0)).1 (by omega)
              simpa using this
            subst this
            rw [planS_zero, List.append_nil] at hout
            refine Wp.done ?_
            rw [← hout]
            rfl
        · have hc := of_decide_eq_false hc
          rw [List.drop_eq_nil_iff.2 (by omega)] at hout
          refine Wp.done ?_
          rw [← hout]
          simp [planS]
          rfl
    · rw [K0_eq]
      show o.length - _ < _
      omega
end Sym

/- Sums that stop at the top; numbers by shape. -/
namespace Sym
open Go

theorem pontagelaw0_Mod_ok (x n : I .i64) (h : 0 < n.val) : ∃ y : I .i64, pontagelaw0_Mod ((x, n, ()), ()) = some ((y, ()), ()) ∧ 0 ≤ y.val ∧ y.val < n.val := by
  have hn := i64_range n
  have e : (I.conv .u64 n).val = n.val := of_u64 ⟨by omega, by omega⟩
  have hx := u64_range (I.conv .u64 x)
  have er : (I.rem (I.conv .u64 x) (I.conv .u64 n)).val = (I.conv .u64 x).val % n.val := by rw [rem_u64 (by omega), e]
  have h3 := Int.emod_nonneg (I.conv .u64 x).val (b := n.val) (by omega)
  have h4 := Int.emod_lt_of_pos (I.conv .u64 x).val (b := n.val) (by omega)
  have ec : (I.conv .i64 (I.rem (I.conv .u64 x) (I.conv .u64 n))).val = (I.conv .u64 x).val % n.val := by
    show (I.of .i64 _).val = _
    rw [er]
    exact of_i64 ⟨by omega, by omega⟩
  refine ⟨I.conv .i64 (I.rem (I.conv .u64 x) (I.conv .u64 n)), ?_, by omega, by omega⟩
  refine Wp.out (T := fun o => o = _) ?_
  unfold pontagelaw0_Mod
  refine Wp.brnT (iff_nz.2 ?_) rfl
  show (I.conv .u64 n).val ≠ 0
  omega

theorem pontagelaw0_EdgeUint256_ok (a b : I .u64) (c : I .i64) : ∃ y, pontagelaw0_EdgeUint256 ((a, b, c, ()), ()) = some y := by
  refine Wp.out (T := fun o => ∃ y, o = some y) ?_
  unfold pontagelaw0_EdgeUint256
  obtain ⟨y, hy, _⟩ := pontagelaw0_Mod_ok c (I.of .i64 9) (by decide)
  refine Wp.optF hy ?_
  repeat' (first | exact ⟨_, rfl⟩ | refine Wp.brn (fun _ => ?_) (fun _ => ?_))
  · rename_i h
    have h2 := nn_u64 (I.rem b (I.of .u64 64))
    exact absurd (h2.symm.trans h) (by decide)

theorem uint256_SaturatingAdd_ok (a b : U) : uint256_SaturatingAdd ((a, b, ()), ()) = some ((U.of (min (a.val + b.val) (U.top - 1)), ()), ()) := by
  refine Wp.out (T := fun o => o = some ((U.of (min (a.val + b.val) (U.top - 1)), ()), ())) ?_
  unfold uint256_SaturatingAdd
  refine Wp.optF (uint256_Add_eq a b) ?_
  unfold addS
  have ha := a.lt
  by_cases h : a.val + b.val < U.top
  · rw [if_pos h]
    refine Wp.brnT rfl ?_
    show _ = _
    rw [Nat.min_eq_left (by omega)]
    rfl
  · rw [if_neg h]
    refine Wp.brnF rfl ?_
    refine Wp.optF rfl ?_
    show _ = _
    rw [Nat.min_eq_right (by omega)]
    kernel_rfl
end Sym

/- Tables of posters: what is generated is well formed. -/
namespace Sym
open Go

theorem TableOk.lt {l : List Post} (h : TableOk l) : ∀ j, j < l.length → ∀ i, i < j → (Post.addr (rdL dP l i)).val < (Post.addr (rdL dP l j)).val := by
  intro j
  induction j with
  | zero => intro _ i hi; omega
  | succ j ih =>
    intro hj i hi
    have h1 := (h.2 (j + 1) hj).2 (by omega)
    rw [Nat.add_sub_cancel] at h1
    rcases (by omega : i < j ∨ i = j) with h2 | rfl
    · have := ih (by omega) i h2
      omega
    · exact h1

theorem table_iff {l : List Post} : TableOk l ↔ l.length ≤ 64 ∧ (∀ p ∈ l, EntryOk p) ∧ l.Pairwise fun p q => (Post.addr p).val < (Post.addr q).val := by
  constructor
  · intro h
    refine ⟨h.1, fun p hp => ?_, List.pairwise_iff_getElem.2 fun i j hi hj hij => ?_⟩
    · obtain ⟨k, hk, rfl⟩ := mem_rdL dP hp
      exact (h.2 k hk).1
    · rw [← rdL_eq dP l i hi, ← rdL_eq dP l j hj]
      exact h.lt j hj i hij
  · rintro ⟨h1, h2, h3⟩
    refine ⟨h1, fun i hi => ⟨h2 _ (rdL_mem dP l i hi), fun h0 => ?_⟩⟩
    have := List.pairwise_iff_getElem.1 h3 (i - 1) i (by omega) hi (by omega)
    rw [rdL_eq dP l i hi, rdL_eq dP l (i - 1) (by omega)]
    exact this

theorem table_nil : TableOk [] := ⟨by simp, fun i hi => by simp at hi⟩

theorem set_ok {l : List Post} (h : TableOk l) {k : Nat} (hk : k < l.length) {v : Post} (hv : EntryOk v) (ha : Post.addr v = Post.addr (rdL dP l k)) : TableOk (setAt l k v) := by
  have hlen : (setAt l k v).length = l.length := by rw [setAt_eq, List.length_set]
  have haddr : ∀ i, Post.addr (rdL dP (setAt l k v) i) = Post.addr (rdL dP l i) := by
    intro i
    rw [rdL_set]
    split
    · rename_i e
      rw [ha, e.1]
    · rfl
  refine ⟨by rw [hlen]; exact h.1, fun i hi => ?_⟩
  rw [hlen] at hi
  rw [haddr, haddr]
  refine ⟨?_, (h.2 i hi).2⟩
  rw [rdL_set]
  split
  · exact hv
  · exact (h.2 i hi).1

theorem settled_ok {p : Post} {n : U} (h : EntryOk p) (h1 : n.val ≤ (Post.due p).val) (h2 : (Post.paid p).val + n.val < U.top) : EntryOk (settled p n) := by
  obtain ⟨ha, hb, hc⟩ := h
  have hd := U.lt (Post.due p)
  refine ⟨ha, ?_, ?_⟩
  · show (U.of ((Post.due p).val - n.val)).val + (U.of ((Post.paid p).val + n.val)).val = _
    rw [U.val_of (by omega), U.val_of h2]
    show _ = (Post.costs p).val + (Post.rewards p).val
    omega
  · show (if (Post.due p).val - n.val = 0 then I.of .u64 0 else Post.since p).val = 0 ↔ (U.of ((Post.due p).val - n.val)).val = 0
    rw [U.val_of (by omega)]
    split
    · rename_i e
      rw [e]
      exact ⟨fun _ => rfl, fun _ => rfl⟩
    · rename_i e
      rw [hc]
      omega

theorem settleS_ok {l : List Post} (h : TableOk l) (a : I .u64) (n : U) : TableOk (settleS l a n).1 := by
  unfold settleS
  split
  · split
    · rename_i hk
      split
      · rename_i h1
        split
        · rename_i h2
          exact set_ok h hk (settled_ok (h.2 _ hk).1 h1 h2) rfl
        · exact table_nil
      · exact table_nil
    · exact table_nil
  · exact table_nil

/-- What a function on tables answers: a table that is well formed. -/
def Good (o : Option ((List Post × (I .i64 × Unit)) × Unit)) : Prop := ∃ y, o = some y ∧ ∃ out e, y = ((out, (e, ())), ()) ∧ TableOk out
theorem good_some {out : List Post} {e : I .i64} (h : TableOk out) : Good (some ((out, (e, ())), ())) := ⟨_, rfl, out, e, rfl, h⟩

theorem RSettle_good {l : List Post} (h : TableOk l) (a : I .u64) (n : U) : Good (pontageref16_Settle ((l, (a, (n, ()))), ())) := by
  rw [RSettle_eq l a n (by have := h.1; omega)]
  exact good_some (settleS_ok h a n)

theorem tab_not {l : List Post} (h : TableOk l) : bnot (tabB l) = false := by rw [tabB_t.2 h]; rfl

theorem newP_ok {a : I .u64} (ha : a.val ≠ 0) : EntryOk (a, (Z_U, (Z_U, (Z_U, (Z_U, ((I.of .u64 0), ())))))) := ⟨ha, rfl, ⟨fun _ => rfl, fun _ => rfl⟩⟩

theorem atN_spec {l : List Post} {a : I .u64} (h : ¬ atN l a < l.length) : ∀ k, k < l.length → (Post.addr (rdL dP l k)).val ≠ a.val := by
  intro k hk e
  have h1 : atN l a ≤ l.length := List.findIdx_le_length
  have h2 : atN l a = l.length := by omega
  unfold atN at h2
  rw [List.findIdx_eq_length] at h2
  have := h2 _ (rdL_mem dP l k hk)
  exact absurd (iff_eqb.2 e) (by rw [this]; simp)
theorem atN_at {l : List Post} {a : I .u64} (h : atN l a < l.length) : Post.addr (rdL dP l (atN l a)) = a := by
  have := List.findIdx_getElem (p := fun p : Post => I.eqb (Post.addr p) a) (xs := l) (w := h)
  rw [rdL_eq dP l _ h]
  exact I.eq_of this

/-- Add. -/
theorem RAdd_good {l : List Post} (h : TableOk l) (a : I .u64) : Good (pontageref16_Add ((l, (a, ())), ())) := by
  refine Wp.out (T := Good) ?_
  have hl := h.1
  unfold pontageref16_Add
  refine Wp.jn (fun s => s = ((l, (a, ())), ()) ∧ a.val ≠ 0) ?_ ?_
  · rintro s ⟨rfl, ha⟩
    refine Wp.optF (RFind_eq (l := l) a (by omega)) ?_
    have hneg : I.leb (I.of .i64 0) (atI l a) = decide (atN l a < l.length) := by
      have := atI_neg (l := l) (a := a) (by omega)
      by_cases h : atN l a < l.length
      · rw [decide_eq_false (by simpa using h)] at this
        rw [decide_eq_true h]
        exact iff_leb.2 (niff_ltb.1 this)
      · rw [decide_eq_true h] at this
        rw [decide_eq_false h]
        exact niff_leb.2 (iff_ltb.1 this)
    refine Wp.brn (fun _ => good_some table_nil) (fun hf => ?_)
    have hf := of_decide_eq_false (hneg.symm.trans hf)
    have hne := atN_spec hf
    simp only [lenL_eq, i6_ofNat, of64_0, of64_1]
    refine Wp.brn (fun _ => good_some table_nil) (fun h64 => ?_)
    have h64 := niff_leb.1 h64
    rw [i6_val (by omega), show (I.of .i64 64).val = 64 from rfl] at h64
    have hT := table_iff.1 h
    -- what stands in the end
    have fin : ∀ k, k ≤ l.length → (∀ i, i < k → (Post.addr (rdL dP l i)).val < a.val) → (∀ i, k ≤ i → i < l.length → a.val < (Post.addr (rdL dP l i)).val) →
        TableOk (l.take k ++ ((a, (Z_U, (Z_U, (Z_U, (Z_U, ((I.of .u64 0), ())))))) :: l.drop k)) := by
      intro k hk h1 h2
      refine table_iff.2 ⟨by simp; omega, fun p hp => ?_, ?_⟩
      · simp only [List.mem_append, List.mem_cons] at hp
        rcases hp with hp | rfl | hp
        · exact hT.2.1 p (List.mem_of_mem_take hp)
        · exact newP_ok ha
        · exact hT.2.1 p (List.mem_of_mem_drop hp)
      · have ht : ∀ p ∈ l.take k, (Post.addr p).val < a.val := fun p hp => by
          obtain ⟨i, hi, e⟩ := List.getElem_of_mem hp
          rw [List.length_take] at hi
          rw [List.getElem_take] at e
          have := h1 i (by omega)
          rw [rdL_eq dP l i (by omega), e] at this
          exact this
        have hd : ∀ p ∈ l.drop k, a.val < (Post.addr p).val := fun p hp => by
          obtain ⟨i, hi, e⟩ := List.getElem_of_mem hp
          rw [List.length_drop] at hi
          rw [List.getElem_drop] at e
          have := h2 (k + i) (by omega) (by omega)
          rw [rdL_eq dP l (k + i) (by omega), e] at this
          exact this
        rw [List.pairwise_append]
        refine ⟨hT.2.2.take, List.pairwise_cons.2 ⟨hd, hT.2.2.drop⟩, fun p hp q hq => ?_⟩
        rcases List.mem_cons.1 hq with rfl | hq
        · exact ht p hp
        · have := ht p hp; have := hd q hq; omega
    refine Wp.iter (fun s => ∃ i put out, s = ((l, (a, (put, (i6 i, ())))), (out, ())) ∧ i ≤ l.length ∧ out.length ≤ i + 1 ∧
        ((put = false ∧ out = l.take i ∧ ∀ k, k < i → (Post.addr (rdL dP l k)).val < a.val) ∨
         (put = true ∧ ∃ k, k < i ∧ out = l.take k ++ ((a, (Z_U, (Z_U, (Z_U, (Z_U, ((I.of .u64 0), ())))))) :: (l.take i).drop k) ∧ (∀ j, j < k → (Post.addr (rdL dP l j)).val < a.val) ∧ (∀ j, k ≤ j → j < l.length → a.val < (Post.addr (rdL dP l j)).val))))
      (fun s => l.length - s.1.2.2.2.1.val.toNat) ?_ ⟨0, false, [], rfl, by omega, by simp, .inl ⟨rfl, rfl, fun k hk => by omega⟩⟩ ?_
    · rintro s ⟨i, put, out, rfl, hi, hol, hcase⟩
      simp only [i6_ltb (show i < 9223372036854775808 by omega) (show l.length < 9223372036854775808 by omega), i6_nat (show i < 9223372036854775808 by omega)]
      refine Wp.brn (fun hc => ?_) (fun hc => ?_)
      · have hc := of_decide_eq_true hc
        have hm : l.length - (i6 (i + 1)).val.toNat < l.length - (i6 i).val.toNat := by rw [i6_val (by omega), i6_val (by omega)]; omega
        have bi : inB (i6 i) l.length = true := i6_inB (by omega) (by omega)
        have htk : l.take (i + 1) = l.take i ++ [rdL dP l i] := by rw [List.take_succ_eq_append_getElem hc, rdL_eq dP l i hc]
        refine Wp.jn (fun s => ∃ now, s = ((l, (a, (put, (i6 i, (now, ()))))), (out, ())) ∧ (now = true → put = false ∧ a.val < (Post.addr (rdL dP l i)).val) ∧ (now = false → put = false → (Post.addr (rdL dP l i)).val ≤ a.val)) ?_ ?_
        · rintro s ⟨now, rfl, hnow, hnot⟩
          simp only [i6_nat (show i < 9223372036854775808 by omega), i6_add (show i + 1 < 9223372036854775808 by omega)]
          refine Wp.brn (fun hn => ?_) (fun hn => ?_)
          · obtain ⟨hp, hlt⟩ := hnow hn
            rcases hcase with ⟨_, rfl, hlow⟩ | ⟨e, _⟩
            · refine Wp.brnT (fits_le (by show (l.take i ++ [_]).length ≤ _; simp; omega)) (Wp.brnT bi (Wp.brnT (fits_le (by show (l.take i ++ [_] ++ [_]).length ≤ _; simp; omega)) ?_))
              refine Wp.again ⟨i + 1, true, _, rfl, by omega, ?_, .inr ⟨rfl, i, by omega, ?_, hlow, fun j h1 h2 => ?_⟩⟩ hm
              · simp [appL]; omega
              · rw [htk, List.drop_append, List.drop_of_length_le (by rw [List.length_take]; omega), List.length_take, Nat.min_eq_left (Nat.le_of_lt hc), Nat.sub_self]
                simp [appL]
              · rcases (by omega : i = j ∨ i < j) with rfl | h3
                · exact hlt
                · have := h.lt j h2 i h3; omega
            · rw [hp] at e; cases e
          · refine Wp.brnT bi (Wp.brnT (fits_le (by show (out ++ [_]).length ≤ _; simp; omega)) ?_)
            refine Wp.again ⟨i + 1, put, _, rfl, by omega, by simpa [appL] using hol, ?_⟩ hm
            rcases hcase with ⟨hp, ho, hlow⟩ | ⟨hp, k, hk, ho, h1, h2⟩
            · refine .inl ⟨hp, by rw [ho, htk], fun k hk => ?_⟩
              rcases (by omega : k < i ∨ k = i) with h3 | rfl
              · exact hlow k h3
              · have := hnot hn hp
                have := hne k hc
                omega
            · refine .inr ⟨hp, k, by omega, ?_, h1, h2⟩
              rw [ho, htk, List.drop_append_of_le_length (by simp; omega)]
              simp [appL]
        · intro j hj
          refine Wp.brn (fun hp => ?_) (fun hp => ?_)
          · have hp : put = false := by revert hp; cases put <;> simp [bnot]
            refine Wp.brnT bi (hj _ ⟨_, rfl, fun h => ⟨hp, iff_ltb.1 h⟩, fun h _ => niff_ltb.1 h⟩)
          · have hp : put = true := by revert hp; cases put <;> simp [bnot]
            exact hj _ ⟨false, rfl, ⟨fun h => Bool.noConfusion h, fun _ h => by rw [hp] at h; exact Bool.noConfusion h⟩⟩
      · have hc := of_decide_eq_false hc
        have hi' : i = l.length := by omega
        subst hi'
        refine Wp.done ?_
        rcases hcase with ⟨rfl, ho, hlow⟩ | ⟨rfl, k, hk, ho, h1, h2⟩
        · refine Wp.brnT rfl (Wp.brnT (fits_le (by show (out ++ [_]).length ≤ _; simp; omega)) ?_)
          have := fin l.length (Nat.le_refl _) hlow (fun i h1 h2 => by omega)
          rw [List.drop_length] at this
          rw [ho]
          exact good_some this
        · refine Wp.brnF rfl ?_
          rw [ho, List.take_length]
          exact good_some (fin k (by omega) h1 h2)
    · rw [K0_eq]
      show l.length - _ < _
      omega
  · intro j hj
    refine Wp.optF (RValid_eq (l := l) (by omega)) (Wp.brnF (tab_not h) ?_)
    refine Wp.brn (fun _ => good_some table_nil) (fun h0 => hj _ ⟨rfl, ?_⟩)
    exact niff_eqb.1 h0
end Sym

/- Tables of posters: what is generated is well formed: Accrue, the calls. -/
namespace Sym
open Go

/-- An entry behind a cost and a reward. -/
theorem accrued_ok {p : Post} (h : EntryOk p) (c w : U) (s : I .u64) (hs : s.val ≠ 0) (h1 : (Post.due p).val + (c.val + w.val) < U.top) (h2 : (Post.costs p).val + c.val < U.top) (h3 : (Post.rewards p).val + w.val < U.top) (s' : I .u64)
    (hs' : (s' = s ∧ (Post.due p).val = 0 ∧ 0 < (Post.due p).val + (c.val + w.val)) ∨ (s' = Post.since p ∧ ¬ ((Post.due p).val = 0 ∧ 0 < (Post.due p).val + (c.val + w.val)))) :
    EntryOk (p.1, (U.of ((Post.due p).val + (c.val + w.val)), (U.of ((Post.costs p).val + c.val), (U.of ((Post.rewards p).val + w.val), (p.2.2.2.2.1, (s', ())))))) := by
  obtain ⟨ha, hb, hc⟩ := h
  refine ⟨ha, ?_, ?_⟩
  · show (U.of _).val + (Post.paid p).val = (U.of _).val + (U.of _).val
    rw [U.val_of h1, U.val_of h2, U.val_of h3]
    omega
  · show s'.val = 0 ↔ (U.of _).val = 0
    rw [U.val_of h1]
    rcases hs' with ⟨rfl, e1, e2⟩ | ⟨rfl, e⟩
    · constructor
      · intro e; exact absurd e hs
      · intro e; omega
    · rw [hc]
      omega

theorem Fits_U {l : List Dg} {n : Nat} (hl : IsB l n) (hlen : l.length ≤ 1000000) : pontageref1_Fits ((l, ()), ()) = some ((decide (n < U.top), ()), ()) := Fits_ok hl (by omega)

theorem isB_pos {l : List Dg} {n : Nat} (h : IsB l n) : 0 < l.length ↔ 0 < n := by
  have := h.len (k := 0)
  simp only [Nat.pow_zero] at this
  omega

theorem big_pos {l : List Dg} {n : Nat} (h : IsB l n) (hl : l.length ≤ 1000000) : I.ltb (I.of .i64 0) (I.ofNat .i64 (lenL l)) = decide (0 < n) := by
  rw [of64_0, i6_ofNat, lenL_eq, i6_ltb (by omega) (by omega)]
  by_cases hx : 0 < n
  · rw [decide_eq_true hx, decide_eq_true ((isB_pos h).2 hx)]
  · rw [decide_eq_false hx, decide_eq_false (fun h' => hx ((isB_pos h).1 h'))]

theorem RAccrue_good {l : List Post} (h : TableOk l) (a : I .u64) (c w : U) (since : I .u64) : Good (pontageref16_Accrue ((l, (a, (c, (w, (since, ()))))), ())) := by
  refine Wp.out (T := Good) ?_
  have hl := h.1
  unfold pontageref16_Accrue
  refine Wp.jn (fun s => s = ((l, (a, (since, ()))), (c, (w, ()))) ∧ since.val ≠ 0) ?_ ?_
  · rintro s ⟨rfl, hs⟩
    refine Wp.optF (RFind_eq (l := l) a (by omega)) ?_
    refine Wp.brn (fun _ => good_some table_nil) (fun hf => ?_)
    have hf := of_decide_eq_false ((atI_neg (l := l) (by omega)).symm.trans hf)
    have hf : atN l a < l.length := by simpa using hf
    have e : atI l a = i6 (atN l a) := if_pos hf
    have en : appL ([] : List Post) l = l := rfl
    simp only [e, i6_nat (show atN l a < 9223372036854775808 by omega), setAt_setAt, rdL_set, en]
    simp only [true_and, hf, if_true]
    have bi : inB (i6 (atN l a)) l.length = true := i6_inB hf (by omega)
    have hE := (h.2 _ hf).1
    have hset := fun (v : Post) (hv : EntryOk v) (ha : Post.addr v = Post.addr (rdL dP l (atN l a))) => set_ok h hf hv ha
    generalize rdL dP l (atN l a) = p at *
    refine Wp.brnT (fits_le (by show l.length ≤ _; omega)) (Wp.brnT bi ?_)
    refine Wp.call (from_ok (Post.due p)) ?_
    rintro _ ⟨d1, rfl, b1⟩
    refine Wp.call (from_ok c) ?_
    rintro _ ⟨d2, rfl, b2⟩
    refine Wp.call (from_ok w) ?_
    rintro _ ⟨d3, rfl, b3⟩
    have t1 := U.lt (Post.due p)
    have t2 := c.lt
    have t3 := w.lt
    have t4 := U.lt (Post.costs p)
    have t5 := U.lt (Post.rewards p)
    have hp : U.top + U.top + U.top ≤ 65536 ^ 17 := by decide
    obtain ⟨d4, g4, b4⟩ := Add_ok b2 b3 (len_U b2) (len_U b3)
    refine Wp.optF g4 ?_
    obtain ⟨d5, g5, b5⟩ := Add_ok b1 b4 (len_U b1) (len_small b4 17 (by omega) (by decide))
    refine Wp.optF g5 ?_
    refine Wp.call (from_ok (Post.costs p)) ?_
    rintro _ ⟨d6, rfl, b6⟩
    refine Wp.call (from_ok c) ?_
    rintro _ ⟨d7, rfl, b7⟩
    obtain ⟨d8, g8, b8⟩ := Add_ok b6 b7 (len_U b6) (len_U b7)
    refine Wp.optF g8 ?_
    refine Wp.call (from_ok (Post.rewards p)) ?_
    rintro _ ⟨d9, rfl, b9⟩
    refine Wp.call (from_ok w) ?_
    rintro _ ⟨d10, rfl, b10⟩
    obtain ⟨d11, g11, b11⟩ := Add_ok b9 b10 (len_U b9) (len_U b10)
    refine Wp.optF g11 ?_
    have l5 := len_small b5 17 (by omega) (by decide)
    have l8 := len_small b8 17 (by omega) (by decide)
    have l11 := len_small b11 17 (by omega) (by decide)
    refine Wp.optF (Fits_U b5 l5) ?_
    refine Wp.brn (fun _ => good_some table_nil) (fun f1 => ?_)
    have f1 : (Post.due p).val + (c.val + w.val) < U.top := by
      have : bnot (decide ((Post.due p).val + (c.val + w.val) < U.top)) = false := f1
      by_cases hx : (Post.due p).val + (c.val + w.val) < U.top
      · exact hx
      · rw [decide_eq_false hx] at this; cases this
    refine Wp.optF (Fits_U b8 l8) ?_
    refine Wp.brn (fun _ => good_some table_nil) (fun f2 => ?_)
    have f2 : (Post.costs p).val + c.val < U.top := by
      have : bnot (decide ((Post.costs p).val + c.val < U.top)) = false := f2
      by_cases hx : (Post.costs p).val + c.val < U.top
      · exact hx
      · rw [decide_eq_false hx] at this; cases this
    refine Wp.optF (Fits_U b11 l11) ?_
    refine Wp.brn (fun _ => good_some table_nil) (fun f3 => ?_)
    have f3 : (Post.rewards p).val + w.val < U.top := by
      have : bnot (decide ((Post.rewards p).val + w.val < U.top)) = false := f3
      by_cases hx : (Post.rewards p).val + w.val < U.top
      · exact hx
      · rw [decide_eq_false hx] at this; cases this
    refine Wp.optF (RIsZero_eq (Post.due p)) ?_
    have hpos := big_pos b5 l5
    refine Wp.brn (fun z => ?_) (fun z => ?_)
    · have z := of_decide_eq_true z
      refine Wp.brn (fun y => ?_) (fun y => ?_)
      · have y := of_decide_eq_true (hpos.symm.trans y)
        refine Wp.optF (ToUint256_ok b5 f1) (Wp.optF (ToUint256_ok b8 f2) (Wp.optF (ToUint256_ok b11 f3) ?_))
        exact good_some (hset _ (accrued_ok hE c w since hs f1 f2 f3 since (.inl ⟨rfl, z, y⟩)) rfl)
      · have y := of_decide_eq_false (hpos.symm.trans y)
        refine Wp.optF (ToUint256_ok b5 f1) (Wp.optF (ToUint256_ok b8 f2) (Wp.optF (ToUint256_ok b11 f3) ?_))
        exact good_some (hset _ (accrued_ok hE c w since hs f1 f2 f3 _ (.inr ⟨rfl, fun h => y h.2⟩)) rfl)
    · have z := of_decide_eq_false z
      refine Wp.optF (ToUint256_ok b5 f1) (Wp.optF (ToUint256_ok b8 f2) (Wp.optF (ToUint256_ok b11 f3) ?_))
      exact good_some (hset _ (accrued_ok hE c w since hs f1 f2 f3 _ (.inr ⟨rfl, fun h => z h.1⟩)) rfl)
  · intro j hj
    refine Wp.optF (RValid_eq (l := l) (by omega)) (Wp.brnF (tab_not h) ?_)
    refine Wp.brn (fun _ => good_some table_nil) (fun h0 => hj _ ⟨rfl, ?_⟩)
    exact niff_eqb.1 h0

abbrev Call : Type := S_pontagelaw16_Call

theorem RApply_good {l : List Post} (h : TableOk l) (d : Call) : Good (pontagelaw16_ReferenceApply ((l, (d, ())), ())) := by
  refine Wp.out (T := Good) ?_
  have hl := h.1
  unfold pontagelaw16_ReferenceApply
  have again : ∀ o : Option ((List Post × (I .i64 × Unit)) × Unit), Good o → Wp Good (optF none o fun y1 => some ((y1.1.1, (y1.1.2.1, ())), ())) := by
    rintro o ⟨y, rfl, out, e, rfl, ht⟩
    exact good_some ht
  refine Wp.jn (fun s => ∃ n, s = ((l, ()), (d, (n, ())))) ?_ ?_
  · rintro s ⟨n, rfl⟩
    refine Wp.brn (fun _ => again _ (RAdd_good h _)) (fun _ => Wp.brn (fun _ => again _ (RAccrue_good h _ _ _ _)) (fun _ => again _ (RSettle_good h _ _)))
  · intro j hj
    refine Wp.optF (RFind_eq (l := l) _ (by omega)) ?_
    refine Wp.brn (fun _ => Wp.brn (fun hc => ?_) (fun _ => hj _ ⟨_, rfl⟩)) (fun _ => hj _ ⟨_, rfl⟩)
    have hc := iff_leb.1 hc
    refine Wp.brnT ?_ (hj _ ⟨_, rfl⟩)
    have hx : atN l d.2.1 < l.length := by
      by_cases hx : atN l d.2.1 < l.length
      · exact hx
      · have e : atI l d.2.1 = I.of .i64 (-1) := if_neg hx
        have : (0 : Int) ≤ (atI l d.2.1).val := hc
        rw [e] at this
        exact absurd this (by decide)
    have e : atI l d.2.1 = i6 (atN l d.2.1) := if_pos hx
    show inB (atI l d.2.1) l.length = true
    rw [e]
    exact i6_inB hx (by omega)

theorem Normalize_ok (d : Call) (i : I .i64) : ∃ y, pontagelaw16_Normalize ((d, (i, ())), ()) = some y ∧ True := by
  refine Wp.out (T := fun o => ∃ y, o = some y ∧ True) ?_
  unfold pontagelaw16_Normalize
  obtain ⟨m, hm, _⟩ := pontagelaw0_Mod_ok d.1 (I.of .i64 8) (by decide)
  refine Wp.optF hm ?_
  refine Wp.jn (fun _ => True) (fun s _ => Wp.jn (fun _ => True) (fun s _ => Wp.brn (fun _ => ⟨_, rfl, trivial⟩) (fun _ => ⟨_, rfl, trivial⟩)) (fun j hj => Wp.brn (fun _ => hj _ trivial) (fun _ => hj _ trivial))) (fun j hj => Wp.brn (fun _ => hj _ trivial) (fun _ => hj _ trivial))

theorem Generate_ok (d : List Call) (hd : d.length ≤ 1073741824) : ∃ y, pontagelaw16_Generate ((d, ()), ()) = some y ∧ ∃ x : List Post, y = ((x, ()), ()) ∧ TableOk x := by
  refine Wp.out (T := fun o => ∃ y, o = some y ∧ ∃ x : List Post, y = ((x, ()), ()) ∧ TableOk x) ?_
  unfold pontagelaw16_Generate
  refine Wp.iter (fun s => ∃ (k : Nat) (x : List Post), s = ((d, (x, (I.of .u64 (k : Int), ()))), ()) ∧ k ≤ 6 ∧ TableOk x) (fun s => 6 - s.1.2.2.1.nat) ?_ ⟨1, [], rfl, by omega, table_nil⟩ ?_
  · rintro s ⟨k, x, rfl, hk, hx⟩
    have hv : (I.of .u64 (k : Int)).val = k := of_u64 ⟨by omega, by omega⟩
    refine Wp.brn (fun hc => ?_) (fun _ => ?_)
    · have hc := iff_ltb.1 hc
      rw [hv, show (I.of .u64 6).val = 6 from rfl] at hc
      refine Wp.call (RAdd_good hx _) ?_
      rintro _ ⟨out, e, rfl, ht⟩
      have he : I.add (I.of .u64 (k : Int)) (I.of .u64 1) = I.of .u64 ((k + 1 : Nat) : Int) := by
        apply I.ext'
        have h1 : (I.of .u64 ((k + 1 : Nat) : Int)).val = ((k + 1 : Nat) : Int) := of_u64 ⟨by omega, by omega⟩
        rw [add_u64 (by rw [hv]; show (k : Int) + 1 < _; omega), hv, h1]
        show (k : Int) + 1 = _
        omega
      refine Wp.again ⟨k + 1, out, by rw [← he]; rfl, by omega, ht⟩ ?_
      show 6 - (I.add (I.of .u64 (k : Int)) (I.of .u64 1)).nat < 6 - (I.of .u64 (k : Int)).nat
      rw [he, of_nat (by omega), of_nat (by omega)]
      omega
    · refine Wp.done ?_
      simp only [lenL_eq, i6_ofNat, of64_0, of64_1]
      refine Wp.iter (fun s => ∃ i x, s = ((d, (x, (i6 i, ()))), ()) ∧ i ≤ d.length ∧ TableOk x) (fun s => d.length - s.1.2.2.1.val.toNat) ?_ ⟨0, x, rfl, by omega, hx⟩ ?_
      · rintro s ⟨i, x, rfl, hi, hx⟩
        simp only [i6_ltb (show i < 9223372036854775808 by omega) (show d.length < 9223372036854775808 by omega)]
        refine Wp.jn (fun s => ∃ z b, i < d.length ∧ s = ((d, (x, (i6 i, (z, (b, ()))))), ())) ?_ ?_
        · rintro s ⟨z, b, hc, rfl⟩
          have hm : d.length - (i6 (i + 1)).val.toNat < d.length - (i6 i).val.toNat := by rw [i6_val (by omega), i6_val (by omega)]; omega
          simp only [i6_nat (show i < 9223372036854775808 by omega), i6_add (show i + 1 < 9223372036854775808 by omega)]
          refine Wp.brnT (i6_inB (by omega) (by omega)) ?_
          refine Wp.call (Normalize_ok _ _) ?_
          rintro y -
          refine Wp.call (RApply_good hx y.1.1) ?_
          rintro _ ⟨out, e, rfl, ht⟩
          exact Wp.brn (fun _ => Wp.again ⟨i + 1, out, rfl, by omega, ht⟩ hm) (fun _ => Wp.again ⟨i + 1, x, rfl, by omega, hx⟩ hm)
        · intro j hj
          refine Wp.brn (fun hc => ?_) (fun _ => Wp.done ⟨_, rfl, x, rfl, hx⟩)
          have hc := of_decide_eq_true hc
          exact Wp.brn (fun _ => hj _ ⟨_, _, hc, rfl⟩) (fun _ => Wp.done ⟨_, rfl, x, rfl, hx⟩)
      · rw [K0_eq]
        show d.length - _ < _
        omega
  · rw [K0_eq]
    show 6 - _ < _
    omega
end Sym

/- Payments: Apply, the laws that compare with the reference. -/
namespace Sym
open Go

/-- The table behind a list of payments. -/
noncomputable def applyS : List Post → List Pay → List Post × I .i64
  | out, [] => (out, I.of .i64 0)
  | out, q :: r => if (settleS out q.1 q.2.1).2.val = 0 then applyS (settleS out q.1 q.2.1).1 r else ([], (settleS out q.1 q.2.1).2)

theorem settle_len {l : List Post} {a : I .u64} {n : U} (h : (settleS l a n).2.val = 0) : (settleS l a n).1.length = l.length := by
  unfold settleS at h ⊢
  split at h
  · split at h
    · split at h
      · split at h
        · rename_i h1 h2 h3 h4
          rw [if_pos h1, if_pos h2, if_pos h3, if_pos h4]
          show (setAt l _ _).length = _
          rw [setAt_eq, List.length_set]
        · exact absurd h (by decide)
      · exact absurd h (by decide)
    · exact absurd h (by decide)
  · exact absurd h (by decide)

theorem PApply_eq (l : List Post) (p : List Pay) (hl : l.length ≤ 1073741824) (hp : p.length ≤ 1073741824) : payout_Apply ((l, (p, ())), ()) = some (((applyS l p).1, ((applyS l p).2, ())), ()) := by
  refine Wp.out (T := fun o => o = _) ?_
  unfold payout_Apply
  refine Wp.optF (Clone_ok l hl) ?_
  simp only [lenL_eq, i6_ofNat, of64_0, of64_1]
  refine Wp.iter (fun s => ∃ i out, s = ((out, (p, (i6 p.length, (i6 i, ())))), ()) ∧ i ≤ p.length ∧ out.length ≤ 1073741824 ∧ applyS out (p.drop i) = applyS l p) (fun s => p.length - s.1.2.2.2.1.val.toNat) ?_ ⟨0, l, rfl, by omega, hl, rfl⟩ ?_
  · rintro s ⟨i, out, rfl, hi, ho, he⟩
    simp only [i6_ltb (show i < 9223372036854775808 by omega) (show p.length < 9223372036854775808 by omega), i6_nat (show i < 9223372036854775808 by omega), i6_add (show i + 1 < 9223372036854775808 by omega)]
    refine Wp.brn (fun hc => ?_) (fun hc => ?_)
    · have hc := of_decide_eq_true hc
      refine Wp.brnT (i6_inB (by omega) (by omega)) ?_
      rw [List.drop_eq_getElem_cons hc, ← rdL_eq dY p i hc] at he
      simp only [applyS] at he
      refine Wp.optF (PSettle_eq out _ _ ho) ?_
      refine Wp.brn (fun h => ?_) (fun h => ?_)
      · have h := iff_neb.1 h
        have h : ¬ (settleS out (rdL dY p i).1 (rdL dY p i).2.1).2.val = 0 := h
        rw [if_neg h] at he
        rw [← he]
        exact Wp.done rfl
      · have h := niff_neb.1 h
        have h : (settleS out (rdL dY p i).1 (rdL dY p i).2.1).2.val = 0 := h
        rw [if_pos h] at he
        exact Wp.again ⟨i + 1, _, rfl, by omega, by rw [settle_len h]; exact ho, he⟩ (by show p.length - (i6 (i + 1)).val.toNat < p.length - (i6 i).val.toNat; rw [i6_val (by omega), i6_val (by omega)]; omega)
    · have hc := of_decide_eq_false hc
      rw [List.drop_eq_nil_iff.2 (by omega)] at he
      refine Wp.done ?_
      rw [← he]
      rfl
  · rw [K0_eq]
    show p.length - _ < _
    omega

theorem RApply_eq (l : List Post) (p : List Pay) (hl : l.length ≤ 1073741824) (hp : p.length ≤ 1073741824) : pontageref20_Apply ((l, (p, ())), ()) = some (((applyS l p).1, ((applyS l p).2, ())), ()) := by
  refine Wp.out (T := fun o => o = _) ?_
  unfold pontageref20_Apply
  refine Wp.brnT (fits_le (by show l.length ≤ _; exact hl)) ?_
  simp only [lenL_eq, i6_ofNat, of64_0, of64_1]
  refine Wp.iter (fun s => ∃ i out, s = ((p, (out, (i6 i, ()))), ()) ∧ i ≤ p.length ∧ out.length ≤ 1073741824 ∧ applyS out (p.drop i) = applyS l p) (fun s => p.length - s.1.2.2.1.val.toNat) ?_ ⟨0, l, rfl, by omega, hl, rfl⟩ ?_
  · rintro s ⟨i, out, rfl, hi, ho, he⟩
    simp only [i6_ltb (show i < 9223372036854775808 by omega) (show p.length < 9223372036854775808 by omega), i6_nat (show i < 9223372036854775808 by omega), i6_add (show i + 1 < 9223372036854775808 by omega)]
    refine Wp.brn (fun hc => ?_) (fun hc => ?_)
    · have hc := of_decide_eq_true hc
      have bi : inB (i6 i) p.length = true := i6_inB (by omega) (by omega)
      refine Wp.brnT bi (Wp.brnT bi ?_)
      rw [List.drop_eq_getElem_cons hc, ← rdL_eq dY p i hc] at he
      simp only [applyS] at he
      refine Wp.optF (RSettle_eq out _ _ ho) ?_
      refine Wp.brn (fun h => ?_) (fun h => ?_)
      · have h := iff_neb.1 h
        have h : ¬ (settleS out (rdL dY p i).1 (rdL dY p i).2.1).2.val = 0 := h
        rw [if_neg h] at he
        rw [← he]
        exact Wp.done rfl
      · have h := niff_neb.1 h
        have h : (settleS out (rdL dY p i).1 (rdL dY p i).2.1).2.val = 0 := h
        rw [if_pos h] at he
        exact Wp.again ⟨i + 1, _, rfl, by omega, by rw [settle_len h]; exact ho, he⟩ (by show p.length - (i6 (i + 1)).val.toNat < p.length - (i6 i).val.toNat; rw [i6_val (by omega), i6_val (by omega)]; omega)
    · have hc := of_decide_eq_false hc
      rw [List.drop_eq_nil_iff.2 (by omega)] at he
      refine Wp.done ?_
      rw [← he]
      rfl
  · rw [K0_eq]
    show p.length - _ < _
    omega

abbrev yTy : Ty := .cons (.int .u64) (.cons (.arr 4 (.int .u64)) .nil)
theorem eqbY (q : Pay) : Ty.eqb yTy q q = true := eqb_self' (t := yTy) rfl q
theorem eqbY_iff (p q : Pay) : Ty.eqb yTy p q = true ↔ p = q := eqb_iff yTy rfl p q

theorem EqualPayments_same (a : List Pay) (ha : a.length ≤ 1073741824) : pontagelaw0_EqualPayments ((a, (a, ())), ()) = some ((true, ()), ()) := by
  refine Wp.out (T := fun o => o = some ((true, ()), ())) ?_
  unfold pontagelaw0_EqualPayments
  refine Wp.brnF (niff_neb.2 rfl) ?_
  simp only [lenL_eq, i6_ofNat, of64_0, of64_1]
  refine Wp.iter (fun s => ∃ i, s = ((a, (a, (i6 i, ()))), ()) ∧ i ≤ a.length) (fun s => a.length - s.1.2.2.1.val.toNat) ?_ ⟨0, rfl, by omega⟩ ?_
  · rintro s ⟨i, rfl, hi⟩
    simp only [i6_ltb (show i < 9223372036854775808 by omega) (show a.length < 9223372036854775808 by omega), i6_nat (show i < 9223372036854775808 by omega), i6_add (show i + 1 < 9223372036854775808 by omega)]
    refine Wp.brn (fun hc => ?_) (fun hc => Wp.done rfl)
    have hc := of_decide_eq_true hc
    have bi : inB (i6 i) a.length = true := i6_inB (by omega) (by omega)
    refine Wp.brnT bi (Wp.brnT bi (Wp.brnF (congrArg bnot (eqbY _)) ?_))
    exact Wp.again ⟨i + 1, rfl, by omega⟩ (by show a.length - (i6 (i + 1)).val.toNat < a.length - (i6 i).val.toNat; rw [i6_val (by omega), i6_val (by omega)]; omega)
  · rw [K0_eq]
    show a.length - _ < _
    omega

theorem planR_len (l : List Post) (n : U) : (planR l n).1.length ≤ l.length := by
  unfold planR
  split
  · refine Nat.le_trans (planS_len _ _) ?_
    rw [List.length_map]
    exact sortI_len l
  · simp

theorem awake20 : pontagelaw20_awake ((), ()) = some ((true, ()), ()) := by
  refine Wp.out (T := fun o => o = some ((true, ()), ())) ?_
  unfold pontagelaw20_awake
  obtain ⟨p1, h1⟩ : ∃ p : Post, p = ((I.of .u64 5), (((I.of .u64 30), ((I.of .u64 0), ((I.of .u64 0), ((I.of .u64 0), ())))), (((I.of .u64 30), ((I.of .u64 0), ((I.of .u64 0), ((I.of .u64 0), ())))), (Z_U, (Z_U, ((I.of .u64 2), ())))))) := ⟨_, rfl⟩
  obtain ⟨p2, h2⟩ : ∃ p : Post, p = ((I.of .u64 6), (((I.of .u64 50), ((I.of .u64 0), ((I.of .u64 0), ((I.of .u64 0), ())))), (((I.of .u64 50), ((I.of .u64 0), ((I.of .u64 0), ((I.of .u64 0), ())))), (Z_U, (Z_U, ((I.of .u64 1), ())))))) := ⟨_, rfl⟩
  have o1 : ow p1 = true := by rw [h1]; rfl
  have o2 : ow p2 = true := by rw [h2]; rfl
  have l12 : lessI (p1, (i6 0, ())) (p2, (i6 1, ())) = false := by rw [h1, h2]; rfl
  have e : sortI [p1, p2] = [(p2, (i6 1, ())), (p1, (i6 0, ()))] := by
    refine (sortI_only (by simp) ?_ ?_).symm
    · simp only [enum, o1, o2, if_true, List.append_nil, List.singleton_append]
      exact List.Perm.swap _ _ _
    · refine List.pairwise_cons.2 ⟨fun y hy => ?_, List.pairwise_singleton ..⟩
      rw [List.mem_singleton.1 hy]
      exact l12
  have d1 : dueN p1 = 30 := by rw [h1]; rfl
  have d2 : dueN p2 = 50 := by rw [h2]; rfl
  have e1 : EntryOk p1 := by rw [h1]; exact ⟨by decide, rfl, by constructor <;> intro h <;> exact absurd h (by decide)⟩
  have e2 : EntryOk p2 := by rw [h2]; exact ⟨by decide, rfl, by constructor <;> intro h <;> exact absurd h (by decide)⟩
  have a1 : Post.addr p1 = I.of .u64 5 := by rw [h1]
  have a2 : Post.addr p2 = I.of .u64 6 := by rw [h2]
  have ht : tabB [p1, p2] = true := tabB_t.2 (table_iff.2 ⟨by simp, fun p hp => by
    rcases List.mem_cons.1 hp with rfl | hp
    · exact e1
    · rw [List.mem_singleton.1 hp]; exact e2, List.pairwise_cons.2 ⟨fun y hy => by
      rw [List.mem_singleton.1 hy, a1, a2]
      decide, List.pairwise_singleton ..⟩⟩)
  obtain ⟨n, hn⟩ : ∃ n : U, n = ((I.of .u64 60), ((I.of .u64 0), ((I.of .u64 0), ((I.of .u64 0), ())))) := ⟨_, rfl⟩
  have nv : n.val = 60 := by rw [hn]; rfl
  have hp := PPlan_eq [p1, p2] n (by simp)
  have hpl : planR [p1, p2] n = ([(I.of .u64 6, (U.of 50, ())), (I.of .u64 5, (U.of 10, ()))], I.of .i64 0) := by
    unfold planR
    rw [if_pos ht, e, nv]
    simp only [List.map_cons, List.map_nil, planS, d1, d2, a1, a2]
    rfl
  rw [hpl, h1, h2, hn] at hp
  refine Wp.optF hp ?_
  refine Wp.brnT rfl (Wp.brnT rfl (Wp.brnT rfl (Wp.brnT rfl (Wp.brnT rfl ?_))))
  rfl

theorem few_ltb {n : Nat} {X : Type} {l : List X} (h : l.length ≤ LIM) (hn : n < 1000000) (hc : I.ltb (I.of .i64 (n : Int)) (I.ofNat .i64 (lenL l)) = false) : l.length ≤ n := by
  have h : l.length ≤ 140737488355328 := h
  rw [i6_of, i6_ofNat, lenL_eq, i6_ltb (by omega) (by omega)] at hc
  have := of_decide_eq_false hc
  omega

/-- Plan agrees with the reference. -/
theorem plan_law (l : List Post) (d : List Call) (pool : U) (few : I .u64) (hl : l.length ≤ LIM) (hd : d.length ≤ LIM) : pontagelaw20_PayoutPlan ((l, (d, (pool, (few, ())))), ()) = some ((true, ()), ()) := by
  refine Wp.out (T := fun o => o = some ((true, ()), ())) ?_
  unfold pontagelaw20_PayoutPlan
  refine Wp.jn (fun s => s = ((l, (d, (few, ()))), (pool, ())) ∧ l.length ≤ 30 ∧ d.length ≤ 40) ?_ ?_
  · rintro s ⟨rfl, hl, hd⟩
    refine Wp.call (Generate_ok d (by omega)) ?_
    rintro _ ⟨x, rfl, hx⟩
    have hxl := hx.1
    simp only [of64_0, of64_1, of64_2]
    have hsel : ∀ k, k < 2 → (Arr.sel (X := List Post) [] 2 (l, (x, ())) k).length ≤ 1073741824 := by
      intro k hk
      rcases (by omega : k = 0 ∨ k = 1) with rfl | rfl
      · show l.length ≤ _; omega
      · show x.length ≤ _; omega
    refine Wp.iter (fun s => ∃ i, s = ((few, ((l, (x, ())), (i6 i, ()))), (pool, ())) ∧ i ≤ 2) (fun s => 2 - s.1.2.2.1.val.toNat) ?_ ⟨0, rfl, by omega⟩ ?_
    · rintro s ⟨i, rfl, hi⟩
      simp only [i6_ltb (show i < 9223372036854775808 by omega) (show 2 < 9223372036854775808 by omega), i6_nat (show i < 9223372036854775808 by omega)]
      refine Wp.brn (fun hc => ?_) (fun hc => Wp.done (Wp.optF awake20 rfl))
      have hc := of_decide_eq_true hc
      refine Wp.brnT (i6_inB (by omega) (by omega)) ?_
      obtain ⟨y, hy⟩ : ∃ y, y = Arr.sel (X := List Post) [] 2 (l, (x, ())) i := ⟨_, rfl⟩
      have hyl : y.length ≤ 1073741824 := by rw [hy]; exact hsel i hc
      obtain ⟨ns, hns⟩ : ∃ ns : U × (U × Unit), ns = (pool, (((I.rem few (I.of .u64 3000)), ((I.of .u64 0), ((I.of .u64 0), ((I.of .u64 0), ())))), ())) := ⟨_, rfl⟩
      refine Wp.iter (fun s => ∃ j, s = ((few, (y, ((l, (x, ())), (i6 i, (ns, (i6 j, ())))))), (pool, ())) ∧ j ≤ 2) (fun s => 2 - s.1.2.2.2.2.2.1.val.toNat) ?_ ⟨0, by subst hy; subst hns; rfl, by omega⟩ ?_
      · rintro s ⟨j, rfl, hj⟩
        simp only [i6_ltb (show j < 9223372036854775808 by omega) (show 2 < 9223372036854775808 by omega), i6_nat (show j < 9223372036854775808 by omega), i6_add (show j + 1 < 9223372036854775808 by omega), i6_add (show i + 1 < 9223372036854775808 by omega)]
        refine Wp.brn (fun hc2 => ?_) (fun hc2 => ?_)
        · have hc2 := of_decide_eq_true hc2
          refine Wp.brnT (i6_inB (by omega) (by omega)) ?_
          refine Wp.optF (PPlan_eq y _ hyl) (Wp.optF (RPlan_eq y _ hyl) ?_)
          refine Wp.brnF (niff_neb.2 rfl) ?_
          refine Wp.optF (EqualPayments_same _ (Nat.le_trans (planR_len _ _) hyl)) (Wp.brnF rfl ?_)
          exact Wp.again ⟨j + 1, rfl, by omega⟩ (by show 2 - (i6 (j + 1)).val.toNat < 2 - (i6 j).val.toNat; rw [i6_val (by omega), i6_val (by omega)]; omega)
        · exact Wp.done (Wp.again ⟨i + 1, rfl, by omega⟩ (by show 2 - (i6 (i + 1)).val.toNat < 2 - (i6 i).val.toNat; rw [i6_val (by omega), i6_val (by omega)]; omega))
      · rw [K0_eq]
        show 2 - _ < _
        omega
    · rw [K0_eq]
      show 2 - _ < _
      omega
  · intro j0 hj0
    refine Wp.jn (fun s => ∃ b : Bool, s = ((l, (d, (few, (b, ())))), (pool, ())) ∧ (b = false → l.length ≤ 30 ∧ d.length ≤ 40)) ?_ ?_
    · rintro s ⟨b, rfl, hb⟩
      refine Wp.brn (fun _ => Wp.optF awake20 rfl) (fun h => hj0 _ ⟨rfl, hb h⟩)
    · intro j1 hj1
      refine Wp.brn (fun _ => hj1 _ ⟨true, rfl, fun h => Bool.noConfusion h⟩) (fun h => hj1 _ ⟨_, rfl, fun h2 => ⟨few_ltb (n := 30) hl (by omega) h, few_ltb (n := 40) hd (by omega) h2⟩⟩)
end Sym

/- Payments: the law of sums and of Apply. -/
namespace Sym
open Go

theorem errS_snd_self (n : Nat) : I.neb (errS n).2 (errS n).2 = false := niff_neb.2 rfl

theorem applyS_len : ∀ (p : List Pay) (l : List Post), (applyS l p).1.length ≤ l.length
  | [], l => Nat.le_refl _
  | q :: r, l => by
    simp only [applyS]
    split
    · rename_i h
      exact Nat.le_trans (applyS_len r _) (Nat.le_of_eq (settle_len h))
    · simp

/-- Sum and Apply agree with the reference. -/
theorem sumApply_law (l : List Pay) (d : List Call) (raw : List Post) (hl : l.length ≤ LIM) (hd : d.length ≤ LIM) (hr : raw.length ≤ LIM) : pontagelaw20_PayoutSumApply ((l, (d, (raw, ()))), ()) = some ((true, ()), ()) := by
  refine Wp.out (T := fun o => o = some ((true, ()), ())) ?_
  unfold pontagelaw20_PayoutSumApply
  refine Wp.jn (fun s => s = ((l, (d, (raw, ()))), ()) ∧ l.length ≤ 30 ∧ d.length ≤ 40 ∧ raw.length ≤ 30) ?_ ?_
  · rintro s ⟨rfl, hl, hd, hr⟩
    refine Wp.optF (PSum_eq (l := l) (by omega)) (Wp.optF (RSum_eq (l := l) (by omega)) ?_)
    refine Wp.jn (fun s => s = ((l, (d, (raw, ()))), ())) ?_ ?_
    · rintro s rfl
      refine Wp.brnT (fits_le (by show l.length ≤ _; omega)) ?_
      simp only [lenL_eq, i6_ofNat, of64_0, of64_1, of64_2]
      refine Wp.iter (fun s => ∃ i few, s = ((l, (d, (raw, (i6 i, ())))), (few, ())) ∧ i ≤ l.length ∧ few.length = l.length) (fun s => l.length - s.1.2.2.2.1.val.toNat) ?_ ⟨0, l, rfl, by omega, rfl⟩ ?_
      · rintro s ⟨i, few, rfl, hi, hf⟩
        simp only [hf, i6_ltb (show i < 9223372036854775808 by omega) (show l.length < 9223372036854775808 by omega), i6_nat (show i < 9223372036854775808 by omega), i6_add (show i + 1 < 9223372036854775808 by omega)]
        refine Wp.brn (fun hc => ?_) (fun hc => ?_)
        · have hc := of_decide_eq_true hc
          have bi : inB (i6 i) l.length = true := i6_inB (by omega) (by omega)
          refine Wp.brnT bi (Wp.brnT bi (Wp.brnT bi ?_))
          exact Wp.again ⟨i + 1, _, rfl, by omega, by rw [setL, setAt_eq, List.length_set]; exact hf⟩ (by show l.length - (i6 (i + 1)).val.toNat < l.length - (i6 i).val.toNat; rw [i6_val (by omega), i6_val (by omega)]; omega)
        · refine Wp.done ?_
          have hps : ∀ k, k < 2 → (Arr.sel (X := List Pay) [] 2 (l, (few, ())) k).length ≤ 1073741824 := by
            intro k hk
            rcases (by omega : k = 0 ∨ k = 1) with rfl | rfl
            · show l.length ≤ _; omega
            · show few.length ≤ _; omega
          refine Wp.iter (fun s => ∃ i, s = ((d, (raw, ((l, (few, ())), (i6 i, ())))), ()) ∧ i ≤ 2) (fun s => 2 - s.1.2.2.2.1.val.toNat) ?_ ⟨0, rfl, by omega⟩ ?_
          · rintro s ⟨i, rfl, hi⟩
            simp only [i6_ltb (show i < 9223372036854775808 by omega) (show 2 < 9223372036854775808 by omega), i6_nat (show i < 9223372036854775808 by omega)]
            refine Wp.brn (fun hc => ?_) (fun hc => Wp.done (Wp.optF awake20 rfl))
            have hc := of_decide_eq_true hc
            refine Wp.brnT (i6_inB (by omega) (by omega)) ?_
            obtain ⟨p, hp⟩ : ∃ p, p = Arr.sel (X := List Pay) [] 2 (l, (few, ())) i := ⟨_, rfl⟩
            have hpl : p.length ≤ 1073741824 := by rw [hp]; exact hps i hc
            refine Wp.call (Generate_ok d (by omega)) ?_
            rintro _ ⟨x, rfl, hx⟩
            have hxl := hx.1
            have hxs : ∀ k, k < 2 → (Arr.sel (X := List Post) [] 2 (raw, (x, ())) k).length ≤ 1073741824 := by
              intro k hk
              rcases (by omega : k = 0 ∨ k = 1) with rfl | rfl
              · show raw.length ≤ _; omega
              · show x.length ≤ _; omega
            refine Wp.iter (fun s => ∃ j, s = ((d, (raw, (p, ((l, (few, ())), (i6 i, ((raw, (x, ())), (i6 j, ()))))))), ()) ∧ j ≤ 2) (fun s => 2 - s.1.2.2.2.2.2.2.1.val.toNat) ?_ ⟨0, by subst hp; rfl, by omega⟩ ?_
            · rintro s ⟨j, rfl, hj⟩
              simp only [i6_ltb (show j < 9223372036854775808 by omega) (show 2 < 9223372036854775808 by omega), i6_nat (show j < 9223372036854775808 by omega), i6_add (show j + 1 < 9223372036854775808 by omega), i6_add (show i + 1 < 9223372036854775808 by omega)]
              refine Wp.brn (fun hc2 => ?_) (fun hc2 => ?_)
              · have hc2 := of_decide_eq_true hc2
                refine Wp.brnT (i6_inB (by omega) (by omega)) ?_
                have hy := hxs j hc2
                refine Wp.optF (PApply_eq _ p hy hpl) (Wp.optF (RApply_eq _ p hy hpl) ?_)
                refine Wp.brnF (niff_neb.2 rfl) ?_
                refine Wp.optF (EqualPosters_same _ (Nat.le_trans (applyS_len _ _) hy)) (Wp.brnF rfl ?_)
                exact Wp.again ⟨j + 1, rfl, by omega⟩ (by show 2 - (i6 (j + 1)).val.toNat < 2 - (i6 j).val.toNat; rw [i6_val (by omega), i6_val (by omega)]; omega)
              · exact Wp.done (Wp.again ⟨i + 1, rfl, by omega⟩ (by show 2 - (i6 (i + 1)).val.toNat < 2 - (i6 i).val.toNat; rw [i6_val (by omega), i6_val (by omega)]; omega))
            · rw [K0_eq]
              show 2 - _ < _
              omega
          · rw [K0_eq]
            show 2 - _ < _
            omega
      · rw [K0_eq]
        show l.length - _ < _
        omega
    · intro j3 hj3
      refine Wp.brnF ?_ (Wp.brnF (errS_snd_self _) (hj3 _ rfl))
      rw [show Ty.eqb (.arr 4 (.int .u64)) (errS (sumN (l.map amt))).1 (errS (sumN (l.map amt))).1 = true from eqb_self _]
      rfl
  · intro j0 hj0
    refine Wp.jn (fun s => ∃ b : Bool, s = ((l, (d, (raw, (b, ())))), ()) ∧ (b = false → l.length ≤ 30 ∧ d.length ≤ 40 ∧ raw.length ≤ 30)) ?_ ?_
    · rintro s ⟨b, rfl, hb⟩
      refine Wp.brn (fun _ => Wp.optF awake20 rfl) (fun h => hj0 _ ⟨rfl, hb h⟩)
    · intro j1 hj1
      refine Wp.brn (fun _ => hj1 _ ⟨true, rfl, fun h => Bool.noConfusion h⟩) (fun h => Wp.brn (fun _ => hj1 _ ⟨true, rfl, fun h => Bool.noConfusion h⟩) (fun h2 => hj1 _ ⟨_, rfl, fun h3 => ⟨few_ltb (n := 30) hl (by omega) h, few_ltb (n := 40) hd (by omega) h2, few_ltb (n := 30) hr (by omega) h3⟩⟩))
end Sym

/- Payments: what a plan pays, and what the table is behind it. -/
namespace Sym
open Go

theorem sumN_perm {l m : List Nat} (h : l.Perm m) : sumN l = sumN m := by
  induction h with
  | nil => rfl
  | cons x _ ih => simp only [sumN, List.foldr_cons] at *; omega
  | swap x y l => simp only [sumN, List.foldr_cons]; omega
  | trans _ _ ih1 ih2 => exact ih1.trans ih2

theorem ow_iff {p : Post} : ow p = true ↔ dueN p ≠ 0 := by
  unfold ow
  rw [nz_u]
  simp [dueN]

theorem sum_filter (l : List Post) : sumN ((l.filter ow).map dueN) = sumN (l.map dueN) := by
  induction l with
  | nil => rfl
  | cons p l ih =>
    rw [List.filter_cons]
    split
    · simp only [sumN, List.map_cons, List.foldr_cons] at *; omega
    · rename_i h
      have : dueN p = 0 := by
        have := mt ow_iff.2 h
        omega
      simp only [sumN, List.map_cons, List.foldr_cons] at *; omega

noncomputable abbrev ord (x : List Post) : List Post := (sortI x).map (·.1)
theorem ord_sum (x : List Post) : sumN ((ord x).map dueN) = sumN (x.map dueN) := by
  rw [← sum_filter x]
  exact sumN_perm ((sortI_filter x).map dueN)
theorem ord_mem {x : List Post} {p : Post} (h : p ∈ ord x) : p ∈ x ∧ ow p = true := List.mem_filter.1 ((sortI_filter x).mem_iff.1 h)
theorem ord_in {x : List Post} {p : Post} (h : p ∈ x) (ho : ow p = true) : p ∈ ord x := (sortI_filter x).mem_iff.2 (List.mem_filter.2 ⟨h, ho⟩)

/-- The addresses of a table in the order of payment differ. -/
theorem ord_apart {x : List Post} (hx : TableOk x) : (ord x).Pairwise fun p q => Post.addr p ≠ Post.addr q := by
  have h := (table_iff.1 hx).2.2
  have h2 : (x.filter ow).Pairwise fun p q => Post.addr p ≠ Post.addr q := (h.filter ow).imp fun {p q} hlt e => by rw [e] at hlt; omega
  exact (List.Perm.pairwise_iff (fun {p q} h e => h e.symm) (sortI_filter x)).2 h2

theorem plan_sum : ∀ (o : List Post) (n : Nat), n < U.top → sumN ((planS o n).map amt) = min n (sumN (o.map dueN))
  | [], n, _ => by simp [planS, sumN]
  | p :: r, n, hn => by
    simp only [planS]
    split
    · rename_i h
      subst h
      simp [sumN]
    · have ih := plan_sum r (n - min (dueN p) n) (by omega)
      have hv : (U.of (min (dueN p) n)).val = min (dueN p) n := U.val_of (by omega)
      have : amt (p.addr, (U.of (min (dueN p) n), ())) = min (dueN p) n := hv
      simp only [sumN, List.map_cons, List.foldr_cons, this] at *
      omega

/-- The k-th payment. -/
theorem plan_at : ∀ (o : List Post) (n : Nat), n < U.top → (∀ p ∈ o, ow p = true) → ∀ k, k < (planS o n).length →
    k < o.length ∧ (rdL dY (planS o n) k).1 = Post.addr (rdL dP o k) ∧ amt (rdL dY (planS o n) k) ≠ 0
  | [], n, _, _, k, hk => by simp [planS] at hk
  | p :: r, n, hn, ho, k, hk => by
    simp only [planS] at hk ⊢
    split at hk
    · simp at hk
    · rename_i h0
      rw [if_neg h0]
      cases k with
      | zero =>
        refine ⟨by simp, rfl, ?_⟩
        show (U.of (min (dueN p) n)).val ≠ 0
        rw [U.val_of (by omega)]
        have := ow_iff.1 (ho p (by simp))
        omega
      | succ k =>
        have ⟨h1, h2, h3⟩ := plan_at r (n - min (dueN p) n) (by omega) (fun q hq => ho q (List.mem_cons_of_mem _ hq)) k (by simpa using hk)
        exact ⟨by simpa using h1, h2, h3⟩

theorem plan_mono : ∀ (o : List Post) (a b : Nat), a ≤ b → b < U.top → (planS o a).length ≤ (planS o b).length ∧
    ∀ k, k < (planS o a).length → (rdL dY (planS o a) k).1 = (rdL dY (planS o b) k).1 ∧ amt (rdL dY (planS o a) k) ≤ amt (rdL dY (planS o b) k) ∧
      (k + 1 < (planS o a).length → rdL dY (planS o a) k = rdL dY (planS o b) k)
  | [], a, b, _, _ => ⟨Nat.le_refl _, fun k hk => by simp [planS] at hk⟩
  | p :: r, a, b, hab, hb => by
    simp only [planS]
    by_cases ha : a = 0
    · rw [if_pos ha]
      exact ⟨by simp, fun k hk => by simp at hk⟩
    · rw [if_neg ha, if_neg (by omega)]
      by_cases hd : dueN p ≤ a
      · have e1 : min (dueN p) a = dueN p := by omega
        have e2 : min (dueN p) b = dueN p := by omega
        rw [e1, e2]
        have ⟨h1, h2⟩ := plan_mono r (a - dueN p) (b - dueN p) (by omega) (by omega)
        refine ⟨by simpa using h1, fun k hk => ?_⟩
        cases k with
        | zero => exact ⟨rfl, Nat.le_refl _, fun _ => rfl⟩
        | succ k =>
          have ⟨g1, g2, g3⟩ := h2 k (by simpa using hk)
          exact ⟨g1, g2, fun h => g3 (by simpa using h)⟩
      · have e1 : min (dueN p) a = a := by omega
        rw [e1, Nat.sub_self, planS_zero]
        refine ⟨by simp, fun k hk => ?_⟩
        have : k = 0 := by simpa using hk
        subst this
        refine ⟨rfl, ?_, fun h => by simp at h⟩
        show (U.of a).val ≤ (U.of (min (dueN p) b)).val
        rw [U.val_of (by omega), U.val_of (by omega)]
        omega

theorem sum_set : ∀ (l : List Post) (k : Nat) (v : Post), k < l.length → sumN ((setAt l k v).map dueN) + dueN (rdL dP l k) = sumN (l.map dueN) + dueN v
  | [], k, v, h => by simp at h
  | p :: l, 0, v, _ => by simp only [setAt, rdL, sumN, List.map_cons, List.foldr_cons]; omega
  | p :: l, k + 1, v, h => by
    have := sum_set l k v (by simpa using h)
    simp only [setAt, rdL, sumN, List.map_cons, List.foldr_cons] at *
    omega

/-- Where a member of a table stands. -/
theorem table_at {out : List Post} (h : TableOk out) {p : Post} (hp : p ∈ out) : atN out p.addr < out.length ∧ rdL dP out (atN out p.addr) = p := by
  obtain ⟨k, hk, rfl⟩ := mem_rdL dP hp
  have e : atN out (Post.addr (rdL dP out k)) = k := atN_of hk (iff_eqb.2 rfl) (fun j hj => niff_eqb.2 (by have := h.lt k hk j hj; omega))
  rw [e]
  exact ⟨hk, rfl⟩

theorem table_inj {out : List Post} (h : TableOk out) {i j : Nat} (hi : i < out.length) (hj : j < out.length) (e : Post.addr (rdL dP out i) = Post.addr (rdL dP out j)) : i = j := by
  rcases Nat.lt_trichotomy i j with h1 | h1 | h1
  · have := h.lt j hj i h1; rw [e] at this; omega
  · exact h1
  · have := h.lt i hi j h1; rw [e] at this; omega

/-- What the table is behind the payments of a plan. -/
theorem apply_plan : ∀ (o : List Post) (n : Nat) (out : List Post), n < U.top → TableOk out → (∀ p ∈ o, p ∈ out ∧ ow p = true) → (o.Pairwise fun p q => Post.addr p ≠ Post.addr q) →
    (applyS out (planS o n)).2 = I.of .i64 4 ∨ ((applyS out (planS o n)).2 = I.of .i64 0 ∧ TableOk (applyS out (planS o n)).1 ∧ (applyS out (planS o n)).1.length = out.length ∧
      (∀ i, Post.addr (rdL dP (applyS out (planS o n)).1 i) = Post.addr (rdL dP out i)) ∧
      sumN ((applyS out (planS o n)).1.map dueN) + sumN ((planS o n).map amt) = sumN (out.map dueN) ∧
      (∀ i, (∀ p ∈ o, Post.addr p ≠ Post.addr (rdL dP out i)) → rdL dP (applyS out (planS o n)).1 i = rdL dP out i) ∧
      (∀ t, t + 1 < (planS o n).length → ∀ i, i < out.length → Post.addr (rdL dP out i) = Post.addr (rdL dP o t) → dueN (rdL dP (applyS out (planS o n)).1 i) = 0))
  | [], n, out, _, ht, _, _ => .inr ⟨rfl, ht, rfl, fun _ => rfl, by simp [planS, applyS, sumN], fun _ _ => rfl, fun t h => by simp [planS] at h⟩
  | p :: r, n, out, hn, ht, hin, hap => by
    by_cases h0 : n = 0
    · subst h0
      rw [planS_zero]
      exact .inr ⟨rfl, ht, rfl, fun _ => rfl, by simp [applyS, sumN], fun _ _ => rfl, fun t h => by simp at h⟩
    · have hpl : planS (p :: r) n = (p.addr, (U.of (min (dueN p) n), ())) :: planS r (n - min (dueN p) n) := if_neg h0
      rw [hpl]
      simp only [applyS]
      have ⟨hk, hkp⟩ := table_at ht (hin p (by simp)).1
      obtain ⟨m, hm⟩ : ∃ m, m = min (dueN p) n := ⟨_, rfl⟩
      rw [← hm]
      have hmv : (U.of m).val = m := U.val_of (by omega)
      have hmd : m ≤ dueN p := by omega
      have hst : settleS out p.addr (U.of m) = if (Post.paid p).val + m < U.top then (setAt out (atN out p.addr) (settled p (U.of m)), I.of .i64 0) else ([], I.of .i64 4) := by
        unfold settleS
        rw [if_pos (tabB_t.2 ht), if_pos hk, hkp, hmv, if_pos (show m ≤ (Post.due p).val from hmd)]
      rw [hst]
      by_cases hpd : (Post.paid p).val + m < U.top
      · rw [if_pos hpd]
        simp only [show (I.of .i64 0).val = 0 from rfl, if_true]
        obtain ⟨k, hkk⟩ : ∃ k, k = atN out p.addr := ⟨_, rfl⟩
        rw [← hkk] at hk hkp ⊢
        have hT : TableOk (setAt out k (settled p (U.of m))) := set_ok ht hk (settled_ok ((table_iff.1 ht).2.1 p (hin p (by simp)).1) (by rw [hmv]; exact hmd) (by rw [hmv]; exact hpd)) (by rw [hkp]; rfl)
        have ⟨hap1, hap2⟩ := List.pairwise_cons.1 hap
        have hlen : (setAt out k (settled p (U.of m))).length = out.length := by rw [setAt_eq, List.length_set]
        have haddr : ∀ i, Post.addr (rdL dP (setAt out k (settled p (U.of m))) i) = Post.addr (rdL dP out i) := by
          intro i
          rw [rdL_set]
          split
          · rename_i e
            rw [e.1, hkp]
            rfl
          · rfl
        have hin' : ∀ q ∈ r, q ∈ setAt out k (settled p (U.of m)) ∧ ow q = true := by
          intro q hq
          have ⟨h1, h2⟩ := hin q (List.mem_cons_of_mem _ hq)
          refine ⟨?_, h2⟩
          obtain ⟨i, hi, e⟩ := mem_rdL dP h1
          have hik : i ≠ k := by
            rintro rfl
            rw [hkp] at e
            exact hap1 q hq (by rw [e])
          have : rdL dP (setAt out k (settled p (U.of m))) i = q := by rw [rdL_set, if_neg (by omega), e]
          rw [← this]
          exact rdL_mem dP _ i (by rw [hlen]; exact hi)
        have hsum := sum_set out k (settled p (U.of m)) hk
        rw [hkp] at hsum
        have hdn : dueN (settled p (U.of m)) = dueN p - m := by
          show (U.of ((Post.due p).val - (U.of m).val)).val = _
          rw [hmv, U.val_of (by have := U.lt (Post.due p); omega)]
          rfl
        have ham : amt (p.addr, (U.of m, ())) = m := hmv
        rcases apply_plan r (n - m) (setAt out k (settled p (U.of m))) (by omega) hT hin' hap2 with h | ⟨g1, g2, g3, g4, g5, g6, g7⟩
        · exact .inl h
        · refine .inr ⟨g1, g2, g3.trans hlen, fun i => (g4 i).trans (haddr i), ?_, fun i hi => ?_, fun t htl i hi he => ?_⟩
          · simp only [List.map_cons, ham]
            have : sumN (m :: (planS r (n - m)).map amt) = m + sumN ((planS r (n - m)).map amt) := rfl
            rw [this]
            omega
          · rw [g6 i (fun q hq => by rw [haddr]; exact hi q (List.mem_cons_of_mem _ hq)), rdL_set, if_neg]
            rintro ⟨rfl, _⟩
            exact hi p (by simp) (by rw [hkp])
          · cases t with
            | zero =>
              -- the first is paid whole, and stays so
              have hr : 0 < (planS r (n - m)).length := by simpa using htl
              have hmn : m ≠ n := by
                rintro rfl
                rw [Nat.sub_self, planS_zero] at hr
                simp at hr
              have hmd : m = dueN p := by omega
              have hik : i = k := table_inj ht hi hk (by rw [he, hkp]; rfl)
              subst hik
              have hpr : ∀ q ∈ r, Post.addr q ≠ Post.addr (rdL dP (setAt out i (settled p (U.of m))) i) := fun q hq => by
                rw [haddr, hkp]
                exact fun e => hap1 q hq e.symm
              rw [g6 i hpr, rdL_set, if_pos ⟨rfl, hk⟩, hdn]
              omega
            | succ t =>
              exact g7 t (by simpa using htl) i (by rw [hlen]; exact hi) (by rw [haddr]; exact he)
      · rw [if_neg hpd]
        exact .inl rfl
end Sym

/- Payments: a greater pool pays nobody less. -/
namespace Sym
open Go

theorem cmp_gt (a b : U) : I.ltb (I.of .i64 0) (cmpS a b) = decide (b.val < a.val) := by
  unfold cmpS
  by_cases h : a.val < b.val
  · rw [if_pos h, decide_eq_false (by omega)]; rfl
  · rw [if_neg h]
    by_cases h2 : b.val < a.val
    · rw [if_pos h2, decide_eq_true h2]; rfl
    · rw [if_neg h2, decide_eq_false h2]; rfl

theorem planR_ok {x : List Post} (hx : TableOk x) (n : U) : planR x n = (planS (ord x) n.val, I.of .i64 0) := if_pos (tabB_t.2 hx)

theorem ord_len (x : List Post) : (ord x).length ≤ x.length := by rw [List.length_map]; exact sortI_len x

theorem monotone_law (d : List Call) (n m : U) (f0 f1 : I .u64) (hd : d.length ≤ LIM) : pontagelaw20_PayoutMonotone ((d, (n, (m, ((f0, (f1, ())), ())))), ()) = some ((true, ()), ()) := by
  refine Wp.out (T := fun o => o = some ((true, ()), ())) ?_
  unfold pontagelaw20_PayoutMonotone
  refine Wp.brn (fun _ => Wp.optF awake20 rfl) (fun hc => ?_)
  have hd := few_ltb (n := 40) hd (by omega) hc
  refine Wp.call (Generate_ok d (by omega)) ?_
  rintro _ ⟨x, rfl, hx⟩
  have hxl := hx.1
  simp only [of64_0, of64_1, of64_2]
  obtain ⟨ns, hns⟩ : ∃ ns : (U × (U × Unit)) × ((U × (U × Unit)) × Unit), ns = ((n, (m, ())), ((((I.rem f0 (I.of .u64 3000)), ((I.of .u64 0), ((I.of .u64 0), ((I.of .u64 0), ())))), (((I.rem f1 (I.of .u64 3000)), ((I.of .u64 0), ((I.of .u64 0), ((I.of .u64 0), ())))), ())), ())) := ⟨_, rfl⟩
  refine Wp.iter (fun s => ∃ i, s = ((x, (ns, (i6 i, ()))), ()) ∧ i ≤ 2) (fun s => 2 - s.1.2.2.1.val.toNat) ?_ ⟨0, by subst hns; rfl, by omega⟩ ?_
  · rintro s ⟨i, rfl, hi⟩
    simp only [i6_ltb (show i < 9223372036854775808 by omega) (show 2 < 9223372036854775808 by omega), i6_nat (show i < 9223372036854775808 by omega)]
    refine Wp.brn (fun hc => ?_) (fun hc => Wp.done (Wp.optF awake20 rfl))
    have hc := of_decide_eq_true hc
    have hmi : 2 - (i6 (i + 1)).val.toNat < 2 - (i6 i).val.toNat := by rw [i6_val (by omega), i6_val (by omega)]; omega
    refine Wp.brnT (i6_inB (by omega) (by omega)) ?_
    refine Wp.jn (fun s => ∃ a b : U, a.val ≤ b.val ∧ s = ((x, (ns, (i6 i, ()))), (a, (b, ())))) ?_ ?_
    · rintro s ⟨a, b, hab, rfl⟩
      refine Wp.optF (PPlan_eq x a (by omega)) (Wp.optF (PPlan_eq x b (by omega)) ?_)
      rw [planR_ok hx a, planR_ok hx b]
      have ⟨hle, hm⟩ := plan_mono (ord x) a.val b.val hab b.lt
      have hol := ord_len x
      have hpl := planS_len (ord x) a.val
      have hql := planS_len (ord x) b.val
      obtain ⟨p, hp⟩ : ∃ p, p = planS (ord x) a.val := ⟨_, rfl⟩
      obtain ⟨q, hq⟩ : ∃ q, q = planS (ord x) b.val := ⟨_, rfl⟩
      rw [← hp, ← hq] at hm hle
      rw [← hp] at hpl
      rw [← hq] at hql
      rw [← hp, ← hq]
      refine Wp.jn (fun s => ∃ t, s = ((x, (p, (q, (ns, (i6 i, t))))), ())) ?_ ?_
      · rintro s ⟨t, rfl⟩
        refine Wp.iter (fun s => ∃ k t, s = ((x, (p, (q, (i6 k, (ns, (i6 i, t)))))), ()) ∧ k ≤ p.length) (fun s => p.length - s.1.2.2.2.1.val.toNat) ?_ ⟨0, t, rfl, by omega⟩ ?_
        · rintro s ⟨k, t, rfl, hk⟩
          simp only [lenL_eq, i6_ofNat, i6_ltb (show k < 9223372036854775808 by omega) (show p.length < 9223372036854775808 by omega), i6_nat (show k < 9223372036854775808 by omega), i6_add (show k + 1 < 9223372036854775808 by omega), i6_add (show i + 1 < 9223372036854775808 by omega), i6_ltb (show k + 1 < 9223372036854775808 by omega) (show p.length < 9223372036854775808 by omega)]
          refine Wp.brn (fun hc => ?_) (fun hc => Wp.done (Wp.again ⟨i + 1, rfl, by omega⟩ hmi))
          have hc := of_decide_eq_true hc
          have ⟨g1, g2, g3⟩ := hm k hc
          have bp : inB (i6 k) p.length = true := i6_inB (by omega) (by omega)
          have bq : inB (i6 k) q.length = true := i6_inB (by omega) (by omega)
          have hmk : p.length - (i6 (k + 1)).val.toNat < p.length - (i6 k).val.toNat := by rw [i6_val (by omega), i6_val (by omega)]; omega
          refine Wp.brnT bp (Wp.brnT bq (Wp.brnF (niff_neb.2 (congrArg (·.val) g1)) (Wp.brnT bp (Wp.brnT bq ?_))))
          refine Wp.optF (uint256_Cmp_eq _ _) ?_
          refine Wp.brnF ((cmp_gt _ _).trans (decide_eq_false (Nat.not_lt.2 g2))) ?_
          refine Wp.brn (fun hl => ?_) (fun hl => ?_)
          · have hl := of_decide_eq_true hl
            refine Wp.brnT bp (Wp.brnT bq (Wp.brnF (congrArg bnot ((eqbY_iff _ _).2 (g3 hl))) ?_))
            exact Wp.again ⟨k + 1, t, rfl, by omega⟩ hmk
          · exact Wp.again ⟨k + 1, t, rfl, by omega⟩ hmk
        · rw [K0_eq]
          show p.length - _ < _
          omega
      · intro j hj
        refine Wp.brnF rfl (Wp.brnF rfl (Wp.brnF ?_ (hj _ ⟨_, rfl⟩)))
        simp only [lenL_eq, i6_ofNat, i6_ltb (show q.length < 9223372036854775808 by omega) (show p.length < 9223372036854775808 by omega)]
        exact decide_eq_false (by omega)
    · intro j hj
      refine Wp.optF (uint256_Cmp_eq _ _) ?_
      refine Wp.brn (fun h => ?_) (fun h => ?_)
      · have h := of_decide_eq_true ((cmp_gt _ _).symm.trans h)
        exact hj _ ⟨_, _, Nat.le_of_lt h, rfl⟩
      · have h := of_decide_eq_false ((cmp_gt _ _).symm.trans h)
        exact hj _ ⟨_, _, Nat.le_of_not_lt h, rfl⟩
  · rw [K0_eq]
    show 2 - _ < _
    omega
end Sym

/- Payments: the oldest debts first. -/
namespace Sym
open Go

theorem errno_dec {f : I .i64} (h : f = I.of .i64 4 ∨ f = I.of .i64 0) : (I.eqb f (I.of .i64 4) = false → f = I.of .i64 0) := by
  rcases h with rfl | rfl
  · intro h; exact absurd h (by decide)
  · intro _; rfl

theorem oldest_law (d : List Call) (few : I .u64) (hd : d.length ≤ LIM) : pontagelaw20_PayoutOldestFirst ((d, (few, ())), ()) = some ((true, ()), ()) := by
  refine Wp.out (T := fun o => o = some ((true, ()), ())) ?_
  unfold pontagelaw20_PayoutOldestFirst
  refine Wp.brn (fun _ => Wp.optF awake20 rfl) (fun hc => ?_)
  have hd := few_ltb (n := 40) hd (by omega) hc
  refine Wp.call (Generate_ok d (by omega)) ?_
  rintro _ ⟨x, rfl, hx⟩
  have hxl := hx.1
  obtain ⟨n, hn⟩ : ∃ n : U, n = ((I.rem few (I.of .u64 4000)), ((I.of .u64 0), ((I.of .u64 0), ((I.of .u64 0), ())))) := ⟨_, rfl⟩
  have hP := PPlan_eq x n (by omega)
  rw [planR_ok hx n] at hP
  have hol := ord_len x
  have hpl := planS_len (ord x) n.val
  have hat := plan_at (ord x) n.val n.lt (fun p hp => (ord_mem hp).2)
  have hA := apply_plan (ord x) n.val x n.lt hx (fun p hp => ord_mem hp) (ord_apart hx)
  have hPA := PApply_eq x (planS (ord x) n.val) (by omega) (by omega)
  obtain ⟨p, hp⟩ : ∃ p, p = planS (ord x) n.val := ⟨_, rfl⟩
  rw [← hp] at hP hpl hat hA hPA
  subst hn
  refine Wp.optF hP (Wp.optF hPA ?_)
  obtain ⟨R, hR⟩ : ∃ R, R = applyS x p := ⟨_, rfl⟩
  rw [← hR] at hA ⊢
  obtain ⟨y, f⟩ := R
  have hf : f = I.of .i64 4 ∨ f = I.of .i64 0 := hA.elim .inl fun h => .inr h.1
  refine Wp.jn (fun s => s = ((x, (p, (I.of .i64 0, (y, (f, ()))))), ()) ∧ f = I.of .i64 0) ?_ ?_
  · rintro s ⟨rfl, rfl⟩
    rcases hA with h | ⟨_, gT, gl, ga, _, _, g7⟩
    · exact absurd (show (I.of .i64 0).val = (I.of .i64 4).val from congrArg I.val h) (by decide)
    have gT : TableOk y := gT
    have gl : y.length = x.length := gl
    have ga : ∀ i, Post.addr (rdL dP y i) = Post.addr (rdL dP x i) := ga
    have g7 : ∀ t, t + 1 < p.length → ∀ i, i < x.length → Post.addr (rdL dP x i) = Post.addr (rdL dP (ord x) t) → dueN (rdL dP y i) = 0 := g7
    have hmem : ∀ k, k < p.length → rdL dP (ord x) k ∈ x := fun k hk => (ord_mem (rdL_mem dP _ k (hat k hk).1)).1
    refine Wp.jn (fun s => s = ((x, (p, (y, ()))), ())) ?_ ?_
    · rintro s rfl
      simp only [lenL_eq, i6_ofNat, of64_0, of64_1]
      refine Wp.iter (fun s => ∃ k, s = ((x, (p, (y, (i6 k, ())))), ()) ∧ k ≤ p.length) (fun s => p.length - s.1.2.2.2.1.val.toNat) ?_ ⟨0, rfl, by omega⟩ ?_
      · rintro s ⟨k, rfl, hk⟩
        simp only [i6_add (show k + 1 < 9223372036854775808 by omega), i6_ltb (show k + 1 < 9223372036854775808 by omega) (show p.length < 9223372036854775808 by omega), i6_nat (show k < 9223372036854775808 by omega)]
        refine Wp.brn (fun hc => ?_) (fun _ => Wp.done ?_)
        · have hc := of_decide_eq_true hc
          have ⟨h1, h2, _⟩ := hat k (by omega)
          refine Wp.brnT (i6_inB (by omega) (by omega)) ?_
          refine Wp.optF (PFind_eq (l := y) _ (by omega)) ?_
          obtain ⟨i, hi, ei⟩ := mem_rdL dP (hmem k (by omega))
          have hay : atN y (rdL dY p k).1 = i := by
            refine atN_of (by omega) (iff_eqb.2 (by rw [ga, ei, h2])) (fun j hj => niff_eqb.2 ?_)
            have := gT.lt i (by omega) j hj
            rw [ga i, ei, ← h2] at this
            omega
          have eI : atI y (rdL dY p k).1 = i6 i := by unfold atI; rw [hay, if_pos (by omega)]
          rw [show atI y (rdL Z_S_api_Payment p k).1 = i6 i from eI]
          simp only [i6_nat (show i < 9223372036854775808 by omega), i6_ltb (show i < 9223372036854775808 by omega) (show 0 < 9223372036854775808 by omega)]
          refine Wp.brnF (decide_eq_false (by omega)) (Wp.brnT (i6_inB (by rw [gl]; exact hi) (by omega)) (Wp.brnF ?_ ?_))
          · rw [show bnot (Ty.eqb (.arr 4 (.int .u64)) (rdL dP y i).2.1 Z_U) = decide ((Post.due (rdL dP y i)).val ≠ 0) from nz_u]
            have := g7 k hc i hi (by rw [ei])
            exact decide_eq_false (by simpa [dueN] using this)
          · exact Wp.again ⟨k + 1, rfl, by omega⟩ (by show p.length - (i6 (k + 1)).val.toNat < p.length - (i6 k).val.toNat; rw [i6_val (by omega), i6_val (by omega)]; omega)
        · refine Wp.iter (fun s => ∃ k, s = ((x, (p, (y, (i6 k, ())))), ()) ∧ k ≤ p.length) (fun s => p.length - s.1.2.2.2.1.val.toNat) ?_ ⟨0, rfl, by omega⟩ ?_
          · rintro s ⟨k, rfl, hk⟩
            simp only [i6_ltb (show k < 9223372036854775808 by omega) (show p.length < 9223372036854775808 by omega), i6_nat (show k < 9223372036854775808 by omega)]
            refine Wp.brn (fun hc => ?_) (fun _ => Wp.done (Wp.optF awake20 rfl))
            have hc := of_decide_eq_true hc
            have ⟨h1, h2, _⟩ := hat k hc
            refine Wp.brnT (i6_inB (by omega) (by omega)) ?_
            refine Wp.optF (PFind_eq (l := x) _ (by omega)) ?_
            have ⟨hi, ei⟩ := table_at hx (hmem k hc)
            obtain ⟨i, hii⟩ : ∃ i, i = atN x (Post.addr (rdL dP (ord x) k)) := ⟨_, rfl⟩
            rw [← hii] at hi ei
            have eI : atI x (rdL dY p k).1 = i6 i := by unfold atI; rw [h2, ← hii, if_pos hi]
            rw [show atI x (rdL Z_S_api_Payment p k).1 = i6 i from eI]
            refine Wp.iter (fun s => ∃ j, s = ((x, (p, (y, (i6 k, (i6 i, (i6 j, ())))))), ()) ∧ j ≤ x.length) (fun s => x.length - s.1.2.2.2.2.2.1.val.toNat) ?_ ⟨0, rfl, by omega⟩ ?_
            · rintro s ⟨j, rfl, hj⟩
              simp only [i6_ltb (show j < 9223372036854775808 by omega) (show x.length < 9223372036854775808 by omega), i6_ltb (show i < 9223372036854775808 by omega) (show 0 < 9223372036854775808 by omega), i6_nat (show j < 9223372036854775808 by omega), i6_nat (show i < 9223372036854775808 by omega), i6_add (show j + 1 < 9223372036854775808 by omega), i6_add (show k + 1 < 9223372036854775808 by omega)]
              refine Wp.brn (fun hc2 => ?_) (fun _ => ?_)
              · have hc2 := of_decide_eq_true hc2
                have bj : inB (i6 j) x.length = true := i6_inB (by omega) (by omega)
                have hm : x.length - (i6 (j + 1)).val.toNat < x.length - (i6 j).val.toNat := by rw [i6_val (by omega), i6_val (by omega)]; omega
                refine Wp.brnF (decide_eq_false (by omega)) (Wp.brnT bj ?_)
                refine Wp.brn (fun hs => ?_) (fun _ => Wp.again ⟨j + 1, rfl, by omega⟩ hm)
                have hs : (0 : Int) < (Post.since (rdL dP x j)).val := iff_ltb.1 hs
                refine Wp.brnT bj (Wp.brnT (i6_inB (by omega) (by omega)) ?_)
                refine Wp.brn (fun ho => ?_) (fun _ => Wp.again ⟨j + 1, rfl, by omega⟩ hm)
                have ho : (Post.since (rdL dP x j)).val < (Post.since (rdL dP x i)).val := iff_ltb.1 ho
                rw [ei] at ho
                refine Wp.brnT (i6_inB (by omega) (by omega)) ?_
                have hE := (hx.2 j hc2).1.2.2
                have how : ow (rdL dP x j) = true := ow_iff.2 fun h => by have := hE.2 h; omega
                obtain ⟨t, ht, et⟩ := mem_rdL dP (ord_in (rdL_mem dP x j hc2) how)
                have htk : t < k := by
                  rcases Nat.lt_trichotomy t k with h | h | h
                  · exact h
                  · subst h; rw [et] at ho; omega
                  · have := List.pairwise_iff_getElem.1 (sortI_fst x) k t (by omega) ht h
                    rw [← rdL_eq dP (ord x) k (by omega), ← rdL_eq dP (ord x) t ht] at this
                    unfold leP at this
                    rw [et] at this
                    omega
                refine Wp.brnF ?_ (Wp.again ⟨j + 1, rfl, by omega⟩ hm)
                rw [show bnot (Ty.eqb (.arr 4 (.int .u64)) (rdL dP y j).2.1 Z_U) = decide ((Post.due (rdL dP y j)).val ≠ 0) from nz_u]
                have := g7 t (by omega) j hc2 (by rw [et])
                exact decide_eq_false (by simpa [dueN] using this)
              · exact Wp.done (Wp.again ⟨k + 1, rfl, by omega⟩ (by show p.length - (i6 (k + 1)).val.toNat < p.length - (i6 k).val.toNat; rw [i6_val (by omega), i6_val (by omega)]; omega))
            · rw [K0_eq]
              show x.length - _ < _
              omega
          · rw [K0_eq]
            show p.length - _ < _
            omega
      · rw [K0_eq]
        show p.length - _ < _
        omega
    · intro j hj
      refine Wp.brnF rfl (Wp.brnF rfl (Wp.brnF ?_ (hj _ rfl)))
      exact niff_neb.2 (congrArg (fun n => (i6 n).val) gl)
  · intro j3 hj3
    refine Wp.jn (fun s => ∃ b : Bool, s = ((x, (p, (I.of .i64 0, (y, (f, (b, ())))))), ()) ∧ (b = false → f = I.of .i64 0)) ?_ ?_
    · rintro s ⟨b, rfl, hb⟩
      exact Wp.brn (fun _ => Wp.optF awake20 rfl) (fun h => hj3 _ ⟨rfl, hb h⟩)
    · intro j4 hj4
      exact Wp.brnT rfl (hj4 _ ⟨_, rfl, errno_dec hf⟩)
end Sym

/- Payments: the payments total the smaller of the pool and the debts. -/
namespace Sym
open Go

theorem complete20_law (d : List Call) (pool : U) (few : I .u64) (hd : d.length ≤ LIM) : pontagelaw20_PayoutComplete ((d, (pool, (few, ()))), ()) = some ((true, ()), ()) := by
  refine Wp.out (T := fun o => o = some ((true, ()), ())) ?_
  unfold pontagelaw20_PayoutComplete
  refine Wp.brn (fun _ => Wp.optF awake20 rfl) (fun hc => ?_)
  have hd := few_ltb (n := 40) hd (by omega) hc
  refine Wp.call (Generate_ok d (by omega)) ?_
  rintro _ ⟨x, rfl, hx⟩
  have hxl := hx.1
  have hT := TotalDue_eq (l := x) (by omega)
  rw [if_pos (tabB_t.2 hx)] at hT
  obtain ⟨S, hS⟩ : ∃ S, S = sumN (x.map dueN) := ⟨_, rfl⟩
  rw [← hS] at hT
  refine Wp.optF hT ?_
  by_cases hover : S < U.top
  case neg =>
    rw [errS_ge (by omega)]
    exact Wp.brnT rfl (Wp.brnT rfl (Wp.optF awake20 rfl))
  rw [errS_lt hover]
  refine Wp.brnF rfl ?_
  simp only [of64_0, of64_1]
  have hall : (U.of S).val = S := U.val_of hover
  have h3 : I.of .i64 3 = i6 3 := rfl
  obtain ⟨ns, hns⟩ : ∃ ns : U × (U × (U × Unit)), ns = (pool, ((((I.rem few (I.of .u64 2000)), ((I.of .u64 0), ((I.of .u64 0), ((I.of .u64 0), ()))))), (U.of S, ()))) := ⟨_, rfl⟩
  refine Wp.iter (fun s => ∃ i, s = ((x, (ns, (i6 i, ()))), (U.of S, ())) ∧ i ≤ 3) (fun s => 3 - s.1.2.2.1.val.toNat) ?_ ⟨0, by subst hns; rfl, by omega⟩ ?_
  · rintro s ⟨i, rfl, hi⟩
    simp only [h3, i6_ltb (show i < 9223372036854775808 by omega) (show 3 < 9223372036854775808 by omega), i6_nat (show i < 9223372036854775808 by omega), i6_add (show i + 1 < 9223372036854775808 by omega)]
    refine Wp.brn (fun hc => ?_) (fun hc => Wp.done (Wp.optF awake20 rfl))
    have hc := of_decide_eq_true hc
    have hmi : 3 - (i6 (i + 1)).val.toNat < 3 - (i6 i).val.toNat := by rw [i6_val (by omega), i6_val (by omega)]; omega
    refine Wp.brnT (i6_inB (by omega) (by omega)) ?_
    generalize Arr.sel Z_U 3 ns i = n
    have hP := PPlan_eq x n (by omega)
    rw [planR_ok hx n] at hP
    have hol := ord_len x
    have hpl := planS_len (ord x) n.val
    have hat := plan_at (ord x) n.val n.lt (fun p hp => (ord_mem hp).2)
    have hA := apply_plan (ord x) n.val x n.lt hx (fun p hp => ord_mem hp) (ord_apart hx)
    have hsum := plan_sum (ord x) n.val n.lt
    rw [ord_sum, ← hS] at hsum
    have hPA := PApply_eq x (planS (ord x) n.val) (by omega) (by omega)
    have hPS := PSum_eq (l := planS (ord x) n.val) (by omega)
    rw [hsum, errS_lt (show min n.val S < U.top by omega)] at hPS
    obtain ⟨p, hp⟩ : ∃ p, p = planS (ord x) n.val := ⟨_, rfl⟩
    rw [← hp] at hP hpl hat hA hPA hPS hsum
    refine Wp.optF hP (Wp.optF hPS (Wp.optF hPA ?_))
    obtain ⟨R, hR⟩ : ∃ R, R = applyS x p := ⟨_, rfl⟩
    rw [← hR] at hA ⊢
    obtain ⟨y, f⟩ := R
    have hmin : minS n (U.of S) = U.of (min n.val S) := by
      rw [← U.of_val (minS n (U.of S)), minS_val, hall]
    have heq : Ty.eqb (.arr 4 (.int .u64)) (U.of (min n.val S)) (minS n (U.of S)) = true := by rw [hmin]; exact eqb_self _
    refine Wp.jn (fun s => s = ((x, (p, (I.of .i64 0, (I.of .i64 0, (y, (f, (ns, (i6 i, ())))))))), (U.of S, (n, (U.of (min n.val S), ())))) ∧ f = I.of .i64 0) ?_ ?_
    · rintro s ⟨rfl, rfl⟩
      rcases hA with h | ⟨_, gT, gl, _, g5, _, _⟩
      · exact absurd (show (I.of .i64 0).val = (I.of .i64 4).val from congrArg I.val h) (by decide)
      have gT : TableOk y := gT
      have gl : y.length = x.length := gl
      have g5 : sumN (y.map dueN) + sumN (p.map amt) = sumN (x.map dueN) := g5
      have hTy := TotalDue_eq (l := y) (by omega)
      have hle : sumN (y.map dueN) = S - n.val := by rw [hsum, ← hS] at g5; omega
      rw [if_pos (tabB_t.2 gT), hle, errS_lt (show S - n.val < U.top by omega)] at hTy
      refine Wp.optF hTy ?_
      refine Wp.jn (fun s => ∃ t t2, s = ((x, (p, (ns, (i6 i, t)))), (U.of S, t2))) ?_ ?_
      · rintro s ⟨t, t2, rfl⟩
        refine Wp.iter (fun s => ∃ k t t2, s = ((x, (p, (i6 k, (ns, (i6 i, t))))), (U.of S, t2)) ∧ k ≤ p.length) (fun s => p.length - s.1.2.2.1.val.toNat) ?_ ⟨0, t, t2, rfl, by omega⟩ ?_
        · rintro s ⟨k, t, t2, rfl, hk⟩
          simp only [lenL_eq, i6_ofNat, i6_ltb (show k < 9223372036854775808 by omega) (show p.length < 9223372036854775808 by omega), i6_nat (show k < 9223372036854775808 by omega), i6_add (show k + 1 < 9223372036854775808 by omega), i6_add (show i + 1 < 9223372036854775808 by omega)]
          refine Wp.brn (fun hc => ?_) (fun hc => Wp.done (Wp.again ⟨i + 1, rfl, by omega⟩ hmi))
          have hc := of_decide_eq_true hc
          have ⟨h1, h2, h4⟩ := hat k hc
          have bp : inB (i6 k) p.length = true := i6_inB (by omega) (by omega)
          refine Wp.brnT bp (Wp.brnF ?_ (Wp.brnT bp (Wp.brnF ?_ ?_)))
          · exact (eqb_zU _).trans (decide_eq_false h4)
          · refine niff_eqb.2 ?_
            rw [show (rdL Z_S_api_Payment p k).1 = Post.addr (rdL dP (ord x) k) from h2]
            exact ((table_iff.1 hx).2.1 _ (ord_mem (rdL_mem dP _ k h1)).1).1
          · exact Wp.again ⟨k + 1, t, t2, rfl, by omega⟩ (by show p.length - (i6 (k + 1)).val.toNat < p.length - (i6 k).val.toNat; rw [i6_val (by omega), i6_val (by omega)]; omega)
        · rw [K0_eq]
          show p.length - _ < _
          omega
      · intro j8 hj8
        refine Wp.brnF rfl (Wp.brnF rfl (Wp.brnF rfl (Wp.brnF rfl ?_)))
        refine Wp.optF (uint256_Min_eq _ _) ?_
        refine Wp.brnF (congrArg bnot heq) ?_
        refine Wp.optF (SatSub_ok _ _) ?_
        refine Wp.brnF ?_ (hj8 _ ⟨_, _, rfl⟩)
        have : Ty.eqb (.arr 4 (.int .u64)) (U.of (S - n.val)) (U.of ((U.of S).val - n.val)) = true := by rw [hall]; exact eqb_self _
        exact congrArg bnot this
    · intro j6 hj6
      have hf : f = I.of .i64 4 ∨ f = I.of .i64 0 := hA.elim .inl fun h => .inr h.1
      rcases hf with rfl | rfl
      · refine Wp.brnT rfl (Wp.brnT rfl (Wp.brnT rfl ?_))
        refine Wp.optF (uint256_Min_eq _ _) ?_
        exact Wp.brnT heq (Wp.again ⟨i + 1, rfl, by omega⟩ hmi)
      · exact Wp.brnF rfl (hj6 _ ⟨rfl, rfl⟩)
  · rw [K0_eq]
    show 3 - _ < _
    omega
end Sym
