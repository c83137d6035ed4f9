/- Tables of posters: both programs' Valid and Find. -/
import Derived.Test.YtpeicefbediffaaGreatPart6
import Derived.Test.YtpeicefbediffaaGreatPart4
namespace Sym
open Go
def TabTo (l : List Post) (i : Nat) : Prop := ∀ k, k < i → b0K (rdL dP l k) ∧ (0 < k → (Post.addr (rdL dP l (k - 1))).val < (Post.addr (rdL dP l k)).val)
theorem TabTo.succ {l : List Post} {i : Nat} (h : TabTo l i) (h1 : b0K (rdL dP l i)) (h2 : 0 < i → (Post.addr (rdL dP l (i - 1))).val < (Post.addr (rdL dP l i)).val) : TabTo l (i + 1) := by
 intro k hk
 rcases (by omega : k < i ∨ k = i) with h3 | rfl
 ·
  exact h k h3
 ·
  exact ⟨h1, h2⟩
theorem c1G {l : List Post} {i : Nat} (hi : i < l.length) (h : ¬ (b0K (rdL dP l i) ∧ (0 < i → (Post.addr (rdL dP l (i - 1))).val < (Post.addr (rdL dP l i)).val))) : tabB l = false := tabB_f.2 fun ht => h (ht.2 i hi)
theorem b4V {l : List Post} (hl : l.length ≤ 1073741824) : a2T ((l, ()), ()) = some ((tabB l, ()), ()) := by
 refine Wp.out (T := fun o => o = some ((tabB l, ()), ())) ?_
 unfold a2T
 simp only [a4U, a4H, a8E, a8G]
 refine Wp.brn (fun hc => ?_) (fun hc => ?_)
 ·
  have hc := iff_ltb.1 hc
  rw [a0Y (by omega), show (I.of .i64 64).val = 64 from rfl] at hc
  have : tabB l = false := tabB_f.2 fun ht => by have := ht.1; omega
  rw [this]
  rfl
 ·
  have hc := niff_ltb.1 hc
  rw [a0Y (by omega), show (I.of .i64 64).val = 64 from rfl] at hc
  have h64 : l.length ≤ 64 := by omega
  refine Wp.iter (fun s => ∃ i, s = ((l, (i6 i, ())), ()) ∧ i ≤ l.length ∧ TabTo l i) (fun s => l.length - s.1.2.1.val.toNat) ?_ ⟨0, rfl, by omega, fun k hk => by omega⟩ ?_
  ·
   rintro s ⟨i, rfl, hi, ht⟩
   simp only [a5T (show i < 9223372036854775808 by omega) (show l.length < 9223372036854775808 by omega), a5T (show 0 < 9223372036854775808 by omega) (show i < 9223372036854775808 by omega), a3L (show i < 9223372036854775808 by omega), a6H (show i + 1 < 9223372036854775808 by omega)]
   refine Wp.brn (fun hc => ?_) (fun hc => ?_)
   ·
    have hc := of_decide_eq_true hc
    have hm : l.length - (i6 (i + 1)).val.toNat < l.length - (i6 i).val.toNat := by rw [a0Y (by omega), a0Y (by omega)]; omega
    have bi : inB (i6 i) l.length = true := a3K (by omega) (by omega)
    refine Wp.brnT bi ?_
    refine Wp.call (c5H _) ?_
    rintro _ ⟨b, rfl, hb⟩
    refine Wp.brn (fun h => ?_) (fun h => ?_)
    ·
     have hbf : b = false := by cases b with | false => rfl | true => exact absurd h (by decide)
     refine Wp.done ?_
     rw [c1G hc fun h2 => by have := hb.2 h2.1; rw [hbf] at this; cases this]
     rfl
    ·
     have hbt : b = true := by cases b with | true => rfl | false => exact absurd h (by decide)
     have hE := hb.1 hbt
     refine Wp.brn (fun h0 => ?_) (fun h0 => ?_)
     ·
      have h0 := of_decide_eq_true h0
      simp only [c3V (show i < 9223372036854775808 by omega) (show 1 ≤ i by omega), a3L (show i - 1 < 9223372036854775808 by omega)]
      refine Wp.brnT bi (Wp.brnT (a3K (by omega) (by omega)) ?_)
      refine Wp.brn (fun hl => ?_) (fun hl => ?_)
      ·
       have hl := iff_leb.1 hl
       refine Wp.done ?_
       rw [c1G hc fun h2 => by have := h2.2 h0; exact absurd this (Int.not_lt.2 hl)]
       rfl
      ·
       have hl := niff_leb.1 hl
       exact Wp.again ⟨i + 1, rfl, by omega, ht.succ hE fun _ => hl⟩ hm
     ·
      have h0 := of_decide_eq_false h0
      exact Wp.again ⟨i + 1, rfl, by omega, ht.succ hE fun h => by omega⟩ hm
   ·
    have hc := of_decide_eq_false hc
    refine Wp.done ?_
    rw [tabB_t.2 ⟨h64, fun k hk => ht k (by omega)⟩]
    rfl
  ·
   rw [a5L]
   show l.length - _ < _
   omega
theorem b4S {l : List Post} (hl : l.length ≤ 1073741824) : a4T ((l, ()), ()) = some ((tabB l, ()), ()) := by
 refine Wp.out (T := fun o => o = some ((tabB l, ()), ())) ?_
 unfold a4T
 simp only [a4U, a4H, a8E, a8G]
 refine Wp.iter (fun s => ∃ i, s = ((l, (l, (i6 l.length, (i6 i, ())))), ()) ∧ i ≤ l.length ∧ TabTo l i) (fun s => l.length - s.1.2.2.2.1.val.toNat) ?_ ⟨0, rfl, by omega, fun k hk => by omega⟩ ?_
 ·
  rintro s ⟨i, rfl, hi, ht⟩
  simp only [a5T (show i < 9223372036854775808 by omega) (show l.length < 9223372036854775808 by omega), a5T (show 0 < 9223372036854775808 by omega) (show i < 9223372036854775808 by omega), a3L (show i < 9223372036854775808 by omega), a6H (show i + 1 < 9223372036854775808 by omega)]
  refine Wp.brn (fun hc => ?_) (fun hc => ?_)
  ·
   have hc := of_decide_eq_true hc
   have hm : l.length - (i6 (i + 1)).val.toNat < l.length - (i6 i).val.toNat := by rw [a0Y (by omega), a0Y (by omega)]; omega
   have bi : inB (i6 i) l.length = true := a3K (by omega) (by omega)
   refine Wp.brnT bi ?_
   have hEq : b0K (rdL dP l i) ↔ ((Post.addr (rdL dP l i)).val ≠ 0 ∧ (Post.due (rdL dP l i)).val + (Post.paid (rdL dP l i)).val = (Post.costs (rdL dP l i)).val + (Post.rewards (rdL dP l i)).val ∧ ((Post.since (rdL dP l i)).val = 0 ↔ (Post.due (rdL dP l i)).val = 0)) := Iff.rfl
   refine Wp.jn (fun s => ∃ b1 b2 b3 n, s = ((l, (l, (i6 l.length, (i6 i, (n, (b1, (b2, (b3, ())))))))), (rdL dP l i, ())) ∧ (Post.addr (rdL dP l i)).val ≠ 0 ∧ (0 < i → (Post.addr (rdL dP l (i - 1))).val < (Post.addr (rdL dP l i)).val)) ?_ ?_
   ·
    rintro s ⟨b1, b2, b3, n, rfl, ha, hlt⟩
    refine Wp.call (b9P _ _) ?_
    rintro _ ⟨s1, rfl, e1⟩
    refine Wp.call (b9P _ _) ?_
    rintro _ ⟨s2, rfl, e2⟩
    have e1 : val5 s1 = (Post.due (rdL dP l i)).val + (Post.paid (rdL dP l i)).val := e1
    have e2 : val5 s2 = (Post.costs (rdL dP l i)).val + (Post.rewards (rdL dP l i)).val := e2
    have hs : Ty.eqb (.arr 5 (.int .u64)) s1 s2 = true ↔ s1 = s2 := d4C (.arr 5 (.int .u64)) rfl s1 s2
    refine Wp.brn (fun h => ?_) (fun h => ?_)
    ·
     have h : ¬ s1 = s2 := fun e => by
      have e3 := hs.2 e
      have : bnot (Ty.eqb (.arr 5 (.int .u64)) s1 s2) = true := h
      rw [e3] at this
      cases this
     refine Wp.done ?_
     rw [c1G hc fun h2 => h (e4J (by rw [e1, e2]; exact (hEq.1 h2.1).2.1))]
     rfl
    ·
     have h : s1 = s2 := hs.1 (by
      have : bnot (Ty.eqb (.arr 5 (.int .u64)) s1 s2) = false := h
      revert this
      cases Ty.eqb (.arr 5 (.int .u64)) s1 s2 <;> simp [bnot])
     have h5 : (Post.due (rdL dP l i)).val + (Post.paid (rdL dP l i)).val = (Post.costs (rdL dP l i)).val + (Post.rewards (rdL dP l i)).val := by rw [← e1, ← e2, h]
     refine Wp.optF (b0C _) ?_
     have hz : Ty.eqb .bool (I.eqb (Post.since (rdL dP l i)) (I.of .u64 0)) (decide ((Post.due (rdL dP l i)).val = 0)) = true ↔ ((Post.since (rdL dP l i)).val = 0 ↔ (Post.due (rdL dP l i)).val = 0) := by
      rw [d6F]
      constructor
      ·
       intro hb
       constructor
       ·
        intro h0
        exact of_decide_eq_true (hb.symm.trans (iff_eqb.2 h0))
       ·
        intro h0
        exact iff_eqb.1 (hb.trans (decide_eq_true h0))
      ·
       intro h3
       by_cases h0 : (Post.due (rdL dP l i)).val = 0
       ·
        exact (iff_eqb.2 (h3.2 h0)).trans (decide_eq_true h0).symm
       ·
        exact (niff_eqb.2 (fun e => h0 (h3.1 e))).trans (decide_eq_false h0).symm
     refine Wp.brn (fun h => ?_) (fun h => ?_)
     ·
      refine Wp.done ?_
      rw [c1G hc fun h2 => by
       have e3 := hz.2 (hEq.1 h2.1).2.2
       have : bnot (Ty.eqb .bool (I.eqb (Post.since (rdL dP l i)) (I.of .u64 0)) (decide ((Post.due (rdL dP l i)).val = 0))) = true := h
       rw [e3] at this
       cases this]
      rfl
     ·
      have h6 := hz.1 (by
       have : bnot (Ty.eqb .bool (I.eqb (Post.since (rdL dP l i)) (I.of .u64 0)) (decide ((Post.due (rdL dP l i)).val = 0))) = false := h
       revert this
       cases Ty.eqb .bool (I.eqb (Post.since (rdL dP l i)) (I.of .u64 0)) (decide ((Post.due (rdL dP l i)).val = 0)) <;> simp [bnot])
      simp only [a6H (show i + 1 < 9223372036854775808 by omega)]
      exact Wp.again ⟨i + 1, rfl, by omega, ht.succ (hEq.2 ⟨ha, h5, h6⟩) hlt⟩ hm
   ·
    intro j hj
    refine Wp.brn (fun h => ?_) (fun h => ?_)
    ·
     have h := iff_eqb.1 h
     refine Wp.done ?_
     rw [c1G hc fun h2 => (hEq.1 h2.1).1 h]
     rfl
    ·
     have ha := niff_eqb.1 h
     refine Wp.brn (fun h0 => ?_) (fun h0 => ?_)
     ·
      have h0 := of_decide_eq_true h0
      simp only [c3V (show i < 9223372036854775808 by omega) (show 1 ≤ i by omega), a3L (show i - 1 < 9223372036854775808 by omega)]
      refine Wp.brnT (a3K (by omega) (by omega)) ?_
      refine Wp.brn (fun hl => ?_) (fun hl => ?_)
      ·
       have hl := iff_leb.1 hl
       refine Wp.done ?_
       rw [c1G hc fun h2 => by have := h2.2 h0; exact absurd this (Int.not_lt.2 hl)]
       rfl
      ·
       have hl := niff_leb.1 hl
       exact hj _ ⟨_, _, _, _, rfl, ha, fun _ => hl⟩
     ·
      have h0 := of_decide_eq_false h0
      exact hj _ ⟨_, _, _, _, rfl, ha, fun h => by omega⟩
  ·
   have hc := of_decide_eq_false hc
   refine Wp.done ?_
   have e : I.leb (i6 l.length) (I.of .i64 64) = tabB l := by
    by_cases h64 : l.length ≤ 64
    ·
     rw [tabB_t.2 ⟨h64, fun k hk => ht k (by omega)⟩]
     exact iff_leb.2 (by rw [a0Y (by omega), show (I.of .i64 64).val = 64 from rfl]; omega)
    ·
     rw [tabB_f.2 fun h => h64 h.1]
     exact niff_leb.2 (by rw [a0Y (by omega), show (I.of .i64 64).val = 64 from rfl]; omega)
   rw [← e]
   rfl
 ·
  rw [a5L]
  show l.length - _ < _
  omega
def atN (l : List Post) (a : I .u64) : Nat := l.findIdx fun p => I.eqb (Post.addr p) a
def atI (l : List Post) (a : I .u64) : I .i64 := if atN l a < l.length then i6 (atN l a) else I.of .i64 (-1)
theorem e1I {l : List Post} {a : I .u64} {i : Nat} (hi : i < l.length) (h1 : I.eqb (Post.addr (rdL dP l i)) a = true) (h2 : ∀ k, k < i → I.eqb (Post.addr (rdL dP l k)) a = false) : atN l a = i := by
 unfold atN
 rw [List.findIdx_eq hi]
 refine ⟨by rw [← a4G dP l i hi]; exact h1, fun k hk => ?_⟩
 rw [← a4G dP l k (by omega)]
 exact h2 k hk
theorem d5I {l : List Post} {a : I .u64} (h2 : ∀ k, k < l.length → I.eqb (Post.addr (rdL dP l k)) a = false) : atN l a = l.length := by
 unfold atN
 rw [List.findIdx_eq_length]
 intro x hx
 obtain ⟨k, hk, rfl⟩ := b4F dP hx
 exact h2 k hk
theorem c2P {l : List Post} (a : I .u64) (hl : l.length ≤ 1073741824) : a4D ((l, (a, ())), ()) = some ((atI l a, ()), ()) := by
 refine Wp.out (T := fun o => o = some ((atI l a, ()), ())) ?_
 unfold a4D
 simp only [a4U, a4H, a8E, a8G]
 refine Wp.iter (fun s => ∃ i, s = ((l, (a, (i6 i, ()))), ()) ∧ i ≤ l.length ∧ ∀ k, k < i → I.eqb (Post.addr (rdL dP l k)) a = false) (fun s => l.length - s.1.2.2.1.val.toNat) ?_ ⟨0, rfl, by omega, fun k hk => by omega⟩ ?_
 ·
  rintro s ⟨i, rfl, hi, ht⟩
  simp only [a5T (show i < 9223372036854775808 by omega) (show l.length < 9223372036854775808 by omega), a3L (show i < 9223372036854775808 by omega), a6H (show i + 1 < 9223372036854775808 by omega)]
  refine Wp.brn (fun hc => ?_) (fun hc => ?_)
  ·
   have hc := of_decide_eq_true hc
   refine Wp.brnT (a3K (by omega) (by omega)) ?_
   refine Wp.brn (fun h => ?_) (fun h => ?_)
   ·
    refine Wp.done ?_
    have e := e1I hc h ht
    unfold atI
    rw [e, if_pos hc]
    rfl
   ·
    refine Wp.again ⟨i + 1, rfl, by omega, fun k hk => ?_⟩ (by show l.length - (i6 (i + 1)).val.toNat < l.length - (i6 i).val.toNat; rw [a0Y (by omega), a0Y (by omega)]; omega)
    rcases (by omega : k < i ∨ k = i) with h3 | rfl
    ·
     exact ht k h3
    ·
     exact h
  ·
   have hc := of_decide_eq_false hc
   refine Wp.done ?_
   have e := d5I fun k hk => ht k (by omega)
   unfold atI
   rw [if_neg (by omega)]
   rfl
 ·
  rw [a5L]
  show l.length - _ < _
  omega
theorem c2J {l : List Post} (a : I .u64) (hl : l.length ≤ 1073741824) : a5Q ((l, (a, ())), ()) = some ((atI l a, ()), ()) := by
 refine Wp.out (T := fun o => o = some ((atI l a, ()), ())) ?_
 unfold a5Q
 simp only [a4U, a4H, a8E, a8G]
 refine Wp.iter (fun s => ∃ i, s = ((l, (((), ()), (i6 l.length, (i6 i, ())))), (a, ())) ∧ i ≤ l.length ∧ ∀ k, k < i → I.eqb (Post.addr (rdL dP l k)) a = false) (fun s => l.length - s.1.2.2.2.1.val.toNat) ?_ ⟨0, rfl, by omega, fun k hk => by omega⟩ ?_
 ·
  rintro s ⟨i, rfl, hi, ht⟩
  simp only [a5T (show i < 9223372036854775808 by omega) (show l.length < 9223372036854775808 by omega), a3L (show i < 9223372036854775808 by omega), a6H (show i + 1 < 9223372036854775808 by omega)]
  refine Wp.brn (fun hc => ?_) (fun hc => ?_)
  ·
   have hc := of_decide_eq_true hc
   refine Wp.brnT (a3K (by omega) (by omega)) ?_
   refine Wp.brn (fun h => ?_) (fun h => ?_)
   ·
    refine Wp.done ?_
    have e := e1I hc h ht
    unfold atI
    rw [e, if_pos hc]
    rfl
   ·
    refine Wp.again ⟨i + 1, rfl, by omega, fun k hk => ?_⟩ (by show l.length - (i6 (i + 1)).val.toNat < l.length - (i6 i).val.toNat; rw [a0Y (by omega), a0Y (by omega)]; omega)
    rcases (by omega : k < i ∨ k = i) with h3 | rfl
    ·
     exact ht k h3
    ·
     exact h
  ·
   have hc := of_decide_eq_false hc
   refine Wp.done ?_
   have e := d5I fun k hk => ht k (by omega)
   unfold atI
   rw [if_neg (by omega)]
   rfl
 ·
  rw [a5L]
  show l.length - _ < _
  omega
end Sym

/- Tables of posters: Settle, sums. -/
namespace Sym
open Go
theorem a8U (a : U) : ∃ y, a0I ((a, ()), ()) = some y ∧ ∃ r, y = ((r, ()), ()) ∧ IsB r a.val := by
 obtain ⟨r, h1, h2⟩ := a7D a
 exact ⟨_, h1, r, rfl, h2⟩
theorem d7B (a b : U) : a6S ((a, (b, ())), ()) = some (((errS (a.val + b.val)).1, ((errS (a.val + b.val)).2, ())), ()) := by
 refine Wp.out (T := fun o => o = _) ?_
 unfold a6S
 refine Wp.call (a8U a) ?_
 rintro _ ⟨x, rfl, hx⟩
 refine Wp.call (a8U b) ?_
 rintro _ ⟨y, rfl, hy⟩
 obtain ⟨r, g, k⟩ := b6C hx hy (b3Y hx) (b3Y hy)
 refine Wp.optF g ?_
 have t1 := a.lt
 have t2 := b.lt
 have hp : U.top + U.top ≤ 65536 ^ 17 := by decide
 refine Wp.optF (Checked_ok' k (a6X k 17 (by omega) (by decide))) ?_
 rfl
theorem c7J (a b : U) : a5M ((a, (b, ())), ()) = some (((subS a b).1, ((subS a b).2, ())), ()) := by
 refine Wp.out (T := fun o => o = _) ?_
 unfold a5M
 refine Wp.call (a8U a) ?_
 rintro _ ⟨x, rfl, hx⟩
 refine Wp.call (a8U b) ?_
 rintro _ ⟨y, rfl, hy⟩
 refine Wp.optF (c6J hx hy (b3Y hx) (b3Y hy)) ?_
 have hc : I.ltb (cmpN a.val b.val) (I.of .i64 0) = decide (a.val < b.val) := by
  unfold cmpN
  by_cases h : a.val < b.val
  ·
   rw [if_pos h, decide_eq_true h]; rfl
  ·
   rw [if_neg h, decide_eq_false h]
   split <;> rfl
 refine Wp.brn (fun h => ?_) (fun h => ?_)
 ·
  have h : a.val < b.val := of_decide_eq_true (hc.symm.trans h)
  unfold subS
  rw [if_neg (by omega)]
  rfl
 ·
  have h : ¬ a.val < b.val := of_decide_eq_false (hc.symm.trans h)
  obtain ⟨r, g, k⟩ := c1N hx hy (by omega) (b3Y hx)
  refine Wp.optF g ?_
  refine Wp.optF (a4E k (by have := a.lt; omega)) ?_
  unfold subS
  rw [if_pos (by omega)]
  rfl
noncomputable def settled (p : Post) (n : U) : Post :=
 (p.addr, (U.of (p.due.val - n.val), (p.costs, (p.rewards, (U.of (p.paid.val + n.val), ((if p.due.val - n.val = 0 then I.of .u64 0 else p.since), ()))))))
noncomputable def a7X (l : List Post) (a : I .u64) (n : U) : List Post × I .i64 :=
 if tabB l = true then
  if atN l a < l.length then
   if n.val ≤ (Post.due (rdL dP l (atN l a))).val then
    if (Post.paid (rdL dP l (atN l a))).val + n.val < U.top then (setAt l (atN l a) (settled (rdL dP l (atN l a)) n), I.of .i64 0)
    else ([], I.of .i64 4)
   else ([], I.of .i64 10)
  else ([], I.of .i64 8)
 else ([], I.of .i64 2)
theorem b8I {l : List Post} {a : I .u64} (hl : l.length ≤ 1073741824) : I.ltb (atI l a) (I.of .i64 0) = decide (¬ atN l a < l.length) := by
 unfold atI
 by_cases h : atN l a < l.length
 ·
  rw [if_pos h, decide_eq_false (by simpa using h)]
  exact niff_ltb.2 (by rw [a0Y (by omega)]; show (0 : Int) ≤ _; omega)
 ·
  rw [if_neg h, decide_eq_true h]
  rfl
theorem c2X {X : Type} (l : List X) (i : Nat) (v w : X) : setAt (setAt l i v) i w = setAt l i w := by simp [a2D]
theorem b9N (l : List Post) (hl : l.length ≤ 1073741824) : a0Q ((l, ()), ()) = some ((), (l, ())) := by
 refine Wp.out (T := fun o => o = _) ?_
 unfold a0Q
 refine Wp.brn (fun h => ?_) (fun h => ?_)
 ·
  have h : l.length = 0 := by
   have : c1X l.length = true := h
   exact Nat.eq_of_beq_eq_true this
  have := List.eq_nil_of_length_eq_zero h
  subst this
  show both _ _ _ = _
  have hb : brn (a2L (lenL (appL ([] : List Post) []))) (some ((), (appL ([] : List Post) [], ()))) none = some ((), (([] : List Post), ())) := rfl
  exact e1J rfl
 ·
  exact Wp.brnT (b0L (by show ([] ++ l).length ≤ _; simpa using hl)) rfl
theorem d6S (l : List Post) (a : I .u64) (n : U) (hl : l.length ≤ 1073741824) : a8A ((l, (a, (n, ()))), ()) = some (((a7X l a n).1, ((a7X l a n).2, ())), ()) := by
 refine Wp.out (T := fun o => o = _) ?_
 unfold a8A
 refine Wp.optF (c2J a hl) (Wp.optF (b4S hl) ?_)
 unfold a7X
 refine Wp.brn (fun h => ?_) (fun h => ?_)
 ·
  have h : tabB l = false := by have : bnot (tabB l) = true := h; revert this; cases tabB l <;> simp [bnot]
  rw [if_neg (by rw [h]; simp)]
  rfl
 ·
  have h : tabB l = true := by have : bnot (tabB l) = false := h; revert this; cases tabB l <;> simp [bnot]
  rw [if_pos h]
  refine Wp.brn (fun h => ?_) (fun h => ?_)
  ·
   have h := of_decide_eq_true ((b8I hl).symm.trans h)
   rw [if_neg h]
   rfl
  ·
   have h := of_decide_eq_false ((b8I hl).symm.trans h)
   have h : atN l a < l.length := by simpa using h
   rw [if_pos h]
   have e : atI l a = i6 (atN l a) := if_pos h
   simp only [e, a3L (show atN l a < 9223372036854775808 by omega)]
   have bi : inB (i6 (atN l a)) l.length = true := a3K h (by omega)
   refine Wp.brnT bi ?_
   refine Wp.optF (b7Z _ _) ?_
   generalize rdL dP l (atN l a) = p
   by_cases hd : n.val ≤ (Post.due p).val
   ·
    rw [if_pos hd]
    have es : subS (Post.due p) n = (U.of ((Post.due p).val - n.val), I.of .i64 0) := if_pos hd
    rw [es]
    refine Wp.brnF rfl ?_
    refine Wp.optF (b7G _ _) ?_
    by_cases hp : (Post.paid p).val + n.val < U.top
    ·
     rw [if_pos hp]
     rw [a9D hp]
     refine Wp.brnF rfl ?_
     refine Wp.jn (fun s => s = ((l, (i6 (atN l a), ())), (settled p n, ()))) ?_ ?_
     ·
      rintro s rfl
      refine Wp.optF (b9N l hl) ?_
      simp only [a3L (show atN l a < 9223372036854775808 by omega)]
      exact Wp.brnT bi rfl
     ·
      intro j hj
      refine Wp.optF (b0C _) ?_
      have hv : (U.of ((Post.due p).val - n.val)).val = (Post.due p).val - n.val := U.val_of (by have := U.lt (Post.due p); omega)
      refine Wp.brn (fun hz => ?_) (fun hz => ?_)
      ·
       have hz := of_decide_eq_true hz
       have hz : (Post.due p).val - n.val = 0 := hv.symm.trans hz
       refine hj _ ?_
       unfold settled
       rw [if_pos hz]
      ·
       have hz := of_decide_eq_false hz
       have hz : ¬ (Post.due p).val - n.val = 0 := fun e => hz (hv.trans e)
       refine hj _ ?_
       unfold settled
       rw [if_neg hz]
    ·
     rw [if_neg hp]
     have e4 : errS ((Post.paid p).val + n.val) = (U.of 0, I.of .i64 4) := b5S (Nat.le_of_not_lt hp)
     rw [show errS (U.val p.2.2.2.2.1 + n.val) = (U.of 0, I.of .i64 4) from e4]
     exact Wp.brnT rfl rfl
   ·
    rw [if_neg hd]
    have es : subS (Post.due p) n = (U.of 0, I.of .i64 4) := if_neg hd
    rw [es]
    exact Wp.brnT rfl rfl
theorem d7E (l : List Post) (a : I .u64) (n : U) (hl : l.length ≤ 1073741824) : a6E ((l, (a, (n, ()))), ()) = some (((a7X l a n).1, ((a7X l a n).2, ())), ()) := by
 refine Wp.out (T := fun o => o = _) ?_
 unfold a6E
 refine Wp.optF (b4V hl) ?_
 unfold a7X
 refine Wp.brn (fun h => ?_) (fun h => ?_)
 ·
  have h : tabB l = false := by have : bnot (tabB l) = true := h; revert this; cases tabB l <;> simp [bnot]
  rw [if_neg (by rw [h]; simp)]
  rfl
 ·
  have h : tabB l = true := by have : bnot (tabB l) = false := h; revert this; cases tabB l <;> simp [bnot]
  rw [if_pos h]
  refine Wp.optF (c2P a hl) ?_
  refine Wp.brn (fun h => ?_) (fun h => ?_)
  ·
   have h := of_decide_eq_true ((b8I hl).symm.trans h)
   rw [if_neg h]
   rfl
  ·
   have h := of_decide_eq_false ((b8I hl).symm.trans h)
   have h : atN l a < l.length := by simpa using h
   rw [if_pos h]
   have e : atI l a = i6 (atN l a) := if_pos h
   have en : appL ([] : List Post) l = l := rfl
   simp only [e, a3L (show atN l a < 9223372036854775808 by omega), c2X, b2K, en]
   have bi : inB (i6 (atN l a)) l.length = true := a3K h (by omega)
   refine Wp.brnT (b0L hl) (Wp.brnT bi ?_)
   refine Wp.optF (c7J _ _) ?_
   simp only [true_and, h, if_true]
   generalize rdL dP l (atN l a) = p
   by_cases hd : n.val ≤ (Post.due p).val
   ·
    rw [if_pos hd]
    have es : subS (Post.due p) n = (U.of ((Post.due p).val - n.val), I.of .i64 0) := if_pos hd
    rw [es]
    refine Wp.brnF rfl ?_
    refine Wp.optF (d7B _ _) ?_
    by_cases hp : (Post.paid p).val + n.val < U.top
    ·
     rw [if_pos hp]
     rw [a9D hp]
     refine Wp.brnF rfl ?_
     refine Wp.optF (c0M _) ?_
     have hv : (U.of ((Post.due p).val - n.val)).val = (Post.due p).val - n.val := U.val_of (by have := U.lt (Post.due p); omega)
     refine Wp.brn (fun hz => ?_) (fun hz => ?_)
     ·
      have hz := of_decide_eq_true hz
      have hz : (Post.due p).val - n.val = 0 := hv.symm.trans hz
      unfold settled
      rw [if_pos hz]
      rfl
     ·
      have hz := of_decide_eq_false hz
      have hz : ¬ (Post.due p).val - n.val = 0 := fun e => hz (hv.trans e)
      unfold settled
      rw [if_neg hz]
      rfl
    ·
     rw [if_neg hp]
     have e4 : errS ((Post.paid p).val + n.val) = (U.of 0, I.of .i64 4) := b5S (Nat.le_of_not_lt hp)
     rw [show errS (U.val p.2.2.2.2.1 + n.val) = (U.of 0, I.of .i64 4) from e4]
     exact Wp.brnT rfl rfl
   ·
    rw [if_neg hd]
    have es : subS (Post.due p) n = (U.of 0, I.of .i64 4) := if_neg hd
    rw [es]
    exact Wp.brnT rfl rfl
end Sym

/- Payments: sums, both programs' plans. -/
namespace Sym
open Go
abbrev Pay : Type := a0M
noncomputable abbrev dY : Pay := a1T
theorem e2R : Z_U = U.of 0 := by apply U.ext; rfl
def sumN (l : List Nat) : Nat := l.foldr (· + ·) 0
theorem d5W (l m : List Nat) : sumN (l ++ m) = sumN l + sumN m := by
 induction l with
 | nil => simp [sumN]
 | cons x l ih => simp only [sumN, List.cons_append, List.foldr_cons] at *; omega
theorem b8Z {X : Type} (d : X) (f : X → Nat) {l : List X} {i : Nat} (h : i < l.length) : sumN ((l.take (i + 1)).map f) = sumN ((l.take i).map f) + f (rdL d l i) := by
 rw [List.take_succ_eq_append_getElem h, List.map_append, d5W, ← a4G d l i h]
 simp [sumN]
theorem d2R {X : Type} (f : X → Nat) (l : List X) (i : Nat) : sumN ((l.take i).map f) ≤ sumN (l.map f) := by
 have : sumN (l.map f) = sumN ((l.take i).map f) + sumN ((l.drop i).map f) := by
  rw [← d5W, ← List.map_append, List.take_append_drop]
 omega
theorem c0R {X : Type} (f : X → Nat) (B : Nat) (hB : ∀ x, f x < B) : ∀ l : List X, sumN (l.map f) ≤ l.length * B
 | [] => by simp [sumN]
 | x :: l => by
  have := c0R f B hB l
  have := hB x
  simp only [sumN, List.map_cons, List.foldr_cons, List.length_cons, Nat.succ_mul] at *
  omega
def amt (q : Pay) : Nat := U.val q.2.1
theorem e9F {l : List Pay} (hl : l.length ≤ 1073741824) : b1O ((l, ()), ()) = some (((errS (sumN (l.map amt))).1, ((errS (sumN (l.map amt))).2, ())), ()) := by
 refine Wp.out (T := fun o => o = _) ?_
 unfold b1O
 simp only [a4U, a4H, a8E, a8G]
 refine Wp.iter (fun s => ∃ i, s = ((l, (i6 l.length, (i6 i, ()))), (Z_U, (U.of (sumN ((l.take i).map amt)), ()))) ∧ i ≤ l.length ∧ sumN ((l.take i).map amt) < U.top) (fun s => l.length - s.1.2.2.1.val.toNat) ?_ ⟨0, by rw [e2R]; rfl, by omega, by show (0 : Nat) < _; decide⟩ ?_
 ·
  rintro s ⟨i, rfl, hi, ht⟩
  simp only [a5T (show i < 9223372036854775808 by omega) (show l.length < 9223372036854775808 by omega), a3L (show i < 9223372036854775808 by omega), a6H (show i + 1 < 9223372036854775808 by omega)]
  refine Wp.brn (fun hc => ?_) (fun hc => ?_)
  ·
   have hc := of_decide_eq_true hc
   refine Wp.brnT (a3K (by omega) (by omega)) ?_
   refine Wp.optF (Add_errS' ht _) ?_
   have hs := b8Z dY amt hc
   have hs' : sumN ((l.take i).map amt) + U.val (rdL a1T l i).2.1 = sumN ((l.take (i + 1)).map amt) := hs.symm
   rw [hs']
   by_cases h : sumN ((l.take (i + 1)).map amt) < U.top
   ·
    rw [a9D h]
    refine Wp.brnF rfl ?_
    exact Wp.again ⟨i + 1, rfl, by omega, h⟩ (by show l.length - (i6 (i + 1)).val.toNat < l.length - (i6 i).val.toNat; rw [a0Y (by omega), a0Y (by omega)]; omega)
   ·
    have h2 := d2R amt l (i + 1)
    rw [b5S (n := sumN ((l.take (i + 1)).map amt)) (by omega), b5S (n := sumN (l.map amt)) (by omega), e2R]
    exact Wp.brnT rfl (Wp.done rfl)
  ·
   have hc := of_decide_eq_false hc
   rw [List.take_of_length_le (by omega)] at ht ⊢
   rw [a9D ht]
   exact Wp.done rfl
 ·
  rw [a5L]
  show l.length - _ < _
  omega
theorem f9Y (q : Pay) : amt q < U.top := U.lt _
theorem f1I {l : List Pay} (hl : l.length ≤ 1073741824) : a8J ((l, ()), ()) = some (((errS (sumN (l.map amt))).1, ((errS (sumN (l.map amt))).2, ())), ()) := by
 refine Wp.out (T := fun o => o = _) ?_
 unfold a8J
 simp only [a4U, a4H, a8E, a8G]
 have hb : ∀ i, sumN ((l.take i).map amt) < 65536 ^ 19 := fun i => by
  have h1 := d2R amt l i
  have h2 := c0R amt U.top f9Y l
  have h3 : l.length * U.top ≤ 1073741824 * U.top := Nat.mul_le_mul_right _ hl
  have h4 : 1073741824 * U.top < 65536 ^ 19 := by decide
  omega
 refine Wp.iter (fun s => ∃ i r, s = ((l, (r, (i6 i, ()))), (Z_U, ())) ∧ i ≤ l.length ∧ IsB r (sumN ((l.take i).map amt))) (fun s => l.length - s.1.2.2.1.val.toNat) ?_ ⟨0, [], rfl, by omega, c5F⟩ ?_
 ·
  rintro s ⟨i, r, rfl, hi, hr⟩
  simp only [a5T (show i < 9223372036854775808 by omega) (show l.length < 9223372036854775808 by omega), a3L (show i < 9223372036854775808 by omega), a6H (show i + 1 < 9223372036854775808 by omega)]
  refine Wp.brn (fun hc => ?_) (fun hc => ?_)
  ·
   have hc := of_decide_eq_true hc
   refine Wp.brnT (a3K (by omega) (by omega)) ?_
   refine Wp.call (a8U _) ?_
   rintro _ ⟨x, rfl, hx⟩
   obtain ⟨z, g, k⟩ := b6C hr hx (a6X hr 19 (hb i) (by decide)) (b3Y hx)
   refine Wp.optF g ?_
   refine Wp.again ⟨i + 1, z, rfl, by omega, ?_⟩ (by show l.length - (i6 (i + 1)).val.toNat < l.length - (i6 i).val.toNat; rw [a0Y (by omega), a0Y (by omega)]; omega)
   rw [b8Z dY amt hc]
   exact k
  ·
   have hc := of_decide_eq_false hc
   have hbl := hb l.length
   rw [List.take_of_length_le (by omega)] at hr hbl
   refine Wp.done (Wp.optF (Checked_ok' hr (a6X hr 19 hbl (by decide))) ?_)
   rfl
 ·
  rw [a5L]
  show l.length - _ < _
  omega
def dueN (p : Post) : Nat := U.val p.due
theorem d3Q {l : List Post} (hl : l.length ≤ 1073741824) : a6J ((l, ()), ()) = if tabB l = true then some (((errS (sumN (l.map dueN))).1, ((errS (sumN (l.map dueN))).2, ())), ()) else some ((Z_U, (I.of .i64 2, ())), ()) := by
 refine Wp.out (T := fun o => o = _) ?_
 unfold a6J
 simp only [a4U, a4H, a8E, a8G]
 refine Wp.optF (b4S hl) ?_
 refine Wp.brn (fun h => ?_) (fun h => ?_)
 ·
  have h : tabB l = false := by have : bnot (tabB l) = true := h; revert this; cases tabB l <;> simp [bnot]
  rw [if_neg (by rw [h]; simp)]
  rfl
 ·
  have h : tabB l = true := by have : bnot (tabB l) = false := h; revert this; cases tabB l <;> simp [bnot]
  rw [if_pos h]
  refine Wp.iter (fun s => ∃ i, s = ((l, (i6 l.length, (i6 i, ()))), (Z_U, (U.of (sumN ((l.take i).map dueN)), ()))) ∧ i ≤ l.length ∧ sumN ((l.take i).map dueN) < U.top) (fun s => l.length - s.1.2.2.1.val.toNat) ?_ ⟨0, by rw [e2R]; rfl, by omega, by show (0 : Nat) < _; decide⟩ ?_
  ·
   rintro s ⟨i, rfl, hi, ht⟩
   simp only [a5T (show i < 9223372036854775808 by omega) (show l.length < 9223372036854775808 by omega), a3L (show i < 9223372036854775808 by omega), a6H (show i + 1 < 9223372036854775808 by omega)]
   refine Wp.brn (fun hc => ?_) (fun hc => ?_)
   ·
    have hc := of_decide_eq_true hc
    refine Wp.brnT (a3K (by omega) (by omega)) ?_
    refine Wp.optF (Add_errS' ht _) ?_
    have hs := b8Z dP dueN hc
    have hs' : sumN ((l.take i).map dueN) + U.val (rdL a0B l i).2.1 = sumN ((l.take (i + 1)).map dueN) := hs.symm
    rw [hs']
    by_cases h : sumN ((l.take (i + 1)).map dueN) < U.top
    ·
     rw [a9D h]
     refine Wp.brnF rfl ?_
     exact Wp.again ⟨i + 1, rfl, by omega, h⟩ (by show l.length - (i6 (i + 1)).val.toNat < l.length - (i6 i).val.toNat; rw [a0Y (by omega), a0Y (by omega)]; omega)
    ·
     have h2 := d2R dueN l (i + 1)
     rw [b5S (n := sumN ((l.take (i + 1)).map dueN)) (by omega), b5S (n := sumN (l.map dueN)) (by omega), e2R]
     exact Wp.brnT rfl (Wp.done rfl)
   ·
    have hc := of_decide_eq_false hc
    rw [List.take_of_length_le (by omega)] at ht ⊢
    rw [a9D ht]
    exact Wp.done rfl
  ·
   rw [a5L]
   show l.length - _ < _
   omega
noncomputable def a7F : List Post → Nat → List Pay
 | [], _ => []
 | p :: r, n => if n = 0 then [] else (p.addr, (U.of (min (dueN p) n), ())) :: a7F r (n - min (dueN p) n)
theorem b7F (l : List Post) : a7F l 0 = [] := by cases l <;> simp [a7F]
theorem d0A : ∀ (l : List Post) (n : Nat), (a7F l n).length ≤ l.length
 | [], n => Nat.le_refl _
 | p :: r, n => by
  have := d0A r (n - min (dueN p) n)
  simp only [a7F]
  split <;> simp <;> omega
noncomputable def d2J (l : List Post) (pool : U) : List Pay × I .i64 :=
 if tabB l = true then (a7F ((b2I l).map (·.1)) pool.val, I.of .i64 0) else ([], I.of .i64 2)
theorem nz_u {a : U} : bnot (Ty.eqb (.arr 4 (.int .u64)) a Z_U) = decide (a.val ≠ 0) := by
 rw [e1L]
 by_cases h : a.val = 0 <;> simp [h, bnot]
theorem e2L (l : List Post) (pool : U) (hl : l.length ≤ 1073741824) : b0I ((l, (pool, ())), ()) = some (((d2J l pool).1, ((d2J l pool).2, ())), ()) := by
 refine Wp.out (T := fun o => o = _) ?_
 unfold b0I d2J
 refine Wp.optF (b4S hl) ?_
 refine Wp.brn (fun h => ?_) (fun h => ?_)
 ·
  have h : tabB l = false := by have : bnot (tabB l) = true := h; revert this; cases tabB l <;> simp [bnot]
  rw [if_neg (by rw [h]; simp)]
  rfl
 ·
  have h : tabB l = true := by have : bnot (tabB l) = false := h; revert this; cases tabB l <;> simp [bnot]
  rw [if_pos h]
  refine Wp.call (f2L hl) ?_
  rintro _ ⟨h0, rfl, q0⟩
  have hs := c2T l
  have q0 : QOf h0 (b2I l) := q0
  refine Wp.call (e0V q0 (by omega)) ?_
  rintro _ ⟨h1, rfl, q1⟩
  refine Wp.iter (fun s => ∃ r h out n, s = ((!r.isEmpty, ()), (n, (out, (((), ()), (h, (hdP r, ())))))) ∧ QOf h r.tail ∧ out ++ a7F (r.map (·.1)) (U.val n) = a7F ((b2I l).map (·.1)) pool.val ∧ out.length + r.length ≤ (b2I l).length) (fun s => (b2I l).length - s.2.2.1.length) ?_ ⟨b2I l, h1, [], pool, rfl, q1, rfl, by simp⟩ ?_
  ·
   rintro s ⟨r, h, out, n, rfl, q, ho, hol⟩
   have fin : out = a7F ((b2I l).map (·.1)) pool.val → Wp (fun o => o = some (((a7F ((b2I l).map (·.1)) pool.val, I.of .i64 0).1, ((a7F ((b2I l).map (·.1)) pool.val, I.of .i64 0).2, ())), ())) (some ((out, ((I.of .i64 0), ())), ())) := fun e => by rw [e]; rfl
   refine Wp.jn (fun s => ∃ z b m r', r = m :: r' ∧ U.val n ≠ 0 ∧ s = ((n, (z, (b, ()))), (n, (out, (((), ()), (h, (m.1, ()))))))) ?_ ?_
   ·
    rintro s ⟨z, b, m, r', rfl, hn, rfl⟩
    refine Wp.optF (c5S _ _) ?_
    refine Wp.optF (b6R _ _) ?_
    have hol' : out.length + (r'.length + 1) ≤ (b2I l).length := hol
    refine Wp.brnT (b0L (by show (out ++ [_]).length ≤ _; simp; omega)) ?_
    have q : QOf h r' := q
    refine Wp.call (e0V q (by omega)) ?_
    rintro _ ⟨h', rfl, q'⟩
    have e1 : minS (Post.due m.1) n = U.of (min (dueN m.1) (U.val n)) := by
     rw [← U.of_val (minS (Post.due m.1) n), d5G]
     rfl
    refine Wp.again ⟨r', h', out ++ [(Post.addr m.1, (minS (Post.due m.1) n, ()))], U.of (U.val n - (minS (Post.due m.1) n).val), rfl, q', ?_, by rw [List.length_append]; simp; omega⟩ ?_
    ·
     rw [← ho, U.val_of (by have := U.lt n; omega), d5G, e1]
     simp only [List.map_cons, a7F, if_neg hn, List.append_assoc, List.singleton_append]
     rfl
    ·
     show (b2I l).length - (out ++ [_]).length < (b2I l).length - out.length
     simp
     omega
   ·
    intro j hj
    cases r with
    | nil =>
     refine Wp.brnF rfl (Wp.done (fin ?_))
     rw [← ho]
     simp [a7F]
    | cons m r' =>
     refine Wp.brnT rfl ?_
     refine Wp.brn (fun hz => ?_) (fun hz => ?_)
     ·
      have hz := of_decide_eq_true (nz_u.symm.trans hz)
      exact hj _ ⟨_, _, m, r', rfl, hz, rfl⟩
     ·
      have hz := of_decide_eq_false (nz_u.symm.trans hz)
      have hz : U.val n = 0 := by simpa using hz
      refine Wp.done (fin ?_)
      rw [← ho, hz, b7F, List.append_nil]
  ·
   rw [a5L]
   show (b2I l).length - _ < _
   omega
theorem e9X {a b : List Dg} {m n : Nat} (ha : IsB a m) (hb : IsB b n) (hal : a.length ≤ 1000000) (hbl : b.length ≤ 1000000) : ∃ y, a8S ((a, (b, ())), ()) = some y ∧ ∃ r, y = ((r, ()), ()) ∧ IsB r (min m n) := by
 refine Wp.out (T := fun o => ∃ y, o = some y ∧ ∃ r, y = ((r, ()), ()) ∧ IsB r (min m n)) ?_
 unfold a8S
 refine Wp.optF (c6J ha hb hal hbl) ?_
 have hc : I.ltb (I.of .i64 0) (cmpN m n) = decide (n < m) := by
  unfold cmpN
  by_cases h : m < n
  ·
   rw [if_pos h, decide_eq_false (by omega)]; rfl
  ·
   rw [if_neg h]
   by_cases h2 : n < m
   ·
    rw [if_pos h2, decide_eq_true h2]; rfl
   ·
    rw [if_neg h2, decide_eq_false h2]; rfl
 refine Wp.brn (fun h => ?_) (fun h => ?_)
 ·
  have h := of_decide_eq_true (hc.symm.trans h)
  exact ⟨_, rfl, b, rfl, by rw [Nat.min_eq_right (by omega)]; exact hb⟩
 ·
  have h := of_decide_eq_false (hc.symm.trans h)
  exact ⟨_, rfl, a, rfl, by rw [Nat.min_eq_left (by omega)]; exact ha⟩
theorem e3Q (l : List Post) (pool : U) (hl : l.length ≤ 1073741824) : a7L ((l, (pool, ())), ()) = some (((d2J l pool).1, ((d2J l pool).2, ())), ()) := by
 refine Wp.out (T := fun o => o = _) ?_
 unfold a7L d2J
 refine Wp.optF (b4V hl) ?_
 refine Wp.brn (fun h => ?_) (fun h => ?_)
 ·
  have h : tabB l = false := by have : bnot (tabB l) = true := h; revert this; cases tabB l <;> simp [bnot]
  rw [if_neg (by rw [h]; simp)]
  rfl
 ·
  have h : tabB l = true := by have : bnot (tabB l) = false := h; revert this; cases tabB l <;> simp [bnot]
  rw [if_pos h]
  refine Wp.optF (d8L hl) ?_
  have hs := c2T l
  obtain ⟨o, ho⟩ : ∃ o, o = (b2I l).map (·.1) := ⟨_, rfl⟩
  have hol : o.length ≤ 1073741824 := by rw [ho, List.length_map]; omega
  rw [← ho]
  refine Wp.call (a8U pool) ?_
  rintro _ ⟨left0, rfl, hleft0⟩
  simp only [a4U, a4H, a8E, a8G]
  refine Wp.iter (fun s => ∃ i left n out, s = ((o, (left, (i6 i, ()))), (out, ())) ∧ i ≤ o.length ∧ IsB left n ∧ n < U.top ∧ out ++ a7F (o.drop i) n = a7F o pool.val ∧ out.length ≤ i) (fun s => o.length - s.1.2.2.1.val.toNat) ?_ ⟨0, left0, pool.val, [], rfl, by omega, hleft0, pool.lt, rfl, by simp⟩ ?_
  ·
   rintro s ⟨i, left, n, out, rfl, hi, hleft, hn, hout, houtl⟩
   have hll : left.length ≤ 1000000 := a6X hleft 16 (by rw [← e1R]; exact hn) (by decide)
   simp only [a5T (show i < 9223372036854775808 by omega) (show o.length < 9223372036854775808 by omega), a5T (show 0 < 9223372036854775808 by omega) (show left.length < 9223372036854775808 by omega)]
   refine Wp.jn (fun s => ∃ z b, i < o.length ∧ n ≠ 0 ∧ s = ((o, (left, (i6 i, (left, (z, (b, ())))))), (out, ()))) ?_ ?_
   ·
    rintro s ⟨z, b, hc, hn0, rfl⟩
    simp only [a3L (show i < 9223372036854775808 by omega), a6H (show i + 1 < 9223372036854775808 by omega)]
    have bi : inB (i6 i) o.length = true := a3K (by omega) (by omega)
    refine Wp.brnT bi ?_
    refine Wp.call (a8U _) ?_
    rintro _ ⟨du, rfl, hdu⟩
    refine Wp.call (e9X hleft hdu hll (b3Y hdu)) ?_
    rintro _ ⟨mn, rfl, hmn⟩
    have hmin : min n (U.val (Post.due (rdL dP o i))) ≤ n := Nat.min_le_left _ _
    refine Wp.brnT bi ?_
    refine Wp.optF (a4E hmn (by show min n _ < _; omega)) ?_
    refine Wp.brnT (b0L (by show (out ++ [_]).length ≤ _; simp; omega)) ?_
    obtain ⟨z', g, k⟩ := c1N hleft hmn hmin hll
    refine Wp.optF g ?_
    refine Wp.again ⟨i + 1, z', n - min n (dueN (rdL dP o i)), _, rfl, by omega, k, by omega, ?_, by show (out ++ [_]).length ≤ _; simp; omega⟩ (by show o.length - (i6 (i + 1)).val.toNat < o.length - (i6 i).val.toNat; rw [a0Y (by omega), a0Y (by omega)]; omega)
    rw [← hout, List.drop_eq_getElem_cons hc, ← a4G dP o i hc]
    simp only [a7F, if_neg hn0, f1X, List.append_assoc, List.singleton_append]
    rw [Nat.min_comm (dueN (rdL dP o i)) n]
    rfl
   ·
    intro j hj
    refine Wp.brn (fun hc => ?_) (fun hc => ?_)
    ·
     have hc := of_decide_eq_true hc
     refine Wp.brn (fun hz => ?_) (fun hz => ?_)
     ·
      have hz := of_decide_eq_true hz
      refine hj _ ⟨_, _, hc, ?_, rfl⟩
      intro e
      subst e
      have := (hleft.len (k := 0)).2 (by decide)
      omega
     ·
      have hz := of_decide_eq_false hz
      have : n = 0 := by
       have := (hleft.len (k := 0)).1 (by omega)
       simpa using this
      subst this
      rw [b7F, List.append_nil] at hout
      refine Wp.done ?_
      rw [← hout]
      rfl
    ·
     have hc := of_decide_eq_false hc
     rw [List.drop_eq_nil_iff.2 (by omega)] at hout
     refine Wp.done ?_
     rw [← hout]
     simp [a7F]
     rfl
  ·
   rw [a5L]
   show o.length - _ < _
   omega
end Sym

/- Sums that stop at the top; numbers by shape. -/
namespace Sym
open Go
theorem b9Q (x n : I .i64) (h : 0 < n.val) : ∃ y : I .i64, a9C ((x, n, ()), ()) = some ((y, ()), ()) ∧ 0 ≤ y.val ∧ y.val < n.val := by
 have hn := b3J n
 have e : (I.conv .u64 n).val = n.val := b2F ⟨by omega, by omega⟩
 have hx := a2U (I.conv .u64 x)
 have er : (I.rem (I.conv .u64 x) (I.conv .u64 n)).val = (I.conv .u64 x).val % n.val := by rw [d3Y (by omega), e]
 have h3 := Int.emod_nonneg (I.conv .u64 x).val (b := n.val) (by omega)
 have h4 := Int.emod_lt_of_pos (I.conv .u64 x).val (b := n.val) (by omega)
 have ec : (I.conv .i64 (I.rem (I.conv .u64 x) (I.conv .u64 n))).val = (I.conv .u64 x).val % n.val := by
  show (I.of .i64 _).val = _
  rw [er]
  exact b1F ⟨by omega, by omega⟩
 refine ⟨I.conv .i64 (I.rem (I.conv .u64 x) (I.conv .u64 n)), ?_, by omega, by omega⟩
 refine Wp.out (T := fun o => o = _) ?_
 unfold a9C
 refine Wp.brnT (iff_nz.2 ?_) rfl
 show (I.conv .u64 n).val ≠ 0
 omega
end Sym

/- Tables of posters: what is generated is well formed. -/
namespace Sym
open Go
theorem TableOk.lt {l : List Post} (h : TableOk l) : ∀ j, j < l.length → ∀ i, i < j → (Post.addr (rdL dP l i)).val < (Post.addr (rdL dP l j)).val := by
 intro j
 induction j with
 | zero => intro _ i hi; omega
 | succ j ih =>
  intro hj i hi
  have h1 := (h.2 (j + 1) hj).2 (by omega)
  rw [Nat.add_sub_cancel] at h1
  rcases (by omega : i < j ∨ i = j) with h2 | rfl
  ·
   have := ih (by omega) i h2
   omega
  ·
   exact h1
theorem table_iff {l : List Post} : TableOk l ↔ l.length ≤ 64 ∧ (∀ p ∈ l, b0K p) ∧ l.Pairwise fun p q => (Post.addr p).val < (Post.addr q).val := by
 constructor
 ·
  intro h
  refine ⟨h.1, fun p hp => ?_, List.pairwise_iff_getElem.2 fun i j hi hj hij => ?_⟩
  ·
   obtain ⟨k, hk, rfl⟩ := b4F dP hp
   exact (h.2 k hk).1
  ·
   rw [← a4G dP l i hi, ← a4G dP l j hj]
   exact h.lt j hj i hij
 ·
  rintro ⟨h1, h2, h3⟩
  refine ⟨h1, fun i hi => ⟨h2 _ (b3H dP l i hi), fun h0 => ?_⟩⟩
  have := List.pairwise_iff_getElem.1 h3 (i - 1) i (by omega) hi (by omega)
  rw [a4G dP l i hi, a4G dP l (i - 1) (by omega)]
  exact this
theorem e8I {l : List Post} (h : TableOk l) {k : Nat} (hk : k < l.length) {v : Post} (hv : b0K v) (ha : Post.addr v = Post.addr (rdL dP l k)) : TableOk (setAt l k v) := by
 have hlen : (setAt l k v).length = l.length := by rw [a2D, List.length_set]
 have haddr : ∀ i, Post.addr (rdL dP (setAt l k v) i) = Post.addr (rdL dP l i) := by
  intro i
  rw [b2K]
  split
  ·
   rename_i e
   rw [ha, e.1]
  ·
   rfl
 refine ⟨by rw [hlen]; exact h.1, fun i hi => ?_⟩
 rw [hlen] at hi
 rw [haddr, haddr]
 refine ⟨?_, (h.2 i hi).2⟩
 rw [b2K]
 split
 ·
  exact hv
 ·
  exact (h.2 i hi).1
theorem d6R {p : Post} {n : U} (h : b0K p) (h1 : n.val ≤ (Post.due p).val) (h2 : (Post.paid p).val + n.val < U.top) : b0K (settled p n) := by
 obtain ⟨ha, hb, hc⟩ := h
 have hd := U.lt (Post.due p)
 refine ⟨ha, ?_, ?_⟩
 ·
  show (U.of ((Post.due p).val - n.val)).val + (U.of ((Post.paid p).val + n.val)).val = _
  rw [U.val_of (by omega), U.val_of h2]
  show _ = (Post.costs p).val + (Post.rewards p).val
  omega
 ·
  show (if (Post.due p).val - n.val = 0 then I.of .u64 0 else Post.since p).val = 0 ↔ (U.of ((Post.due p).val - n.val)).val = 0
  rw [U.val_of (by omega)]
  split
  ·
   rename_i e
   rw [e]
   exact ⟨fun _ => rfl, fun _ => rfl⟩
  ·
   rename_i e
   rw [hc]
   omega
theorem d2W {l : List Post} (h : TableOk l) : bnot (tabB l) = false := by rw [tabB_t.2 h]; rfl
theorem e9O {a : I .u64} (ha : a.val ≠ 0) : b0K (a, (Z_U, (Z_U, (Z_U, (Z_U, ((I.of .u64 0), ())))))) := ⟨ha, rfl, ⟨fun _ => rfl, fun _ => rfl⟩⟩
theorem d4Z {l : List Post} {a : I .u64} (h : ¬ atN l a < l.length) : ∀ k, k < l.length → (Post.addr (rdL dP l k)).val ≠ a.val := by
 intro k hk e
 have h1 : atN l a ≤ l.length := List.findIdx_le_length
 have h2 : atN l a = l.length := by omega
 unfold atN at h2
 rw [List.findIdx_eq_length] at h2
 have := h2 _ (b3H dP l k hk)
 exact absurd (iff_eqb.2 e) (by rw [this]; simp)
end Sym

/- Tables of posters: what is generated is well formed: Accrue, the calls. -/
namespace Sym
open Go
theorem d7G {p : Post} (h : b0K p) (c w : U) (s : I .u64) (hs : s.val ≠ 0) (h1 : (Post.due p).val + (c.val + w.val) < U.top) (h2 : (Post.costs p).val + c.val < U.top) (h3 : (Post.rewards p).val + w.val < U.top) (s' : I .u64)
  (hs' : (s' = s ∧ (Post.due p).val = 0 ∧ 0 < (Post.due p).val + (c.val + w.val)) ∨ (s' = Post.since p ∧ ¬ ((Post.due p).val = 0 ∧ 0 < (Post.due p).val + (c.val + w.val)))) :
  b0K (p.1, (U.of ((Post.due p).val + (c.val + w.val)), (U.of ((Post.costs p).val + c.val), (U.of ((Post.rewards p).val + w.val), (p.2.2.2.2.1, (s', ())))))) := by
 obtain ⟨ha, hb, hc⟩ := h
 refine ⟨ha, ?_, ?_⟩
 ·
  show (U.of _).val + (Post.paid p).val = (U.of _).val + (U.of _).val
  rw [U.val_of h1, U.val_of h2, U.val_of h3]
  omega
 ·
  show s'.val = 0 ↔ (U.of _).val = 0
  rw [U.val_of h1]
  rcases hs' with ⟨rfl, e1, e2⟩ | ⟨rfl, e⟩
  ·
   constructor
   ·
    intro e; exact absurd e hs
   ·
    intro e; omega
  ·
   rw [hc]
   omega
theorem e1S {l : List Dg} {n : Nat} (hl : IsB l n) (hlen : l.length ≤ 1000000) : a2R ((l, ()), ()) = some ((decide (n < U.top), ()), ()) := c4I hl (by omega)
theorem d8K {l : List Dg} {n : Nat} (h : IsB l n) : 0 < l.length ↔ 0 < n := by
 have := h.len (k := 0)
 simp only [Nat.pow_zero] at this
 omega
theorem f0H {l : List Dg} {n : Nat} (h : IsB l n) (hl : l.length ≤ 1000000) : I.ltb (I.of .i64 0) (I.ofNat .i64 (lenL l)) = decide (0 < n) := by
 rw [a8E, a4H, a4U, a5T (by omega) (by omega)]
 by_cases hx : 0 < n
 ·
  rw [decide_eq_true hx, decide_eq_true ((d8K h).2 hx)]
 ·
  rw [decide_eq_false hx, decide_eq_false (fun h' => hx ((d8K h).1 h'))]
abbrev Call : Type := b8J
end Sym

/- Payments: Apply, the laws that compare with the reference. -/
namespace Sym
open Go
noncomputable def a2F : List Post → List Pay → List Post × I .i64
 | out, [] => (out, I.of .i64 0)
 | out, q :: r => if (a7X out q.1 q.2.1).2.val = 0 then a2F (a7X out q.1 q.2.1).1 r else ([], (a7X out q.1 q.2.1).2)
theorem c7H {l : List Post} {a : I .u64} {n : U} (h : (a7X l a n).2.val = 0) : (a7X l a n).1.length = l.length := by
 unfold a7X at h ⊢
 split at h
 ·
  split at h
  ·
   split at h
   ·
    split at h
    ·
     rename_i h1 h2 h3 h4
     rw [if_pos h1, if_pos h2, if_pos h3, if_pos h4]
     show (setAt l _ _).length = _
     rw [a2D, List.length_set]
    ·
     exact absurd h (by decide)
   ·
    exact absurd h (by decide)
  ·
   exact absurd h (by decide)
 ·
  exact absurd h (by decide)
theorem d9W (l : List Post) (p : List Pay) (hl : l.length ≤ 1073741824) (hp : p.length ≤ 1073741824) : a9B ((l, (p, ())), ()) = some (((a2F l p).1, ((a2F l p).2, ())), ()) := by
 refine Wp.out (T := fun o => o = _) ?_
 unfold a9B
 refine Wp.optF (b9N l hl) ?_
 simp only [a4U, a4H, a8E, a8G]
 refine Wp.iter (fun s => ∃ i out, s = ((out, (p, (i6 p.length, (i6 i, ())))), ()) ∧ i ≤ p.length ∧ out.length ≤ 1073741824 ∧ a2F out (p.drop i) = a2F l p) (fun s => p.length - s.1.2.2.2.1.val.toNat) ?_ ⟨0, l, rfl, by omega, hl, rfl⟩ ?_
 ·
  rintro s ⟨i, out, rfl, hi, ho, he⟩
  simp only [a5T (show i < 9223372036854775808 by omega) (show p.length < 9223372036854775808 by omega), a3L (show i < 9223372036854775808 by omega), a6H (show i + 1 < 9223372036854775808 by omega)]
  refine Wp.brn (fun hc => ?_) (fun hc => ?_)
  ·
   have hc := of_decide_eq_true hc
   refine Wp.brnT (a3K (by omega) (by omega)) ?_
   rw [List.drop_eq_getElem_cons hc, ← a4G dY p i hc] at he
   simp only [a2F] at he
   refine Wp.optF (d6S out _ _ ho) ?_
   refine Wp.brn (fun h => ?_) (fun h => ?_)
   ·
    have h := iff_neb.1 h
    have h : ¬ (a7X out (rdL dY p i).1 (rdL dY p i).2.1).2.val = 0 := h
    rw [if_neg h] at he
    rw [← he]
    exact Wp.done rfl
   ·
    have h := niff_neb.1 h
    have h : (a7X out (rdL dY p i).1 (rdL dY p i).2.1).2.val = 0 := h
    rw [if_pos h] at he
    exact Wp.again ⟨i + 1, _, rfl, by omega, by rw [c7H h]; exact ho, he⟩ (by show p.length - (i6 (i + 1)).val.toNat < p.length - (i6 i).val.toNat; rw [a0Y (by omega), a0Y (by omega)]; omega)
  ·
   have hc := of_decide_eq_false hc
   rw [List.drop_eq_nil_iff.2 (by omega)] at he
   refine Wp.done ?_
   rw [← he]
   rfl
 ·
  rw [a5L]
  show p.length - _ < _
  omega
theorem e1X (l : List Post) (p : List Pay) (hl : l.length ≤ 1073741824) (hp : p.length ≤ 1073741824) : a6Q ((l, (p, ())), ()) = some (((a2F l p).1, ((a2F l p).2, ())), ()) := by
 refine Wp.out (T := fun o => o = _) ?_
 unfold a6Q
 refine Wp.brnT (b0L (by show l.length ≤ _; exact hl)) ?_
 simp only [a4U, a4H, a8E, a8G]
 refine Wp.iter (fun s => ∃ i out, s = ((p, (out, (i6 i, ()))), ()) ∧ i ≤ p.length ∧ out.length ≤ 1073741824 ∧ a2F out (p.drop i) = a2F l p) (fun s => p.length - s.1.2.2.1.val.toNat) ?_ ⟨0, l, rfl, by omega, hl, rfl⟩ ?_
 ·
  rintro s ⟨i, out, rfl, hi, ho, he⟩
  simp only [a5T (show i < 9223372036854775808 by omega) (show p.length < 9223372036854775808 by omega), a3L (show i < 9223372036854775808 by omega), a6H (show i + 1 < 9223372036854775808 by omega)]
  refine Wp.brn (fun hc => ?_) (fun hc => ?_)
  ·
   have hc := of_decide_eq_true hc
   have bi : inB (i6 i) p.length = true := a3K (by omega) (by omega)
   refine Wp.brnT bi (Wp.brnT bi ?_)
   rw [List.drop_eq_getElem_cons hc, ← a4G dY p i hc] at he
   simp only [a2F] at he
   refine Wp.optF (d7E out _ _ ho) ?_
   refine Wp.brn (fun h => ?_) (fun h => ?_)
   ·
    have h := iff_neb.1 h
    have h : ¬ (a7X out (rdL dY p i).1 (rdL dY p i).2.1).2.val = 0 := h
    rw [if_neg h] at he
    rw [← he]
    exact Wp.done rfl
   ·
    have h := niff_neb.1 h
    have h : (a7X out (rdL dY p i).1 (rdL dY p i).2.1).2.val = 0 := h
    rw [if_pos h] at he
    exact Wp.again ⟨i + 1, _, rfl, by omega, by rw [c7H h]; exact ho, he⟩ (by show p.length - (i6 (i + 1)).val.toNat < p.length - (i6 i).val.toNat; rw [a0Y (by omega), a0Y (by omega)]; omega)
  ·
   have hc := of_decide_eq_false hc
   rw [List.drop_eq_nil_iff.2 (by omega)] at he
   refine Wp.done ?_
   rw [← he]
   rfl
 ·
  rw [a5L]
  show p.length - _ < _
  omega
abbrev yTy : Ty := .cons (.int .u64) (.cons (.arr 4 (.int .u64)) .nil)
theorem eqbY (q : Pay) : Ty.eqb yTy q q = true := eqb_self' (t := yTy) rfl q
theorem b9L (a : List Pay) (ha : a.length ≤ 1073741824) : a3T ((a, (a, ())), ()) = some ((true, ()), ()) := by
 refine Wp.out (T := fun o => o = some ((true, ()), ())) ?_
 unfold a3T
 refine Wp.brnF (niff_neb.2 rfl) ?_
 simp only [a4U, a4H, a8E, a8G]
 refine Wp.iter (fun s => ∃ i, s = ((a, (a, (i6 i, ()))), ()) ∧ i ≤ a.length) (fun s => a.length - s.1.2.2.1.val.toNat) ?_ ⟨0, rfl, by omega⟩ ?_
 ·
  rintro s ⟨i, rfl, hi⟩
  simp only [a5T (show i < 9223372036854775808 by omega) (show a.length < 9223372036854775808 by omega), a3L (show i < 9223372036854775808 by omega), a6H (show i + 1 < 9223372036854775808 by omega)]
  refine Wp.brn (fun hc => ?_) (fun hc => Wp.done rfl)
  have hc := of_decide_eq_true hc
  have bi : inB (i6 i) a.length = true := a3K (by omega) (by omega)
  refine Wp.brnT bi (Wp.brnT bi (Wp.brnF (congrArg bnot (eqbY _)) ?_))
  exact Wp.again ⟨i + 1, rfl, by omega⟩ (by show a.length - (i6 (i + 1)).val.toNat < a.length - (i6 i).val.toNat; rw [a0Y (by omega), a0Y (by omega)]; omega)
 ·
  rw [a5L]
  show a.length - _ < _
  omega
theorem e9U {n : Nat} {X : Type} {l : List X} (h : l.length ≤ LIM) (hn : n < 1000000) (hc : I.ltb (I.of .i64 (n : Int)) (I.ofNat .i64 (lenL l)) = false) : l.length ≤ n := by
 have h : l.length ≤ 140737488355328 := h
 rw [g2B, a4H, a4U, a5T (by omega) (by omega)] at hc
 have := of_decide_eq_false hc
 omega
end Sym

/- Payments: the law of sums and of Apply. -/
namespace Sym
open Go
end Sym

/- Payments: what a plan pays, and what the table is behind it. -/
namespace Sym
open Go
theorem d8M {l m : List Nat} (h : l.Perm m) : sumN l = sumN m := by
 induction h with
 | nil => rfl
 | cons x _ ih => simp only [sumN, List.foldr_cons] at *; omega
 | swap x y l => simp only [sumN, List.foldr_cons]; omega
 | trans _ _ ih1 ih2 => exact ih1.trans ih2
theorem ow_iff {p : Post} : ow p = true ↔ dueN p ≠ 0 := by
 unfold ow
 rw [nz_u]
 simp [dueN]
theorem d7U (l : List Post) : sumN ((l.filter ow).map dueN) = sumN (l.map dueN) := by
 induction l with
 | nil => rfl
 | cons p l ih =>
  rw [List.filter_cons]
  split
  ·
   simp only [sumN, List.map_cons, List.foldr_cons] at *; omega
  ·
   rename_i h
   have : dueN p = 0 := by
    have := mt ow_iff.2 h
    omega
   simp only [sumN, List.map_cons, List.foldr_cons] at *; omega
noncomputable abbrev ord (x : List Post) : List Post := (b2I x).map (·.1)
theorem f1D (x : List Post) : sumN ((ord x).map dueN) = sumN (x.map dueN) := by
 rw [← d7U x]
 exact d8M ((b6P x).map dueN)
theorem f1O {x : List Post} {p : Post} (h : p ∈ ord x) : p ∈ x ∧ ow p = true := List.mem_filter.1 ((b6P x).mem_iff.1 h)
theorem e0N {x : List Post} (hx : TableOk x) : (ord x).Pairwise fun p q => Post.addr p ≠ Post.addr q := by
 have h := (table_iff.1 hx).2.2
 have h2 : (x.filter ow).Pairwise fun p q => Post.addr p ≠ Post.addr q := (h.filter ow).imp fun {p q} hlt e => by rw [e] at hlt; omega
 exact (List.Perm.pairwise_iff (fun {p q} h e => h e.symm) (b6P x)).2 h2
theorem d4G : ∀ (o : List Post) (n : Nat), n < U.top → sumN ((a7F o n).map amt) = min n (sumN (o.map dueN))
 | [], n, _ => by simp [a7F, sumN]
 | p :: r, n, hn => by
  simp only [a7F]
  split
  ·
   rename_i h
   subst h
   simp [sumN]
  ·
   have ih := d4G r (n - min (dueN p) n) (by omega)
   have hv : (U.of (min (dueN p) n)).val = min (dueN p) n := U.val_of (by omega)
   have : amt (p.addr, (U.of (min (dueN p) n), ())) = min (dueN p) n := hv
   simp only [sumN, List.map_cons, List.foldr_cons, this] at *
   omega
theorem e0B : ∀ (l : List Post) (k : Nat) (v : Post), k < l.length → sumN ((setAt l k v).map dueN) + dueN (rdL dP l k) = sumN (l.map dueN) + dueN v
 | [], k, v, h => by simp at h
 | p :: l, 0, v, _ => by simp only [setAt, rdL, sumN, List.map_cons, List.foldr_cons]; omega
 | p :: l, k + 1, v, h => by
  have := e0B l k v (by simpa using h)
  simp only [setAt, rdL, sumN, List.map_cons, List.foldr_cons] at *
  omega
theorem e3O {out : List Post} (h : TableOk out) {p : Post} (hp : p ∈ out) : atN out p.addr < out.length ∧ rdL dP out (atN out p.addr) = p := by
 obtain ⟨k, hk, rfl⟩ := b4F dP hp
 have e : atN out (Post.addr (rdL dP out k)) = k := e1I hk (iff_eqb.2 rfl) (fun j hj => niff_eqb.2 (by have := h.lt k hk j hj; omega))
 rw [e]
 exact ⟨hk, rfl⟩
theorem e1U {out : List Post} (h : TableOk out) {i j : Nat} (hi : i < out.length) (hj : j < out.length) (e : Post.addr (rdL dP out i) = Post.addr (rdL dP out j)) : i = j := by
 rcases Nat.lt_trichotomy i j with h1 | h1 | h1
 ·
  have := h.lt j hj i h1; rw [e] at this; omega
 ·
  exact h1
 ·
  have := h.lt i hi j h1; rw [e] at this; omega
theorem c6V : ∀ (o : List Post) (n : Nat) (out : List Post), n < U.top → TableOk out → (∀ p ∈ o, p ∈ out ∧ ow p = true) → (o.Pairwise fun p q => Post.addr p ≠ Post.addr q) →
  (a2F out (a7F o n)).2 = I.of .i64 4 ∨ ((a2F out (a7F o n)).2 = I.of .i64 0 ∧ TableOk (a2F out (a7F o n)).1 ∧ (a2F out (a7F o n)).1.length = out.length ∧
   (∀ i, Post.addr (rdL dP (a2F out (a7F o n)).1 i) = Post.addr (rdL dP out i)) ∧
   sumN ((a2F out (a7F o n)).1.map dueN) + sumN ((a7F o n).map amt) = sumN (out.map dueN) ∧
   (∀ i, (∀ p ∈ o, Post.addr p ≠ Post.addr (rdL dP out i)) → rdL dP (a2F out (a7F o n)).1 i = rdL dP out i) ∧
   (∀ t, t + 1 < (a7F o n).length → ∀ i, i < out.length → Post.addr (rdL dP out i) = Post.addr (rdL dP o t) → dueN (rdL dP (a2F out (a7F o n)).1 i) = 0))
 | [], n, out, _, ht, _, _ => .inr ⟨rfl, ht, rfl, fun _ => rfl, by simp [a7F, a2F, sumN], fun _ _ => rfl, fun t h => by simp [a7F] at h⟩
 | p :: r, n, out, hn, ht, hin, hap => by
  by_cases h0 : n = 0
  ·
   subst h0
   rw [b7F]
   exact .inr ⟨rfl, ht, rfl, fun _ => rfl, by simp [a2F, sumN], fun _ _ => rfl, fun t h => by simp at h⟩
  ·
   have hpl : a7F (p :: r) n = (p.addr, (U.of (min (dueN p) n), ())) :: a7F r (n - min (dueN p) n) := if_neg h0
   rw [hpl]
   simp only [a2F]
   have ⟨hk, hkp⟩ := e3O ht (hin p (by simp)).1
   obtain ⟨m, hm⟩ : ∃ m, m = min (dueN p) n := ⟨_, rfl⟩
   rw [← hm]
   have hmv : (U.of m).val = m := U.val_of (by omega)
   have hmd : m ≤ dueN p := by omega
   have hst : a7X out p.addr (U.of m) = if (Post.paid p).val + m < U.top then (setAt out (atN out p.addr) (settled p (U.of m)), I.of .i64 0) else ([], I.of .i64 4) := by
    unfold a7X
    rw [if_pos (tabB_t.2 ht), if_pos hk, hkp, hmv, if_pos (show m ≤ (Post.due p).val from hmd)]
   rw [hst]
   by_cases hpd : (Post.paid p).val + m < U.top
   ·
    rw [if_pos hpd]
    simp only [show (I.of .i64 0).val = 0 from rfl, if_true]
    obtain ⟨k, hkk⟩ : ∃ k, k = atN out p.addr := ⟨_, rfl⟩
    rw [← hkk] at hk hkp ⊢
    have hT : TableOk (setAt out k (settled p (U.of m))) := e8I ht hk (d6R ((table_iff.1 ht).2.1 p (hin p (by simp)).1) (by rw [hmv]; exact hmd) (by rw [hmv]; exact hpd)) (by rw [hkp]; rfl)
    have ⟨hap1, hap2⟩ := List.pairwise_cons.1 hap
    have hlen : (setAt out k (settled p (U.of m))).length = out.length := by rw [a2D, List.length_set]
    have haddr : ∀ i, Post.addr (rdL dP (setAt out k (settled p (U.of m))) i) = Post.addr (rdL dP out i) := by
     intro i
     rw [b2K]
     split
     ·
      rename_i e
      rw [e.1, hkp]
      rfl
     ·
      rfl
    have hin' : ∀ q ∈ r, q ∈ setAt out k (settled p (U.of m)) ∧ ow q = true := by
     intro q hq
     have ⟨h1, h2⟩ := hin q (List.mem_cons_of_mem _ hq)
     refine ⟨?_, h2⟩
     obtain ⟨i, hi, e⟩ := b4F dP h1
     have hik : i ≠ k := by
      rintro rfl
      rw [hkp] at e
      exact hap1 q hq (by rw [e])
     have : rdL dP (setAt out k (settled p (U.of m))) i = q := by rw [b2K, if_neg (by omega), e]
     rw [← this]
     exact b3H dP _ i (by rw [hlen]; exact hi)
    have hsum := e0B out k (settled p (U.of m)) hk
    rw [hkp] at hsum
    have hdn : dueN (settled p (U.of m)) = dueN p - m := by
     show (U.of ((Post.due p).val - (U.of m).val)).val = _
     rw [hmv, U.val_of (by have := U.lt (Post.due p); omega)]
     rfl
    have ham : amt (p.addr, (U.of m, ())) = m := hmv
    rcases c6V r (n - m) (setAt out k (settled p (U.of m))) (by omega) hT hin' hap2 with h | ⟨g1, g2, g3, g4, g5, g6, g7⟩
    ·
     exact .inl h
    ·
     refine .inr ⟨g1, g2, g3.trans hlen, fun i => (g4 i).trans (haddr i), ?_, fun i hi => ?_, fun t htl i hi he => ?_⟩
     ·
      simp only [List.map_cons, ham]
      have : sumN (m :: (a7F r (n - m)).map amt) = m + sumN ((a7F r (n - m)).map amt) := rfl
      rw [this]
      omega
     ·
      rw [g6 i (fun q hq => by rw [haddr]; exact hi q (List.mem_cons_of_mem _ hq)), b2K, if_neg]
      rintro ⟨rfl, _⟩
      exact hi p (by simp) (by rw [hkp])
     ·
      cases t with
      | zero =>
       have hr : 0 < (a7F r (n - m)).length := by simpa using htl
       have hmn : m ≠ n := by
        rintro rfl
        rw [Nat.sub_self, b7F] at hr
        simp at hr
       have hmd : m = dueN p := by omega
       have hik : i = k := e1U ht hi hk (by rw [he, hkp]; rfl)
       subst hik
       have hpr : ∀ q ∈ r, Post.addr q ≠ Post.addr (rdL dP (setAt out i (settled p (U.of m))) i) := fun q hq => by
        rw [haddr, hkp]
        exact fun e => hap1 q hq e.symm
       rw [g6 i hpr, b2K, if_pos ⟨rfl, hk⟩, hdn]
       omega
      | succ t =>
       exact g7 t (by simpa using htl) i (by rw [hlen]; exact hi) (by rw [haddr]; exact he)
   ·
    rw [if_neg hpd]
    exact .inl rfl
end Sym

/- Payments: a greater pool pays nobody less. -/
namespace Sym
open Go
theorem d5A {x : List Post} (hx : TableOk x) (n : U) : d2J x n = (a7F (ord x) n.val, I.of .i64 0) := if_pos (tabB_t.2 hx)
theorem f1Z (x : List Post) : (ord x).length ≤ x.length := by rw [List.length_map]; exact c2T x
end Sym

/- Payments: the oldest debts first. -/
namespace Sym
open Go
end Sym

/- Payments: the payments total the smaller of the pool and the debts. -/
namespace Sym
open Go
end Sym

/- The length of a number in bits. -/
namespace Sym
open Go
theorem c8Y {l : IntKind} (x : I .u64) (s : I l) (h0 : 0 ≤ s.val) (hs : s.val < 64) : (I.shr x s).nat = x.nat / 2 ^ s.val.toNat := by
 have hx := a2U x
 have hm : min s.val.toNat IntKind.u64.bits = s.val.toNat := by
  have : IntKind.u64.bits = 64 := rfl
  omega
 unfold I.shr
 rw [hm, b9A _ _ hx.1]
 have h1 : ((x.nat / 2 ^ s.val.toNat : Nat) : Int) = x.val / (2 : Int) ^ s.val.toNat := by
  rw [Int.natCast_ediv, a0Z]
  simp
 rw [← h1]
 have := Nat.div_le_self x.nat (2 ^ s.val.toNat)
 have := a1J x
 exact b6A (by omega)
def Bits (n k : Nat) : Prop := ∀ m, k ≤ m ↔ n < 2 ^ m
theorem Bits.inj {n j k : Nat} (h : Bits n j) (h2 : Bits n k) : j = k := by
 have a := (h k).2 ((h2 k).1 (Nat.le_refl _))
 have b := (h2 j).2 ((h j).1 (Nat.le_refl _))
 omega
theorem Bits.zero : Bits 0 0 := fun m => ⟨fun _ => Nat.pow_pos (by decide), fun _ => Nat.zero_le _⟩
theorem Bits.up {n k s : Nat} (h : Bits (n / 2 ^ s) k) (h1 : s = 0 ∨ 0 < n / 2 ^ s) : Bits n (k + s) := by
 intro m
 rcases h1 with rfl | h1
 ·
  have := h m
  simpa using this
 ·
  have hk : 1 ≤ k := by
   rcases Nat.eq_zero_or_pos k with h2 | h2
   ·
    subst h2; have := (h 0).1 (Nat.le_refl _); rw [Nat.pow_zero] at this; omega
   ·
    exact h2
  by_cases hm : s ≤ m
  ·
   have e := h (m - s)
   have e2 : n / 2 ^ s < 2 ^ (m - s) ↔ n < 2 ^ m := by
    rw [Nat.div_lt_iff_lt_mul (Nat.pow_pos (by decide)), ← Nat.pow_add]
    rw [show m - s + s = m by omega]
   rw [← e2, ← e]
   omega
  ·
   have : ¬ n < 2 ^ m := by
    intro hn
    have h3 : 2 ^ m ≤ 2 ^ s := Nat.pow_le_pow_right (by decide) (by omega)
    have : n / 2 ^ s = 0 := Nat.div_eq_of_lt (Nat.lt_of_lt_of_le hn h3)
    omega
   constructor
   ·
    omega
   ·
    intro h; exact absurd h this
def tab8 : List Nat := [0, 1, 2, 2, 3, 3, 3, 3, 4, 4, 4, 4, 4, 4, 4, 4, 5, 5, 5, 5, 5, 5, 5, 5, 5, 5, 5, 5, 5, 5, 5, 5, 6, 6, 6, 6, 6, 6, 6, 6, 6, 6, 6, 6, 6, 6, 6, 6, 6, 6, 6, 6, 6, 6, 6, 6, 6, 6, 6, 6, 6, 6, 6, 6, 7, 7, 7, 7, 7, 7, 7, 7, 7, 7, 7, 7, 7, 7, 7, 7, 7, 7, 7, 7, 7, 7, 7, 7, 7, 7, 7, 7, 7, 7, 7, 7, 7, 7, 7, 7, 7, 7, 7, 7, 7, 7, 7, 7, 7, 7, 7, 7, 7, 7, 7, 7, 7, 7, 7, 7, 7, 7, 7, 7, 7, 7, 7, 7, 8, 8, 8, 8, 8, 8, 8, 8, 8, 8, 8, 8, 8, 8, 8, 8, 8, 8, 8, 8, 8, 8, 8, 8, 8, 8, 8, 8, 8, 8, 8, 8, 8, 8, 8, 8, 8, 8, 8, 8, 8, 8, 8, 8, 8, 8, 8, 8, 8, 8, 8, 8, 8, 8, 8, 8, 8, 8, 8, 8, 8, 8, 8, 8, 8, 8, 8, 8, 8, 8, 8, 8, 8, 8, 8, 8, 8, 8, 8, 8, 8, 8, 8, 8, 8, 8, 8, 8, 8, 8, 8, 8, 8, 8, 8, 8, 8, 8, 8, 8, 8, 8, 8, 8, 8, 8, 8, 8, 8, 8, 8, 8, 8, 8, 8, 8, 8, 8, 8, 8, 8, 8, 8, 8, 8, 8, 8, 8]
theorem e8Y : a3O = e0M tab8 := by kernel_rfl
theorem c8L : ∀ i, i < 256 → rdL 0 tab8 i ≤ 8 ∧ ∀ m, m ≤ 8 → (rdL 0 tab8 i ≤ m ↔ i < 2 ^ m) := by decide +kernel
theorem d1C {i : Nat} (h : i < 256) : Bits i (rdL 0 tab8 i) := by
 intro m
 have ⟨h1, h2⟩ := c8L i h
 by_cases hm : m ≤ 8
 ·
  exact h2 m hm
 ·
  have : 2 ^ 8 ≤ 2 ^ m := Nat.pow_le_pow_right (by decide) (by omega)
  omega
theorem d1F : ∀ (l : List Nat) (i : Nat), rdL (I.of .u8 0) (e0M l) i = I.of .u8 ((rdL 0 l i : Nat) : Int)
 | [], _ => rfl
 | _ :: _, 0 => rfl
 | _ :: l, i + 1 => d1F l i
theorem d9O (x : I .u64) (h : x.nat < 256) : I.nat (I.conv .u8 x) = x.nat ∧ (I.conv .u8 x).val = x.nat := by
 have hx := a0Z x
 have : (I.conv .u8 x).val = x.val := f8E (by omega)
 unfold I.nat at *
 rw [this]
 omega
theorem d9B {x : I .u64} (h : x.nat < 256) : (I.conv (k := .u8) .i64 (rdL (I.of .u8 0) a3O (I.nat (I.conv .u8 x)))) = i6 (rdL 0 tab8 x.nat) ∧ inB (I.conv .u8 x) 256 = true := by
 have ⟨h1, h2⟩ := d9O x h
 have ⟨h3, _⟩ := c8L x.nat h
 constructor
 ·
  rw [h1, e8Y, d1F]
  apply I.ext'
  rw [a0Y (by omega)]
  show (I.of .i64 (I.of .u8 ((rdL 0 tab8 x.nat : Nat) : Int)).val).val = _
  rw [f8E (by omega), b1F (by omega)]
 ·
  exact iff_inB.2 (by rw [h2]; omega)
theorem d2D (n : Nat) (x : I .u64) (h : n < 18446744073709551616) : I.leb (I.of .u64 (n : Int)) x = decide (n ≤ x.nat) := by
 have := a0Z x
 have h2 : (I.of .u64 (n : Int)).val = n := b2F ⟨by omega, by omega⟩
 by_cases hc : n ≤ x.nat
 ·
  rw [decide_eq_true hc]; exact iff_leb.2 (by omega)
 ·
  rw [decide_eq_false hc]; exact niff_leb.2 (by omega)
theorem e4F (a : I .u64) : ∃ y, a6C ((a, ()), ()) = some y ∧ ∃ k, y = ((i6 k, ()), ()) ∧ Bits a.nat k ∧ k ≤ 64 := by
 have hb : ∀ k, Bits a.nat k → k ≤ 64 := fun k h => (h 64).2 (by have := a1J a; omega)
 refine Wp.out (T := fun o => ∃ y, o = some y ∧ ∃ k, y = ((i6 k, ()), ()) ∧ Bits a.nat k ∧ k ≤ 64) ?_
 unfold a6C
 refine Wp.jn (fun s => ∃ x n, s = ((x, (i6 n, ())), ()) ∧ x.nat = a.nat / 2 ^ n ∧ (n = 0 ∨ 0 < x.nat) ∧ n ≤ 32 ∧ x.nat < 4294967296) ?_ ?_
 ·
  rintro s ⟨x, n, rfl, hx, h0, hn, hl⟩
  refine Wp.jn (fun s => ∃ y m, s = ((y, (i6 m, ())), ()) ∧ y.nat = a.nat / 2 ^ m ∧ (m = 0 ∨ 0 < y.nat) ∧ m ≤ 48 ∧ y.nat < 65536) ?_ ?_
  ·
   rintro s ⟨y, m, rfl, hy, h1, hm, hl2⟩
   have e2 : I.of .u64 256 = I.of .u64 ((256 : Nat) : Int) := rfl
   simp only [e2, d2D 256 y (by decide)]
   refine Wp.brn (fun hc => ?_) (fun hc => ?_)
   ·
    have hc := of_decide_eq_true hc
    have hs : (I.shr y (I.of .u64 8)).nat = y.nat / 256 := c8Y y (I.of .u64 8) (by decide) (by decide)
    have hlt : (I.shr y (I.of .u64 8)).nat < 256 := by omega
    have ⟨t1, t2⟩ := d9B hlt
    have ⟨t3, _⟩ := c8L _ hlt
    refine Wp.brnT t2 ?_
    simp only [t1]
    have e8 : I.of .i64 8 = i6 8 := rfl
    rw [e8, a6H (by omega), a6H (by omega)]
    have hB : Bits a.nat (rdL 0 tab8 (I.shr y (I.of .u64 8)).nat + (m + 8)) := by
     refine Bits.up ?_ (.inr ?_)
     ·
      rw [Nat.pow_add, ← Nat.div_div_eq_div_mul, ← hy]
      rw [show y.nat / 2 ^ 8 = (I.shr y (I.of .u64 8)).nat from hs.symm]
      exact d1C hlt
     ·
      rw [Nat.pow_add, ← Nat.div_div_eq_div_mul, ← hy]
      omega
    refine ⟨_, rfl, _, rfl, ?_, hb _ ?_⟩
    ·
     rw [Nat.add_comm]; exact hB
    ·
     rw [Nat.add_comm]; exact hB
   ·
    have hc := of_decide_eq_false hc
    have hlt : y.nat < 256 := by omega
    have ⟨t1, t2⟩ := d9B hlt
    have ⟨t3, _⟩ := c8L _ hlt
    refine Wp.brnT t2 ?_
    simp only [t1]
    rw [a6H (by omega)]
    have hB : Bits a.nat (rdL 0 tab8 y.nat + m) := by
     refine Bits.up (by rw [← hy]; exact d1C hlt) (by rw [← hy]; exact h1)
    refine ⟨_, rfl, _, rfl, ?_, hb _ ?_⟩
    ·
     rw [Nat.add_comm]; exact hB
    ·
     rw [Nat.add_comm]; exact hB
  ·
   intro j hj
   have e2 : I.of .u64 65536 = I.of .u64 ((65536 : Nat) : Int) := rfl
   simp only [e2, d2D 65536 x (by decide)]
   refine Wp.brn (fun hc => hj _ ?_) (fun hc => hj _ ?_)
   ·
    have hc := of_decide_eq_true hc
    have hs : (I.shr x (I.of .u64 16)).nat = x.nat / 65536 := c8Y x (I.of .u64 16) (by decide) (by decide)
    refine ⟨_, n + 16, by rw [show I.of .i64 16 = i6 16 from rfl, a6H (by omega)], ?_, .inr (by rw [hs]; omega), by omega, by rw [hs]; omega⟩
    rw [hs, Nat.pow_add, ← Nat.div_div_eq_div_mul, ← hx]
   ·
    have hc := of_decide_eq_false hc
    exact ⟨x, n, rfl, hx, h0, by omega, by omega⟩
 ·
  intro j hj
  have e2 : I.of .u64 4294967296 = I.of .u64 ((4294967296 : Nat) : Int) := rfl
  have ha := a1J a
  simp only [e2, d2D 4294967296 a (by decide)]
  refine Wp.brn (fun hc => hj _ ?_) (fun hc => hj _ ?_)
  ·
   have hc := of_decide_eq_true hc
   have hs : (I.shr a (I.of .u64 32)).nat = a.nat / 4294967296 := c8Y a (I.of .u64 32) (by decide) (by decide)
   exact ⟨_, 32, rfl, hs, .inr (by rw [hs]; omega), by omega, by rw [hs]; omega⟩
  ·
   have hc := of_decide_eq_false hc
   exact ⟨a, 0, rfl, by simp, .inl rfl, by omega, by omega⟩
end Sym

/- Pricer: the length of a number, who is found, shares of units. -/
namespace Sym
open Go
theorem Wp.jnI {X R : Type} {T : R → Prop} {J : X → R} {f : (X → R) → R} (h : Wp T (f J)) : Wp T (Sym.jn J f) := h
theorem e5D {x : I .u64} : I.neb x (I.of .u64 0) = decide (x.nat ≠ 0) := by
 have hx := a0Z x
 have h0 : (I.of .u64 0).val = 0 := rfl
 by_cases h : x.nat = 0
 ·
  rw [decide_eq_false (by simpa using h)]; exact niff_neb.2 (by omega)
 ·
  rw [decide_eq_true h]; exact iff_neb.2 (by omega)
theorem e0A (a : U) : ∃ y, a5U ((a, ()), ()) = some y ∧ ∃ k, y = ((i6 k, ()), ()) ∧ Bits a.val k ∧ k ≤ 256 := by
 obtain ⟨k0, hk0⟩ := d4D
 obtain ⟨z0, z1, z2, z3, ⟨⟩⟩ := a
 have hb : ∀ k, Bits (U.val (z0, z1, z2, z3, ())) k → k ≤ 256 := fun k h => (h 256).2 (U.lt _)
 have l0 := a1J z0
 have l1 := a1J z1
 have l2 := a1J z2
 have l3 := a1J z3
 refine Wp.out (T := fun o => ∃ y, o = some y ∧ ∃ k, y = ((i6 k, ()), ()) ∧ Bits (U.val (z0, z1, z2, z3, ())) k ∧ k ≤ 256) ?_
 unfold a5U
 have e3 : I.of .i64 3 = i6 3 := rfl
 have fin : ∀ (j : Nat) (z : I .u64), j ≤ 3 → 0 < z.nat → U.val (z0, z1, z2, z3, ()) / 2 ^ (64 * j) = z.nat →
   ∃ y, a6C ((z, ()), ()) = some y ∧ ∃ k, (some ((I.add (I.mul (I.of .i64 64) (i6 j)) y.1.1, ()), ()) : Option (((I .i64) × Unit) × Unit)) = some ((i6 k, ()), ()) ∧ Bits (U.val (z0, z1, z2, z3, ())) k := by
  intro j z hj hz he
  obtain ⟨y, hy, k, rfl, hB, hk⟩ := e4F z
  refine ⟨_, hy, k + 64 * j, ?_, Bits.up (by rw [he]; exact hB) (.inr (by rw [he]; exact hz))⟩
  have hm : I.mul (I.of .i64 64) (i6 j) = i6 (64 * j) := by
   apply I.ext'
   rw [b8N (by rw [a0Y (by omega)]; show _ ≤ (64 : Int) * j ∧ (64 : Int) * j < _; omega), a0Y (by omega), a0Y (by omega)]
   show (64 : Int) * j = _
   omega
  show some ((I.add _ (i6 k), ()), ()) = _
  rw [hm, a6H (by omega), Nat.add_comm]
 simp only [hk0, e3, e5D]
 refine Wp.unroll (Wp.brnT rfl (Wp.brnT rfl (Wp.brn (fun h => Wp.brnT rfl ?_) (fun h => Wp.next ?_))))
 ·
  have h : z3.nat ≠ 0 := of_decide_eq_true h
  obtain ⟨y, hy, k, e, hB⟩ := fin 3 z3 (by omega) (by omega) (by show (z0.nat + 18446744073709551616 * (z1.nat + 18446744073709551616 * (z2.nat + 18446744073709551616 * z3.nat))) / 2 ^ 192 = _; omega)
  exact Wp.optF hy (Wp.stop ⟨_, e, k, rfl, hB, hb k hB⟩)
 have h : ¬ z3.nat ≠ 0 := of_decide_eq_false h
 refine Wp.unroll (Wp.brnT rfl (Wp.brnT rfl (Wp.brn (fun h => Wp.brnT rfl ?_) (fun h => Wp.next ?_))))
 ·
  have h : z2.nat ≠ 0 := of_decide_eq_true h
  obtain ⟨y, hy, k, e, hB⟩ := fin 2 z2 (by omega) (by omega) (by show (z0.nat + 18446744073709551616 * (z1.nat + 18446744073709551616 * (z2.nat + 18446744073709551616 * z3.nat))) / 2 ^ 128 = _; omega)
  exact Wp.optF hy (Wp.stop ⟨_, e, k, rfl, hB, hb k hB⟩)
 have h : ¬ z2.nat ≠ 0 := of_decide_eq_false h
 refine Wp.unroll (Wp.brnT rfl (Wp.brnT rfl (Wp.brn (fun h => Wp.brnT rfl ?_) (fun h => Wp.next ?_))))
 ·
  have h : z1.nat ≠ 0 := of_decide_eq_true h
  obtain ⟨y, hy, k, e, hB⟩ := fin 1 z1 (by omega) (by omega) (by show (z0.nat + 18446744073709551616 * (z1.nat + 18446744073709551616 * (z2.nat + 18446744073709551616 * z3.nat))) / 2 ^ 64 = _; omega)
  exact Wp.optF hy (Wp.stop ⟨_, e, k, rfl, hB, hb k hB⟩)
 have h : ¬ z1.nat ≠ 0 := of_decide_eq_false h
 refine Wp.unroll (Wp.brnT rfl (Wp.brnT rfl (Wp.brn (fun h => Wp.brnT rfl ?_) (fun h => Wp.next ?_))))
 ·
  have h : z0.nat ≠ 0 := of_decide_eq_true h
  obtain ⟨y, hy, k, e, hB⟩ := fin 0 z0 (by omega) (by omega) (by show (z0.nat + 18446744073709551616 * (z1.nat + 18446744073709551616 * (z2.nat + 18446744073709551616 * z3.nat))) / 2 ^ 0 = _; omega)
  exact Wp.optF hy (Wp.stop ⟨_, e, k, rfl, hB, hb k hB⟩)
 have h : ¬ z0.nat ≠ 0 := of_decide_eq_false h
 refine Wp.unroll (Wp.brnF rfl (Wp.stop ?_))
 refine ⟨_, rfl, 0, rfl, ?_, by omega⟩
 have : U.val (z0, z1, z2, z3, ()) = 0 := by show z0.nat + 18446744073709551616 * (z1.nat + 18446744073709551616 * (z2.nat + 18446744073709551616 * z3.nat)) = 0; omega
 rw [this]
 exact Bits.zero
def a8Z (units last upto now : I .u64) : Nat := if now.nat = last.nat then units.nat else units.nat * (upto.nat - last.nat) / (now.nat - last.nat)
theorem e5S {n : Nat} (h : n < 18446744073709551616) : (U.of n).1 = I.of .u64 (n : Int) := by
 show I.of .u64 ((n % 18446744073709551616 : Nat) : Int) = _
 rw [Nat.mod_eq_of_lt h]
theorem b4C {x y : I .u64} : I.eqb x y = decide (x.nat = y.nat) := by
 have := a0Z x
 have := a0Z y
 by_cases h : x.nat = y.nat
 ·
  rw [decide_eq_true h]; exact iff_eqb.2 (by omega)
 ·
  rw [decide_eq_false h]; exact niff_eqb.2 (by omega)
theorem sub_nat_le' (a b : I .u64) (h : b.nat ≤ a.nat) : (I.sub a b).nat = a.nat - b.nat := by
 have := a0Z a
 have := a0Z b
 have := f1P (a := a) (b := b) (by omega)
 have := a0Z (I.sub a b)
 omega
theorem b6G {units last upto now : I .u64} (h1 : last.nat ≤ upto.nat) (h2 : upto.nat ≤ now.nat) : a8Z units last upto now ≤ units.nat := by
 unfold a8Z
 split
 ·
  omega
 ·
  refine Nat.div_le_of_le_mul ?_
  rw [Nat.mul_comm]
  exact Nat.mul_le_mul_right _ (by omega)
theorem e2U (units last upto now : I .u64) (h1 : last.nat ≤ upto.nat) (h2 : upto.nat ≤ now.nat) :
  a7H ((units, (last, (upto, (now, ())))), ()) = some ((I.of .u64 (a8Z units last upto now : Int), (I.of .i64 0, ())), ()) := by
 have hle := b6G (units := units) h1 h2
 have hu := a1J units
 refine Wp.out (T := fun o => o = _) ?_
 unfold a7H
 refine Wp.jnI (Wp.jnI ?_)
 simp only [b2O]
 refine Wp.brnF (decide_eq_false (by omega)) ?_
 refine Wp.brnF (decide_eq_false (by omega)) ?_
 simp only [b4C]
 refine Wp.brn (fun h => ?_) (fun h => ?_)
 ·
  have h := of_decide_eq_true h
  have : I.of .u64 (a8Z units last upto now : Int) = units := by
   unfold a8Z
   rw [if_pos h, a0Z]
   exact I.ext' units.ok
  rw [this]
  rfl
 ·
  have h := of_decide_eq_false h
  have d1 := sub_nat_le' upto last h1
  have d2 := sub_nat_le' now last (by omega)
  refine Wp.optF (a2W _) (Wp.optF (a2W _) (Wp.optF (a2W _) ?_))
  refine Wp.optF (d8N _ _ _ (by rw [a3A, d2]; omega) (by rw [a3A, a3A, d1, d2]; omega)) ?_
  simp only [a3A, d1, d2]
  have e : a8Z units last upto now = units.nat * (upto.nat - last.nat) / (now.nat - last.nat) := if_neg h
  rw [e] at hle ⊢
  rw [e5S (by omega)]
  rfl
end Sym

/- Pricer: what its functions compute. -/
namespace Sym
open Go
abbrev PrT : Type := a0R
abbrev PrT.price (s : PrT) : U := s.1
abbrev PrT.units (s : PrT) : I .u64 := s.2.1
abbrev PrT.last (s : PrT) : I .u64 := s.2.2.1
abbrev PrT.reports (s : PrT) : I .u64 := s.2.2.2.1
abbrev PrT.surplus (s : PrT) : S := s.2.2.2.2.1
abbrev PrT.posters (s : PrT) : List Post := s.2.2.2.2.2.1
abbrev RepT : Type := a1U
abbrev OutT : Type := a1L
def Prm.rpu (p : Prm) : U := p.2.2.2.2.2.2.2.1
noncomputable def d5Z (l : List Post) (n : I .u64) : Bool := l.all fun p => decide ((Post.since p).nat ≤ n.nat)
noncomputable def prV (s : PrT) : Bool := d5Z s.posters s.reports && (tabB s.posters && a1K s.surplus)
theorem prV_t {s : PrT} : prV s = true ↔ (∀ p ∈ s.posters, (Post.since p).nat ≤ s.reports.nat) ∧ TableOk s.posters ∧ a1K s.surplus = true := by
 unfold prV d5Z
 simp only [Bool.and_eq_true, List.all_eq_true, decide_eq_true_eq, tabB_t]
theorem b4U (s : PrT) (hl : s.posters.length ≤ 1073741824) : a5H ((s, ()), ()) = some ((prV s, ()), ()) := by
 refine Wp.out (T := fun o => o = _) ?_
 unfold a5H
 simp only [a4U, a4H, a8E, a8G]
 obtain ⟨l, hl'⟩ : ∃ l, l = s.posters := ⟨_, rfl⟩
 rw [← hl'] at hl
 have e : s.2.2.2.2.2.1 = l := hl'.symm
 simp only [e]
 refine Wp.iter (fun t => ∃ i, t = ((l, (i6 l.length, (i6 i, ()))), (s, ())) ∧ i ≤ l.length ∧ ∀ k, k < i → (Post.since (rdL dP l k)).nat ≤ s.reports.nat) (fun t => l.length - t.1.2.2.1.val.toNat) ?_ ⟨0, rfl, by omega, by intro k hk; omega⟩ ?_
 ·
  rintro t ⟨i, rfl, hi, hinv⟩
  simp only [a5T (show i < 9223372036854775808 by omega) (show l.length < 9223372036854775808 by omega), a3L (show i < 9223372036854775808 by omega), a6H (show i + 1 < 9223372036854775808 by omega)]
  refine Wp.brn (fun hc => ?_) (fun hc => ?_)
  ·
   have hc := of_decide_eq_true hc
   refine Wp.brnT (a3K (by omega) (by omega)) ?_
   simp only [b2O]
   refine Wp.brn (fun h => ?_) (fun h => ?_)
   ·
    have h : s.reports.nat < (Post.since (rdL dP l i)).nat := of_decide_eq_true h
    refine Wp.done ?_
    have : prV s = false := by
     cases hv : prV s with
     | false => rfl
     | true =>
      have := (prV_t.1 hv).1 (rdL dP l i) (by rw [← hl']; exact b3H dP _ i hc)
      omega
    rw [this]
    rfl
   ·
    have h : ¬ s.reports.nat < (Post.since (rdL dP l i)).nat := of_decide_eq_false h
    refine Wp.again ⟨i + 1, rfl, by omega, fun k hk => ?_⟩ (by show l.length - (i6 (i + 1)).val.toNat < l.length - (i6 i).val.toNat; rw [a0Y (by omega), a0Y (by omega)]; omega)
    by_cases hki : k = i
    ·
     subst hki; omega
    ·
     exact hinv k (by omega)
  ·
   have hc := of_decide_eq_false hc
   have hs : d5Z s.posters s.reports = true := by
    unfold d5Z
    rw [← hl', List.all_eq_true]
    intro p hp
    obtain ⟨k, hk, rfl⟩ := b4F dP hp
    exact decide_eq_true (hinv k (by omega))
   refine Wp.done (Wp.optF (b4S (l := s.posters) (by rw [← hl']; exact hl)) ?_)
   unfold prV
   rw [hs, Bool.true_and]
   refine Wp.brn (fun h => ?_) (fun h => ?_)
   ·
    have h : tabB s.posters = true := h
    rw [h]
    exact Wp.optF (a9H s.surplus) rfl
   ·
    have h : tabB s.posters = false := h
    rw [h]
    rfl
 ·
  rw [a5L]
  show l.length - _ < _
  omega
noncomputable def b0H (p : Post) (c w : U) (since : I .u64) : Post :=
 (p.1, (U.of (p.due.val + (c.val + w.val)), (U.of (p.costs.val + c.val), (U.of (p.rewards.val + w.val), (p.paid, ((if p.due.val = 0 ∧ 0 < p.due.val + (c.val + w.val) then since else p.since), ()))))))
def d2S (p : Post) (c w : U) : Prop := p.due.val + (c.val + w.val) < U.top ∧ p.costs.val + c.val < U.top ∧ p.rewards.val + w.val < U.top
open Classical in
noncomputable def a9O (l : List Post) (a : I .u64) (c w : U) (since : I .u64) : List Post × I .i64 :=
 if d2S (rdL dP l (atN l a)) c w then (setAt l (atN l a) (b0H (rdL dP l (atN l a)) c w since), I.of .i64 0) else ([], I.of .i64 4)
theorem c4L {n : Nat} : I.neb (errS n).2 (I.of .i64 0) = decide (¬ n < U.top) := by
 by_cases h : n < U.top
 ·
  rw [a9D h, decide_eq_false (by simpa using h)]; rfl
 ·
  rw [b5S (by omega), decide_eq_true h]; rfl
theorem d9T (l : List Post) (a : I .u64) (c w : U) (since : I .u64) (hT : TableOk l) (hf : atN l a < l.length) (hs : since.nat ≠ 0) :
  a8D ((l, (a, (c, (w, (since, ()))))), ()) = some (((a9O l a c w since).1, ((a9O l a c w since).2, ())), ()) := by
 refine Wp.out (T := fun o => o = _) ?_
 have hl := hT.1
 unfold a8D a9O
 have e : atI l a = i6 (atN l a) := if_pos hf
 refine Wp.optF (c2J (l := l) a (by omega)) ?_
 refine Wp.jnI (Wp.jnI ?_)
 refine Wp.optF (b4S (l := l) (by omega)) ?_
 refine Wp.brnF (d2W hT) ?_
 have e0 : I.eqb since (I.of .u64 0) = false := by rw [b4C]; exact decide_eq_false hs
 refine Wp.brnF e0 ?_
 rw [e]
 generalize atN l a = k at hf ⊢
 simp only [a3L (show k < 9223372036854775808 by omega)]
 refine Wp.brnF (by rw [a8E, a5T (by omega) (by omega)]; exact decide_eq_false (by omega)) ?_
 refine Wp.brnT (a3K (by exact hf) (by omega)) ?_
 generalize rdL dP l k = p
 refine Wp.optF (b7G c w) (Wp.optF (b7G _ _) (Wp.optF (b7G _ _) (Wp.optF (b7G _ _) (Wp.jnI ?_))))
 simp only [c4L]
 refine Wp.brn (fun h => ?_) (fun h => ?_)
 ·
  have h := of_decide_eq_true h
  rw [if_neg (fun hh => by have := hh.1; omega)]
  rfl
 have h := of_decide_eq_false h
 have h1 : c.val + w.val < U.top := by omega
 simp only [a9D h1, U.val_of h1]
 refine Wp.brn (fun h => ?_) (fun h => ?_)
 ·
  have h := of_decide_eq_true h
  rw [if_neg (fun hh => by have := hh.1; exact h this)]
  rfl
 have h := of_decide_eq_false h
 have h2 : p.2.1.val + (c.val + w.val) < U.top := by omega
 simp only [a9D h2]
 refine Wp.brn (fun h => ?_) (fun h => ?_)
 ·
  have h := of_decide_eq_true h
  rw [if_neg (fun hh => by have := hh.2.1; exact h this)]
  rfl
 have h := of_decide_eq_false h
 have h3 : p.2.2.1.val + c.val < U.top := by omega
 simp only [a9D h3]
 refine Wp.brn (fun h => ?_) (fun h => ?_)
 ·
  have h := of_decide_eq_true h
  rw [if_neg (fun hh => by have := hh.2.2; exact h this)]
  rfl
 have h := of_decide_eq_false h
 have h4 : p.2.2.2.1.val + w.val < U.top := by omega
 simp only [a9D h4]
 rw [if_pos ⟨h2, h3, h4⟩]
 refine Wp.jnI (Wp.optF (b0C _) ?_)
 have hq : ∀ (q : Post), Wp (fun o => o = some ((setAt l k q, (I.of .i64 0, ())), ())) (optF none (a0Q ((l, ()), ())) fun y8 => brn (inB (i6 k) (lenL y8.2.1)) (some ((setL y8.2.1 (I.nat (i6 k)) q, (I.of .i64 0, ())), ())) none) := by
  intro q
  refine Wp.optF (b9N l (by omega)) (Wp.brnT (a3K (by exact hf) (by omega)) ?_)
  rw [a3L (by omega)]
  rfl
 have hd : (U.of (p.2.1.val + (c.val + w.val))).val = p.2.1.val + (c.val + w.val) := U.val_of h2
 refine Wp.brn (fun h => ?_) (fun h => ?_)
 ·
  have h : p.2.1.val = 0 := of_decide_eq_true h
  refine Wp.optF (b0C _) ?_
  refine Wp.brn (fun h' => ?_) (fun h' => ?_)
  ·
   have h' := of_decide_eq_false (a7K h')
   rw [hd] at h'
   have e : b0H p c w since = (p.1, (U.of (p.due.val + (c.val + w.val)), (U.of (p.costs.val + c.val), (U.of (p.rewards.val + w.val), (p.paid, (since, ())))))) := by
    unfold b0H; rw [if_pos ⟨h, by show 0 < p.2.1.val + _; omega⟩]
   rw [e]
   have := hq (p.1, (U.of (p.due.val + (c.val + w.val)), (U.of (p.costs.val + c.val), (U.of (p.rewards.val + w.val), (p.paid, (since, ()))))))
   exact this
  ·
   have h' := of_decide_eq_true (a7J h')
   rw [hd] at h'
   have e : b0H p c w since = (p.1, (U.of (p.due.val + (c.val + w.val)), (U.of (p.costs.val + c.val), (U.of (p.rewards.val + w.val), (p.paid, (p.since, ())))))) := by
    unfold b0H; rw [if_neg (fun hh => by have := hh.2; have : 0 < p.2.1.val + (c.val + w.val) := this; omega)]
   rw [e]
   exact hq _
 ·
  have h : ¬ p.2.1.val = 0 := of_decide_eq_false h
  have e : b0H p c w since = (p.1, (U.of (p.due.val + (c.val + w.val)), (U.of (p.costs.val + c.val), (U.of (p.rewards.val + w.val), (p.paid, (p.since, ())))))) := by
   unfold b0H; rw [if_neg (fun hh => h hh.1)]
  rw [e]
  exact hq _
end Sym

/- Pricer: a report. -/
namespace Sym
open Go
abbrev RepT.from' (r : RepT) : I .u64 := r.1
abbrev RepT.upto (r : RepT) : I .u64 := r.2.1
abbrev RepT.cost (r : RepT) : U := r.2.2.1
abbrev b6I : Nat := 340282366920938463463374607431768211456
noncomputable def b3T (s : PrT) (p : Prm) (r : RepT) (now : I .u64) : I .i64 :=
 if prV s = true then
  if a6G p = true then
   if atN s.posters r.from' < s.posters.length then
    if s.last.nat ≤ r.upto.nat ∧ r.upto.nat ≤ now.nat then
     if r.cost.val < b6I then
      if s.reports.nat = 18446744073709551615 then I.of .i64 4 else I.of .i64 0
     else I.of .i64 2
    else I.of .i64 14
   else I.of .i64 8
  else I.of .i64 15
 else I.of .i64 2
theorem e1M {n k : Nat} (h : Bits n k) (hk : k ≤ 256) : I.ltb (I.of .i64 128) (i6 k) = decide (¬ n < b6I) := by
 have e : I.of .i64 128 = i6 128 := rfl
 rw [e, a5T (by omega) (by omega)]
 have := h 128
 have e2 : (2 : Nat) ^ 128 = b6I := by decide
 rw [e2] at this
 by_cases hc : n < b6I
 ·
  rw [decide_eq_false (by omega), decide_eq_false (by simpa using hc)]
 ·
  rw [decide_eq_true (by omega), decide_eq_true hc]
theorem e2Q (s : PrT) (p : Prm) (r : RepT) (now : I .u64) (hl : s.posters.length ≤ 1073741824) :
  a4I ((s, (p, (r, (now, ())))), ()) = some ((b3T s p r now, ()), ()) := by
 refine Wp.out (T := fun o => o = _) ?_
 unfold a4I b3T
 refine Wp.optF (b4U s hl) ?_
 refine Wp.brn (fun h => ?_) (fun h => ?_)
 ·
  have h : prV s = false := a7K h
  rw [if_neg (by rw [h]; simp)]; rfl
 have h : prV s = true := a7J h
 rw [if_pos h]
 refine Wp.optF (b8G p) ?_
 refine Wp.brn (fun h => ?_) (fun h => ?_)
 ·
  have h : a6G p = false := a7K h
  rw [if_neg (by rw [h]; simp)]; rfl
 have h : a6G p = true := a7J h
 rw [if_pos h]
 refine Wp.optF (c2J (l := s.posters) r.from' hl) ?_
 rw [show (((atI s.posters r.from', ()), ()) : ((I .i64) × Unit) × Unit).1.1 = atI s.posters r.from' from rfl, b8I hl]
 refine Wp.brn (fun h => ?_) (fun h => ?_)
 ·
  rw [if_neg (of_decide_eq_true h)]; rfl
 rw [if_pos (by simpa using of_decide_eq_false h)]
 refine Wp.jnI ?_
 simp only [b2O]
 have fin : ∀ b : Bool, b = decide (¬ (s.last.nat ≤ r.upto.nat ∧ r.upto.nat ≤ now.nat)) → Wp (fun o => o = some (((if s.last.nat ≤ r.upto.nat ∧ r.upto.nat ≤ now.nat then if r.cost.val < b6I then if s.reports.nat = 18446744073709551615 then I.of .i64 4 else I.of .i64 0 else I.of .i64 2 else I.of .i64 14), ()), ()))
   (brn b (some ((I.of .i64 14, ()), ())) (optF none (a5U ((r.2.2.1, ()), ())) fun y4 => brn (I.ltb (I.of .i64 128) y4.1.1) (some ((I.of .i64 2, ()), ())) (brn (I.eqb s.2.2.2.1 (I.of .u64 18446744073709551615)) (some ((I.of .i64 4, ()), ())) (some ((I.of .i64 0, ()), ()))))) := by
  intro b hb
  subst hb
  refine Wp.brn (fun h => ?_) (fun h => ?_)
  ·
   rw [if_neg (of_decide_eq_true h)]; rfl
  rw [if_pos (Classical.byContradiction (of_decide_eq_false h))]
  refine Wp.call (e0A r.cost) ?_
  rintro _ ⟨k, rfl, hB, hk⟩
  rw [show (((i6 k, ()), ()) : ((I .i64) × Unit) × Unit).1.1 = i6 k from rfl, e1M hB hk]
  refine Wp.brn (fun h => ?_) (fun h => ?_)
  ·
   rw [if_neg (of_decide_eq_true h)]; rfl
  rw [if_pos (Classical.byContradiction (of_decide_eq_false h))]
  simp only [b4C]
  have e0 : (I.of .u64 18446744073709551615).nat = 18446744073709551615 := rfl
  rw [e0]
  refine Wp.brn (fun h => ?_) (fun h => ?_)
  ·
   rw [if_pos (of_decide_eq_true h)]; rfl
  rw [if_neg (of_decide_eq_false h)]; rfl
 refine Wp.brn (fun h => ?_) (fun h => ?_)
 ·
  exact fin true (decide_eq_true (by have : r.upto.nat < s.last.nat := of_decide_eq_true h; omega)).symm
 ·
  refine fin _ ?_
  have : ¬ r.upto.nat < s.last.nat := of_decide_eq_false h
  show decide (now.nat < r.upto.nat) = _
  rw [decide_eq_decide]
  omega
noncomputable abbrev zPr : PrT := (Z_U, ((I.of .u64 0), ((I.of .u64 0), ((I.of .u64 0), (a0N, ([], ()))))))
noncomputable abbrev zOut : OutT := (I.of .u64 0, (Z_U, ([], ())))
def repN (s : PrT) (r : RepT) (now : I .u64) : Nat := a8Z s.units s.last r.upto now
theorem d2K (s : PrT) (p : Prm) (r : RepT) (now : I .u64) (h1 : s.last.nat ≤ r.upto.nat) (h2 : r.upto.nat ≤ now.nat) :
  a6L ((s, (p, (r, (now, ())))), ()) = some (if p.rpu.val * repN s r now < U.top then ((I.of .u64 (repN s r now : Int), (U.of (p.rpu.val * repN s r now), ([], ()))), (I.of .i64 0, ())) else (zOut, (I.of .i64 4, ())), ()) := by
 have hle := b6G (units := s.units) h1 h2
 have hu := a1J s.units
 refine Wp.out (T := fun o => o = _) ?_
 unfold a6L repN
 refine Wp.optF (e2U s.units s.last r.upto now h1 h2) ?_
 refine Wp.brnF rfl ?_
 refine Wp.optF (a2W _) (Wp.optF (e6B _ _) ?_)
 have e : (u64U (I.of .u64 (a8Z s.units s.last r.upto now : Int))).val = a8Z s.units s.last r.upto now := by rw [a3A]; exact b6A (by omega)
 simp only [e]
 have e2 : p.2.2.2.2.2.2.2.1 = p.rpu := rfl
 rw [e2, c4L]
 refine Wp.brn (fun h => ?_) (fun h => ?_)
 ·
  rw [if_neg (of_decide_eq_true h)]
  have := of_decide_eq_true h
  rw [b5S (by omega)]
  rfl
 ·
  have h := of_decide_eq_false h
  have h : p.rpu.val * a8Z s.units s.last r.upto now < U.top := by omega
  rw [if_pos h, a9D h]
  rfl
noncomputable def b4D (pool : U) (l : List Post) (pay : List Pay) : S := S.of (((pool.val - sumN (pay.map amt) : Nat) : Int) - (sumN (l.map dueN) : Int))
theorem d6X (a b : U) : a7S ((a, (b, ())), ()) = some ((S.of ((a.val : Int) - b.val), ()), ()) := by
 refine Wp.out (T := fun o => o = _) ?_
 unfold a7S
 exact Wp.optF (d3I a b) rfl
open Classical in
noncomputable def b1M (s : PrT) (p : Prm) (pool : U) (t : OutT) : PrT × I .i64 :=
 if sumN (s.posters.map dueN) < U.top then
  if t.1.nat = 0 then (s, I.of .i64 0)
  else if I.neb (a9U s.price (b4D pool s.posters t.2.2.1) s.surplus t.1 p).2 (I.of .i64 0) = true then (zPr, (a9U s.price (b4D pool s.posters t.2.2.1) s.surplus t.1 p).2)
  else (((a9U s.price (b4D pool s.posters t.2.2.1) s.surplus t.1 p).1, (s.units, (s.last, (s.reports, (b4D pool s.posters t.2.2.1, (s.posters, ())))))), I.of .i64 0)
 else (zPr, I.of .i64 4)
theorem e2A (s : PrT) (p : Prm) (pool : U) (t : OutT) (hT : TableOk s.posters) (hp : t.2.2.1.length ≤ 1073741824) (hs : sumN (t.2.2.1.map amt) < U.top) :
  a7Z ((s, (p, (pool, (t, ())))), ()) = some (((b1M s p pool t).1, ((b1M s p pool t).2, ())), ()) := by
 have hl := hT.1
 refine Wp.out (T := fun o => o = _) ?_
 unfold a7Z b1M
 refine Wp.optF (e9F hp) ?_
 simp only [a9D hs]
 refine Wp.brnF rfl ?_
 have hd := d3Q (l := s.posters) (by omega)
 rw [if_pos (tabB_t.2 hT)] at hd
 refine Wp.optF hd ?_
 simp only [c4L]
 refine Wp.brn (fun h => ?_) (fun h => ?_)
 ·
  have h := of_decide_eq_true h
  rw [if_neg h, b5S (by omega)]
  rfl
 have h := of_decide_eq_false h
 have hsd : sumN (s.posters.map dueN) < U.top := by omega
 rw [if_pos hsd, a9D hsd]
 simp only [b4C]
 have e0 : (I.of .u64 0).nat = 0 := rfl
 rw [e0]
 refine Wp.brn (fun h => ?_) (fun h => ?_)
 ·
  rw [if_pos (of_decide_eq_true h)]; rfl
 rw [if_neg (of_decide_eq_false h)]
 refine Wp.optF (b6R _ _) (Wp.optF (d6X _ _) ?_)
 have e1 : S.of (((U.of (pool.val - (U.of (sumN (t.2.2.1.map amt))).val)).val : Int) - ((U.of (sumN (s.posters.map dueN))).val : Int)) = b4D pool s.posters t.2.2.1 := by
  unfold b4D
  rw [U.val_of hs, U.val_of hsd, U.val_of (by have := pool.lt; omega)]
 simp only [e1]
 refine Wp.optF (f0A _ _ _ _ _) ?_
 refine Wp.brn (fun h => ?_) (fun h => ?_)
 ·
  rw [if_pos h]; rfl
 ·
  rw [if_neg (by rw [show I.neb (a9U s.price (b4D pool s.posters t.2.2.1) s.surplus t.1 p).2 (I.of .i64 0) = false from h]; simp)]; 
  have h := niff_neb.1 h
  have h : (a9U s.price (b4D pool s.posters t.2.2.1) s.surplus t.1 p).2 = I.of .i64 0 := I.ext' h
  rfl
end Sym

/- Pricer: a report as a whole. -/
namespace Sym
open Go
theorem d0K {n o : Int} {u E J : Nat} : ((b6D n o u E J).2 = I.of .i64 4 ∨ (b6D n o u E J).2 = I.of .i64 0) ∧ a1K (b6D n o u E J).1 = true := by
 have h0 : a1K (S.of 0) = true := S.of_valid (by decide)
 unfold b6D
 split
 ·
  split
  ·
   split
   ·
    rename_i h
    exact ⟨.inr rfl, S.of_valid (Nat.lt_of_le_of_lt (Int.natAbs_ediv_le_natAbs _ _) h)⟩
   ·
    exact ⟨.inl rfl, h0⟩
  ·
   exact ⟨.inl rfl, h0⟩
 ·
  exact ⟨.inl rfl, h0⟩
theorem d7Z (n : Nat) : (errS n).2 = I.of .i64 4 ∨ (errS n).2 = I.of .i64 0 := by
 unfold errS; split
 ·
  exact .inr rfl
 ·
  exact .inl rfl
theorem e4S {c : U} {a b : S} {u : I .u64} {p : Prm} (hp : a6G p = true) (ha : a1K a = true) (hb : a1K b = true) : (a9U c a b u p).2 = I.of .i64 4 ∨ (a9U c a b u p).2 = I.of .i64 0 := by
 unfold a9U
 rw [if_pos hp, if_pos ha, if_pos hb]
 split
 ·
  exact .inr rfl
 ·
  rename_i hu
  rw [c9D hp ha hb hu]
  have ⟨h1, h2⟩ := d0K (n := a.int) (o := b.int) (u := u.nat) (E := (Prm.eq p).nat) (J := (Prm.inertia p).nat)
  split
  ·
   exact h1
  ·
   unfold b5W
   rw [if_pos h2]
   split
   ·
    exact .inr rfl
   ·
    exact d7Z _
theorem c1F {l : List Post} {a : I .u64} {c w : U} {since : I .u64} (hT : TableOk l) (hf : atN l a < l.length) (hs : since.nat ≠ 0) :
  ((a9O l a c w since).2 = I.of .i64 4 ∧ (a9O l a c w since).1 = []) ∨
  ((a9O l a c w since).2 = I.of .i64 0 ∧ d2S (rdL dP l (atN l a)) c w ∧ (a9O l a c w since).1 = setAt l (atN l a) (b0H (rdL dP l (atN l a)) c w since) ∧ TableOk (a9O l a c w since).1) := by
 unfold a9O
 split
 ·
  rename_i h
  refine .inr ⟨rfl, h, rfl, ?_⟩
  have hv := a0Z since
  refine e8I hT hf ?_ rfl
  refine d7G (hT.2 _ hf).1 c w since (by omega) h.1 h.2.1 h.2.2 _ ?_
  by_cases hd : (Post.due (rdL dP l (atN l a))).val = 0 ∧ 0 < (Post.due (rdL dP l (atN l a))).val + (c.val + w.val)
  ·
   rw [if_pos hd]; exact .inl ⟨rfl, hd.1, hd.2⟩
  ·
   rw [if_neg hd]; exact .inr ⟨rfl, hd⟩
 ·
  exact .inl ⟨rfl, rfl⟩
noncomputable def a9K (s : PrT) (p : Prm) (r : RepT) (now : I .u64) : List Post × I .i64 := a9O s.posters r.from' r.cost (U.of (p.rpu.val * repN s r now)) (I.add s.reports (I.of .u64 1))
noncomputable def a1H (l : List Post) (pool : U) : List Pay := a7F (ord l) pool.val
noncomputable def b2R (s : PrT) (l : List Post) : PrT := (s.price, (s.units, (s.last, (I.add s.reports (I.of .u64 1), (s.surplus, (l, ()))))))
noncomputable def b1G (s : PrT) (p : Prm) (r : RepT) (now : I .u64) (pay : List Pay) : OutT := (I.of .u64 (repN s r now : Int), (U.of (p.rpu.val * repN s r now), (pay, ())))
noncomputable def f8W (s : PrT) (n : Nat) (r : RepT) (q : PrT) : PrT := (q.1, (I.sub q.2.1 (I.of .u64 (n : Int)), (r.upto, q.2.2.2)))
noncomputable def a7P (s : PrT) (p : Prm) (pool : U) (r : RepT) (now : I .u64) : PrT × OutT × I .i64 :=
 if (b3T s p r now).val = 0 then
  if p.rpu.val * repN s r now < U.top then
   if (a9K s p r now).2.val = 0 then
    if (a2F (a9K s p r now).1 (a1H (a9K s p r now).1 pool)).2.val = 0 then
     if (b1M (b2R s (a2F (a9K s p r now).1 (a1H (a9K s p r now).1 pool)).1) p pool (b1G s p r now (a1H (a9K s p r now).1 pool))).2.val = 0 then
      (f8W s (repN s r now) r (b1M (b2R s (a2F (a9K s p r now).1 (a1H (a9K s p r now).1 pool)).1) p pool (b1G s p r now (a1H (a9K s p r now).1 pool))).1, b1G s p r now (a1H (a9K s p r now).1 pool), I.of .i64 0)
     else (zPr, zOut, I.of .i64 4)
    else (zPr, zOut, I.of .i64 4)
   else (zPr, zOut, I.of .i64 4)
  else (zPr, zOut, I.of .i64 4)
 else (zPr, zOut, b3T s p r now)
structure Chk (s : PrT) (p : Prm) (r : RepT) (now : I .u64) : Prop where
 since : ∀ q ∈ s.posters, (Post.since q).nat ≤ s.reports.nat
 tab : TableOk s.posters
 sur : a1K s.surplus = true
 par : a6G p = true
 fnd : atN s.posters r.from' < s.posters.length
 lo : s.last.nat ≤ r.upto.nat
 hi : r.upto.nat ≤ now.nat
 cost : r.cost.val < b6I
 cnt : s.reports.nat < 18446744073709551615
theorem c0N {s : PrT} {p : Prm} {r : RepT} {now : I .u64} (h : (b3T s p r now).val = 0) : Chk s p r now := by
 unfold b3T at h
 split at h
 ·
  rename_i h1
  split at h
  ·
   rename_i h2
   split at h
   ·
    rename_i h3
    split at h
    ·
     rename_i h4
     split at h
     ·
      rename_i h5
      split at h
      ·
       exact absurd h (by decide)
      ·
       rename_i h6
       have ⟨a, b, c⟩ := prV_t.1 h1
       have := a1J s.reports
       exact ⟨a, b, c, h2, h3, h4.1, h4.2, h5, by omega⟩
     ·
      exact absurd h (by decide)
    ·
     exact absurd h (by decide)
   ·
    exact absurd h (by decide)
  ·
   exact absurd h (by decide)
 ·
  exact absurd h (by decide)
theorem b9M {s : PrT} {p : Prm} {r : RepT} {now : I .u64} (h : Chk s p r now) : (I.add s.reports (I.of .u64 1)).nat = s.reports.nat + 1 := by
 have := h.cnt
 have := a0Z s.reports
 have h1 : (I.of .u64 1).val = 1 := rfl
 have := d2T (a := s.reports) (b := I.of .u64 1) (by omega)
 have := a0Z (I.add s.reports (I.of .u64 1))
 omega
theorem c0Y (l : List Post) (pool : U) : (a1H l pool).length ≤ l.length := Nat.le_trans (d0A _ _) (f1Z l)
theorem c6M (l : List Post) (pool : U) : sumN ((a1H l pool).map amt) = min pool.val (sumN (l.map dueN)) := by
 unfold a1H
 rw [d4G (ord l) pool.val pool.lt, f1D]
theorem c5B {l : List Post} (hT : TableOk l) (pool : U) :
  (a2F l (a1H l pool)).2 = I.of .i64 4 ∨ ((a2F l (a1H l pool)).2 = I.of .i64 0 ∧ TableOk (a2F l (a1H l pool)).1 ∧ (a2F l (a1H l pool)).1.length = l.length ∧
   (∀ i, Post.addr (rdL dP (a2F l (a1H l pool)).1 i) = Post.addr (rdL dP l i)) ∧ sumN ((a2F l (a1H l pool)).1.map dueN) + sumN ((a1H l pool).map amt) = sumN (l.map dueN)) := by
 rcases c6V (ord l) pool.val l pool.lt hT (fun p hp => f1O hp) (e0N hT) with h | ⟨h1, h2, h3, h4, h5, _, _⟩
 ·
  exact .inl h
 ·
  exact .inr ⟨h1, h2, h3, h4, h5⟩
theorem a9S : (I.of .i64 4).val ≠ 0 := by decide
theorem d8V (s : PrT) (p : Prm) (pool : U) (r : RepT) (now : I .u64) (hl : s.posters.length ≤ 1073741824) :
  a5R ((s, (p, (pool, (r, (now, ()))))), ()) = some (((a7P s p pool r now).1, ((a7P s p pool r now).2.1, ((a7P s p pool r now).2.2, ()))), ()) := by
 refine Wp.out (T := fun o => o = _) ?_
 unfold a5R a7P
 refine Wp.optF (e2Q s p r now hl) ?_
 refine Wp.brn (fun h => ?_) (fun h => ?_)
 ·
  have h : ¬ (b3T s p r now).val = 0 := iff_neb.1 h
  rw [if_neg h]
  rfl
 have h0 : (b3T s p r now).val = 0 := niff_neb.1 h
 rw [if_pos h0]
 have hC := c0N h0
 refine Wp.optF (d2K s p r now hC.lo hC.hi) (Wp.jnI ?_)
 by_cases hw : p.rpu.val * repN s r now < U.top
 case neg =>
  simp only [if_neg hw]
  exact Wp.brnF rfl (Wp.jnI (Wp.brnF rfl (Wp.jnI (Wp.brnF rfl (Wp.jnI (Wp.brnF rfl (Wp.brnT rfl rfl)))))))
 simp only [if_pos hw]
 refine Wp.brnT rfl ?_
 have hcnt := b9M hC
 refine Wp.optF (d9T s.posters r.from' r.cost _ _ hC.tab hC.fnd (by rw [hcnt]; omega)) ?_
 have hA := c1F (c := r.cost) (w := U.of (p.rpu.val * repN s r now)) (since := I.add s.reports (I.of .u64 1)) hC.tab hC.fnd (by rw [hcnt]; omega)
 have hL : a9O s.posters r.from' r.cost (U.of (p.rpu.val * repN s r now)) (I.add s.reports (I.of .u64 1)) = a9K s p r now := rfl
 rw [hL] at hA ⊢
 rcases hA with ⟨hA, _⟩ | ⟨hA, _, _, hT⟩
 ·
  rw [if_neg (by rw [hA]; exact a9S)]
  simp only [hA]
  exact Wp.jnI (Wp.brnF rfl (Wp.jnI (Wp.brnF rfl (Wp.jnI (Wp.brnF rfl (Wp.brnT rfl rfl))))))
 rw [if_pos (by rw [hA]; rfl)]
 simp only [hA]
 refine Wp.jnI (Wp.brnT rfl ?_)
 generalize (a9K s p r now).1 = l at hT ⊢
 have hl64 := hT.1
 have hP := e2L l pool (by omega)
 rw [d5A hT pool] at hP
 refine Wp.optF hP (Wp.jnI (Wp.brnT rfl ?_))
 have hpl := c0Y l pool
 refine Wp.optF (d9W l (a7F (ord l) pool.val) (by omega) (by show (a1H l pool).length ≤ _; omega)) ?_
 rw [show a7F (ord l) pool.val = a1H l pool from rfl]
 rcases c5B hT pool with hB | ⟨hB, hT2, _, _, _⟩
 ·
  rw [if_neg (by rw [hB]; exact a9S)]
  simp only [hB]
  exact Wp.jnI (Wp.brnF rfl (Wp.brnT rfl rfl))
 rw [if_pos (by rw [hB]; rfl)]
 simp only [hB]
 refine Wp.jnI (Wp.brnT rfl ?_)
 have hsum := c6M l pool
 have hpo := pool.lt
 refine Wp.optF (e2A (b2R s (a2F l (a1H l pool)).1) p pool (b1G s p r now (a1H l pool)) hT2 (by show (a1H l pool).length ≤ _; omega) (by show sumN ((a1H l pool).map amt) < _; omega)) ?_
 have hE : (b1M (b2R s (a2F l (a1H l pool)).1) p pool (b1G s p r now (a1H l pool))).2 = I.of .i64 4 ∨ (b1M (b2R s (a2F l (a1H l pool)).1) p pool (b1G s p r now (a1H l pool))).2 = I.of .i64 0 := by
  unfold b1M
  split
  ·
   rename_i hd
   split
   ·
    exact .inr rfl
   ·
    split
    ·
     refine e4S hC.par (S.of_valid ?_) hC.sur
     show (((pool.val - sumN ((a1H l pool).map amt) : Nat) : Int) - (sumN ((a2F l (a1H l pool)).1.map dueN) : Int)).natAbs < U.top
     have hd : sumN ((a2F l (a1H l pool)).1.map dueN) < U.top := hd
     omega
    ·
     exact .inr rfl
  ·
   exact .inl rfl
 rcases hE with hE | hE
 ·
  rw [if_neg (by rw [hE]; exact a9S)]
  simp only [hE]
  exact Wp.brnT rfl rfl
 ·
  rw [if_pos (by rw [hE]; rfl)]
  simp only [hE]
  exact Wp.brnF rfl rfl
end Sym

/- Pricer: posters and units added. -/
namespace Sym
open Go
noncomputable def newP (a : I .u64) : Post := (a, (Z_U, (Z_U, (Z_U, (Z_U, ((I.of .u64 0), ()))))))
noncomputable def insS : List Post → I .u64 → List Post
 | [], a => [newP a]
 | p :: r, a => if (Post.addr p).nat < a.nat then p :: insS r a else newP a :: p :: r
theorem d0V {l : List Post} {a : I .u64} {i : Nat} (hi : i < l.length) (h : (Post.addr (rdL dP l i)).nat < a.nat) : insS (l.drop i) a = rdL dP l i :: insS (l.drop (i + 1)) a := by
 rw [List.drop_eq_getElem_cons hi, ← a4G dP l i hi]
 exact if_pos h
theorem d0U {l : List Post} {a : I .u64} {i : Nat} (hi : i < l.length) (h : ¬ (Post.addr (rdL dP l i)).nat < a.nat) : insS (l.drop i) a = newP a :: l.drop i := by
 rw [List.drop_eq_getElem_cons hi, ← a4G dP l i hi]
 exact if_neg h
theorem e3R {X : Type} (d : X) {l : List X} {i : Nat} (hi : i < l.length) : l.take (i + 1) = l.take i ++ [rdL d l i] := by
 rw [a4G d l i hi, List.take_append_getElem]
theorem c2M : ∀ {l : List Post} {a : I .u64} {p : Post}, p ∈ insS l a → p = newP a ∨ p ∈ l
 | [], a, p, h => by simp only [insS, List.mem_singleton] at h; exact .inl h
 | q :: r, a, p, h => by
  unfold insS at h
  split at h
  ·
   rcases List.mem_cons.1 h with rfl | h
   ·
    exact .inr (List.mem_cons_self ..)
   ·
    rcases c2M h with h | h
    ·
     exact .inl h
    ·
     exact .inr (List.mem_cons_of_mem _ h)
  ·
   rcases List.mem_cons.1 h with rfl | h
   ·
    exact .inl rfl
   ·
    exact .inr h
theorem c7Z : ∀ (l : List Post) (a : I .u64), (insS l a).length = l.length + 1
 | [], a => rfl
 | p :: r, a => by
  unfold insS
  split
  ·
   simp [c7Z r a]
  ·
   rfl
theorem c4H : ∀ {l : List Post} {a : I .u64}, (l.Pairwise fun p q => (Post.addr p).val < (Post.addr q).val) → (∀ p ∈ l, (Post.addr p).val ≠ a.val) → (insS l a).Pairwise fun p q => (Post.addr p).val < (Post.addr q).val
 | [], a, _, _ => by simp [insS]
 | p :: r, a, h, hn => by
  have hp := hn p (List.mem_cons_self ..)
  have ⟨h1, h2⟩ := List.pairwise_cons.1 h
  have e1 := a0Z (Post.addr p)
  have e2 := a0Z a
  unfold insS
  split
  ·
   rename_i hlt
   refine List.pairwise_cons.2 ⟨fun q hq => ?_, c4H h2 fun q hq => hn q (List.mem_cons_of_mem _ hq)⟩
   rcases c2M hq with rfl | hq
   ·
    show (Post.addr p).val < a.val; omega
   ·
    exact h1 q hq
  ·
   rename_i hge
   refine List.pairwise_cons.2 ⟨fun q hq => ?_, h⟩
   show a.val < _
   rcases List.mem_cons.1 hq with rfl | hq
   ·
    omega
   ·
    have := h1 q hq; omega
theorem f0Q {l : List Post} {a : I .u64} (hT : TableOk l) (ha : a.nat ≠ 0) (hf : ¬ atN l a < l.length) (h64 : l.length ≠ 64) : TableOk (insS l a) := by
 have ⟨h1, h2, h3⟩ := table_iff.1 hT
 have hv := a0Z a
 refine table_iff.2 ⟨by rw [c7Z]; omega, fun p hp => ?_, c4H h3 fun p hp => ?_⟩
 ·
  rcases c2M hp with rfl | hp
  ·
   exact e9O (by omega)
  ·
   exact h2 p hp
 ·
  obtain ⟨k, hk, rfl⟩ := b4F dP hp
  exact d4Z hf k hk
open Classical in
noncomputable def b5J (l : List Post) (a : I .u64) : List Post × I .i64 :=
 if tabB l = true ∧ a.nat ≠ 0 then
  if atN l a < l.length then ([], I.of .i64 9)
  else if l.length = 64 then ([], I.of .i64 7) else (insS l a, I.of .i64 0)
 else ([], I.of .i64 2)
theorem d8O {l : List Post} {a : I .u64} (hl : l.length ≤ 1073741824) : I.leb (I.of .i64 0) (atI l a) = decide (atN l a < l.length) := by
 have := b8I (l := l) (a := a) hl
 by_cases h : atN l a < l.length
 ·
  rw [decide_eq_false (by simpa using h)] at this
  rw [decide_eq_true h]
  exact iff_leb.2 (niff_ltb.1 this)
 ·
  rw [decide_eq_true h] at this
  rw [decide_eq_false h]
  exact niff_leb.2 (iff_ltb.1 this)
theorem f1C (l : List Post) (a : I .u64) (hl : l.length ≤ 1073741824) : b1I ((l, (a, ())), ()) = some (((b5J l a).1, ((b5J l a).2, ())), ()) := by
 refine Wp.out (T := fun o => o = _) ?_
 unfold b1I b5J
 refine Wp.jnI (Wp.jnI (Wp.optF (b4S hl) ?_))
 have e0 : (I.of .u64 0).nat = 0 := rfl
 have fin : ∀ b : Bool, b = decide (¬ (tabB l = true ∧ a.nat ≠ 0)) → Wp (fun o => o = some (((if tabB l = true ∧ a.nat ≠ 0 then if atN l a < l.length then (([] : List Post), I.of .i64 9) else if l.length = 64 then ([], I.of .i64 7) else (insS l a, I.of .i64 0) else ([], I.of .i64 2)).1,
   ((if tabB l = true ∧ a.nat ≠ 0 then if atN l a < l.length then (([] : List Post), I.of .i64 9) else if l.length = 64 then ([], I.of .i64 7) else (insS l a, I.of .i64 0) else ([], I.of .i64 2)).2, ())), ()))
   (brn b (some (([], ((I.of .i64 2), ())), ())) (optF none (a5Q ((l, (a, ())), ())) fun y2 => brn (I.leb (I.of .i64 0) y2.1.1) (some (([], ((I.of .i64 9), ())), ())) (brn (I.eqb (I.ofNat .i64 (lenL l)) (I.of .i64 64)) (some (([], ((I.of .i64 7), ())), ()))
    (jn (fun (x1 : (((List a0A) × ((I .u64) × ((I .i64) × Unit))) × Unit)) =>
      optF (none) (a0Q ((x1.1.1, ()), ())) fun y2 =>
      optF (none) (b5G ((x1.1.2.2.1, ()), (y2.2.1, (((x1.1.2.1, (Z_U, (Z_U, (Z_U, (Z_U, ((I.of .u64 0), ())))))) :: []), ())))) fun y3 =>
      some ((y3.2.1, ((I.of .i64 0), ())), ())) fun j1 =>
     iter (none) (fun x2 =>
      brn (@I.ltb .i64 x2.1.2.2.1 (I.ofNat .i64 (@lenL a0A x2.1.1)))
      (brn (@inB .i64 x2.1.2.2.1 (@lenL a0A x2.1.1))
       (brn (@I.ltb .u64 (@rdL a0A a0B x2.1.1 (@I.nat .i64 x2.1.2.2.1)).1 x2.1.2.1)
       (.again ((x2.1.1, (x2.1.2.1, ((@I.add .i64 x2.1.2.2.1 (I.of .i64 1)), ()))), ()))
       (.done (j1 ((x2.1.1, (x2.1.2.1, (x2.1.2.2.1, ()))), ()))))
       (.done (none)))
      (.done (j1 ((x2.1.1, (x2.1.2.1, (x2.1.2.2.1, ()))), ()))))
     K0 ((l, (a, ((I.of .i64 0), ()))), ()))))) := by
  intro b hb
  subst hb
  refine Wp.brn (fun h => ?_) (fun h => ?_)
  ·
   have h := of_decide_eq_true h
   simp only [if_neg h]; rfl
  have h := Classical.byContradiction (of_decide_eq_false h)
  simp only [if_pos h]
  refine Wp.optF (c2J (l := l) a hl) ?_
  rw [show (((atI l a, ()), ()) : ((I .i64) × Unit) × Unit).1.1 = atI l a from rfl, d8O hl]
  refine Wp.brn (fun h => ?_) (fun h => ?_)
  ·
   have h := of_decide_eq_true h
   simp only [if_pos h]; rfl
  have hf := of_decide_eq_false h
  simp only [if_neg hf]
  have hlim : l.length ≤ 64 := (tabB_t.1 (by assumption : tabB l = true ∧ a.nat ≠ 0).1).1
  have e64 : I.of .i64 64 = i6 64 := rfl
  rw [a4H, a4U, e64, d9Z (by omega) (by omega)]
  refine Wp.brn (fun h => ?_) (fun h => ?_)
  ·
   have h := of_decide_eq_true h
   simp only [if_pos h]; rfl
  have h64 := of_decide_eq_false h
  simp only [if_neg h64]
  have hT : tabB l = true ∧ a.nat ≠ 0 := by assumption
  have stop : ∀ i, i ≤ l.length → (insS l a = l.take i ++ newP a :: l.drop i) → Wp (fun o => o = some ((insS l a, (I.of .i64 0, ())), ())) (optF (none) (a0Q ((l, ()), ())) fun y2 =>
         optF (none) (b5G ((i6 i, ()), (y2.2.1, (((a, (Z_U, (Z_U, (Z_U, (Z_U, ((I.of .u64 0), ())))))) :: []), ())))) fun y3 =>
         some ((y3.2.1, ((I.of .i64 0), ())), ())) := by
   intro i hi he
   refine Wp.optF (b9N l hl) ?_
   have : b5G ((i6 i, ()), (l, (((a, (Z_U, (Z_U, (Z_U, (Z_U, ((I.of .u64 0), ())))))) :: []), ()))) = some ((), (insS l a, ())) := by
    refine Wp.out (T := fun o => o = _) ?_
    unfold b5G
    refine Wp.brnT (i6_inB' hi (by omega)) (Wp.brnT rfl (Wp.brnT (b0L ?_) ?_))
    ·
     show l.length + 1 ≤ _; omega
    ·
     rw [he, a3L (by omega)]
     show some ((), ((l.drop 0).take i ++ [newP a] ++ (l.drop i).take (l.length - i), ())) = _
     rw [List.drop_zero, List.take_of_length_le (l := l.drop i) (by simp), List.append_assoc]
     rfl
   exact Wp.optF this rfl
  refine Wp.jnI ?_
  refine Wp.iter (fun t => ∃ i, t = ((l, (a, (i6 i, ()))), ()) ∧ i ≤ l.length ∧ insS l a = l.take i ++ insS (l.drop i) a) (fun t => l.length - t.1.2.2.1.val.toNat) ?_ ⟨0, rfl, by omega, by simp⟩ ?_
  ·
   rintro t ⟨i, rfl, hi, hI⟩
   simp only [a8G, a4U, a4H, a5T (show i < 9223372036854775808 by omega) (show l.length < 9223372036854775808 by omega), a3L (show i < 9223372036854775808 by omega), a6H (show i + 1 < 9223372036854775808 by omega), b2O]
   refine Wp.brn (fun hc => ?_) (fun hc => ?_)
   ·
    have hc := of_decide_eq_true hc
    refine Wp.brnT (a3K (by omega) (by omega)) ?_
    refine Wp.brn (fun h => ?_) (fun h => ?_)
    ·
     have h : (Post.addr (rdL dP l i)).nat < a.nat := of_decide_eq_true h
     refine Wp.again ⟨i + 1, rfl, by omega, ?_⟩ (by show l.length - (i6 (i + 1)).val.toNat < l.length - (i6 i).val.toNat; rw [a0Y (by omega), a0Y (by omega)]; omega)
     rw [hI, d0V hc h, e3R dP hc]
     simp
    ·
     have h : ¬ (Post.addr (rdL dP l i)).nat < a.nat := of_decide_eq_false h
     exact Wp.done (stop i (by omega) (by rw [hI, d0U hc h]))
   ·
    have hc := of_decide_eq_false hc
    refine Wp.done (stop i (by omega) ?_)
    rw [hI, List.drop_eq_nil_of_le (by omega)]
    rfl
  ·
   rw [a5L]
   show l.length - _ < _
   omega
 refine Wp.brn (fun h => ?_) (fun h => ?_)
 ·
  have h : tabB l = false := a7K h
  exact fin true (decide_eq_true (by rw [h]; simp)).symm
 ·
  have h : tabB l = true := a7J h
  refine fin _ ?_
  rw [b4C, e0, decide_eq_decide]
  simp [h]
open Classical in
noncomputable def a6P (s : PrT) (a : I .u64) : PrT × I .i64 :=
 if prV s = true then
  if (b5J s.posters a).2.val = 0 then ((s.price, (s.units, (s.last, (s.reports, (s.surplus, ((b5J s.posters a).1, ())))))), I.of .i64 0)
  else (zPr, (b5J s.posters a).2)
 else (zPr, I.of .i64 2)
theorem d0I (s : PrT) (a : I .u64) (hl : s.posters.length ≤ 1073741824) : a4S ((s, (a, ())), ()) = some (((a6P s a).1, ((a6P s a).2, ())), ()) := by
 refine Wp.out (T := fun o => o = _) ?_
 unfold a4S a6P
 refine Wp.optF (b4U s hl) ?_
 refine Wp.brn (fun h => ?_) (fun h => ?_)
 ·
  have h : prV s = false := a7K h
  rw [if_neg (by rw [h]; simp)]; rfl
 have h : prV s = true := a7J h
 rw [if_pos h]
 refine Wp.optF (f1C s.posters a hl) ?_
 refine Wp.brn (fun h => ?_) (fun h => ?_)
 ·
  have h : ¬ (b5J s.posters a).2.val = 0 := iff_neb.1 h
  rw [if_neg h]; rfl
 ·
  have h : (b5J s.posters a).2.val = 0 := niff_neb.1 h
  rw [if_pos h]; rfl
noncomputable def a8H (s : PrT) (n : I .u64) : PrT × I .i64 :=
 if prV s = true then
  if s.units.nat + n.nat < 18446744073709551616 then ((s.price, (I.of .u64 ((s.units.nat + n.nat : Nat) : Int), s.2.2)), I.of .i64 0)
  else (zPr, I.of .i64 4)
 else (zPr, I.of .i64 2)
theorem d2G (s : PrT) (n : I .u64) (hl : s.posters.length ≤ 1073741824) : a8W ((s, (n, ())), ()) = some (((a8H s n).1, ((a8H s n).2, ())), ()) := by
 refine Wp.out (T := fun o => o = _) ?_
 unfold a8W a8H
 refine Wp.optF (b4U s hl) ?_
 refine Wp.brn (fun h => ?_) (fun h => ?_)
 ·
  have h : prV s = false := a7K h
  rw [if_neg (by rw [h]; simp)]; rfl
 have h : prV s = true := a7J h
 rw [if_pos h]
 obtain ⟨z, q, hz, hv, hq⟩ := a9W s.units n (I.of .u64 0) (by decide)
 have hv : z.nat + 18446744073709551616 * q.nat = s.units.nat + n.nat := hv
 have hzl := a1J z
 refine Wp.optF hz ?_
 simp only [e5D]
 refine Wp.brn (fun h => ?_) (fun h => ?_)
 ·
  have h := of_decide_eq_true h
  rw [if_neg (by omega)]; rfl
 ·
  have h := of_decide_eq_false h
  rw [if_pos (by omega)]
  have e : z = I.of .u64 ((s.units.nat + n.nat : Nat) : Int) := by
   have : s.units.nat + n.nat = z.nat := by omega
   rw [this, a0Z]
   exact (I.ext' z.ok).symm
  have hc : b0Z ((s, ()), ()) = some ((s, ()), ()) := by
   refine Wp.out (T := fun o => o = _) ?_
   unfold b0Z
   exact Wp.optF (b9N s.posters hl) rfl
  refine Wp.optF hc ?_
  rw [← e]
  rfl
end Sym

/- Pricer: what an accepted report has done. -/
namespace Sym
open Go
theorem c7L {Q : Post → Prop} (hQ : ∀ p n, Q p → Q (settled p n)) : ∀ (ps : List Pay) (l : List Post), (∀ q ∈ l, Q q) → ∀ q ∈ (a2F l ps).1, Q q
 | [], l, h => h
 | y :: ps, l, h => by
  simp only [a2F]
  split
  ·
   refine c7L hQ ps _ fun q hq => ?_
   unfold a7X at hq
   split at hq
   ·
    split at hq
    ·
     split at hq
     ·
      split at hq
      ·
       obtain ⟨i, hi, rfl⟩ := b4F dP hq
       rw [b2K]
       split
       ·
        rename_i hk _ _ _
        exact hQ _ _ (h _ (b3H dP l _ hk))
       ·
        refine h _ (b3H dP l _ ?_)
        have : (setAt l (atN l y.1) (settled (rdL dP l (atN l y.1)) y.2.1)).length = l.length := by rw [a2D, List.length_set]
        rw [← this]; exact hi
      ·
       cases hq
     ·
      cases hq
    ·
     cases hq
   ·
    cases hq
  ·
   intro q hq; cases hq
noncomputable def a7T (s : PrT) (p : Prm) (r : RepT) (now : I .u64) : List Post :=
 setAt s.posters (atN s.posters r.from') (b0H (rdL dP s.posters (atN s.posters r.from')) r.cost (U.of (p.rpu.val * repN s r now)) (I.add s.reports (I.of .u64 1)))
structure RepOk (s : PrT) (p : Prm) (pool : U) (r : RepT) (now : I .u64) (x : PrT) (t : OutT) : Prop where
 chk : Chk s p r now
 w : p.rpu.val * repN s r now < U.top
 fits : d2S (rdL dP s.posters (atN s.posters r.from')) r.cost (U.of (p.rpu.val * repN s r now))
 tab1 : TableOk (a7T s p r now)
 ap : (a2F (a7T s p r now) (a1H (a7T s p r now) pool)).2.val = 0
 tab2 : TableOk x.posters
 len : x.posters.length = s.posters.length
 addr : ∀ i, Post.addr (rdL dP x.posters i) = Post.addr (rdL dP s.posters i)
 posters : x.posters = (a2F (a7T s p r now) (a1H (a7T s p r now) pool)).1
 due : sumN (x.posters.map dueN) + sumN ((a1H (a7T s p r now) pool).map amt) = sumN ((a7T s p r now).map dueN)
 total : sumN (x.posters.map dueN) < U.top
 units : x.units = I.sub s.units (I.of .u64 (repN s r now : Int))
 last : x.last = r.upto
 reports : x.reports = I.add s.reports (I.of .u64 1)
 surplus : x.surplus = (if repN s r now = 0 then s.surplus else b4D pool x.posters (a1H (a7T s p r now) pool))
 price : x.price = (if repN s r now = 0 then s.price else (a9U s.price (b4D pool x.posters (a1H (a7T s p r now) pool)) s.surplus (I.of .u64 (repN s r now : Int)) p).1)
 out : t = b1G s p r now (a1H (a7T s p r now) pool)
theorem d2L {s : PrT} {p : Prm} {r : RepT} {now : I .u64} (h : Chk s p r now) : repN s r now ≤ s.units.nat ∧ (I.of .u64 (repN s r now : Int)).nat = repN s r now := by
 have h1 := b6G (units := s.units) h.lo h.hi
 have h2 := a1J s.units
 exact ⟨h1, b6A (by unfold repN; omega)⟩
theorem e5J {s : PrT} {p : Prm} {pool : U} {r : RepT} {now : I .u64} (h : (a7P s p pool r now).2.2.val = 0) : RepOk s p pool r now (a7P s p pool r now).1 (a7P s p pool r now).2.1 := by
 unfold a7P at h ⊢
 by_cases h0 : (b3T s p r now).val = 0
 case neg => rw [if_neg h0] at h; exact absurd h h0
 rw [if_pos h0] at h ⊢
 have hC := c0N h0
 by_cases hw : p.rpu.val * repN s r now < U.top
 case neg => rw [if_neg hw] at h; exact absurd h a9S
 rw [if_pos hw] at h ⊢
 have hcnt := b9M hC
 have ⟨hn1, hn2⟩ := d2L hC
 have hA := c1F (c := r.cost) (w := U.of (p.rpu.val * repN s r now)) (since := I.add s.reports (I.of .u64 1)) hC.tab hC.fnd (by rw [hcnt]; omega)
 rw [show a9O s.posters r.from' r.cost (U.of (p.rpu.val * repN s r now)) (I.add s.reports (I.of .u64 1)) = a9K s p r now from rfl] at hA
 rcases hA with ⟨hA, _⟩ | ⟨hA, hfit, hl1, hT⟩
 ·
  rw [if_neg (by rw [hA]; exact a9S)] at h; exact absurd h a9S
 rw [if_pos (by rw [hA]; rfl)] at h ⊢
 have hl1 : (a9K s p r now).1 = a7T s p r now := hl1
 rw [hl1] at h ⊢
 rw [hl1] at hT
 rcases c5B hT pool with hB | ⟨hB, hT2, hlen, hadr, hdue⟩
 ·
  rw [if_neg (by rw [hB]; exact a9S)] at h; exact absurd h a9S
 have hB0 : (a2F (a7T s p r now) (a1H (a7T s p r now) pool)).2.val = 0 := by rw [hB]; rfl
 rw [if_pos hB0] at h ⊢
 have hl0 : (a7T s p r now).length = s.posters.length := by unfold a7T; rw [a2D, List.length_set]
 have ha0 : ∀ i, Post.addr (rdL dP (a7T s p r now) i) = Post.addr (rdL dP s.posters i) := by
  intro i
  unfold a7T
  rw [b2K]
  split
  ·
   rename_i e; rw [e.1]; rfl
  ·
   rfl
 by_cases hD : (b1M (b2R s (a2F (a7T s p r now) (a1H (a7T s p r now) pool)).1) p pool (b1G s p r now (a1H (a7T s p r now) pool))).2.val = 0
 case neg => rw [if_neg hD] at h; exact absurd h a9S
 rw [if_pos hD] at h ⊢
 have key : sumN ((a2F (a7T s p r now) (a1H (a7T s p r now) pool)).1.map dueN) < U.top ∧
   (b1M (b2R s (a2F (a7T s p r now) (a1H (a7T s p r now) pool)).1) p pool (b1G s p r now (a1H (a7T s p r now) pool))).1 =
    ((if repN s r now = 0 then s.price else (a9U s.price (b4D pool (a2F (a7T s p r now) (a1H (a7T s p r now) pool)).1 (a1H (a7T s p r now) pool)) s.surplus (I.of .u64 (repN s r now : Int)) p).1),
     (s.units, (s.last, (I.add s.reports (I.of .u64 1), ((if repN s r now = 0 then s.surplus else b4D pool (a2F (a7T s p r now) (a1H (a7T s p r now) pool)).1 (a1H (a7T s p r now) pool)), ((a2F (a7T s p r now) (a1H (a7T s p r now) pool)).1, ())))))) := by
  unfold b1M at hD ⊢
  have e1 : (b2R s (a2F (a7T s p r now) (a1H (a7T s p r now) pool)).1).posters = (a2F (a7T s p r now) (a1H (a7T s p r now) pool)).1 := rfl
  have e2 : (b1G s p r now (a1H (a7T s p r now) pool)).1.nat = repN s r now := hn2
  rw [e1] at hD ⊢
  split at hD
  ·
   rename_i hs
   refine ⟨hs, ?_⟩
   rw [if_pos hs]
   rw [e2] at hD ⊢
   split at hD
   ·
    rename_i hz
    rw [if_pos hz, if_pos hz, if_pos hz]
    rfl
   ·
    rename_i hz
    rw [if_neg hz, if_neg hz, if_neg hz]
    split at hD
    ·
     rename_i hN
     exact absurd hD (iff_neb.1 hN)
    ·
     rename_i hN
     rw [if_neg hN]
     rfl
  ·
   exact absurd hD a9S
 rw [key.2]
 exact ⟨hC, hw, hfit, hT, hB0, hT2, hlen.trans hl0, fun i => (hadr i).trans (ha0 i), rfl, hdue, key.1, rfl, rfl, rfl, rfl, rfl, rfl⟩
theorem d9I {s : PrT} {p : Prm} {pool : U} {r : RepT} {now : I .u64} {x : PrT} {t : OutT} (h : RepOk s p pool r now x t) : prV x = true := by
 have hcnt := b9M h.chk
 refine prV_t.2 ⟨?_, h.tab2, ?_⟩
 ·
  rw [h.reports, hcnt, h.posters]
  refine c7L (Q := fun q => (Post.since q).nat ≤ s.reports.nat + 1) ?_ _ _ ?_
  ·
   intro q n hq
   show (if _ then I.of .u64 0 else q.since).nat ≤ _
   split
   ·
    exact Nat.zero_le _
   ·
    exact hq
  ·
   intro q hq
   obtain ⟨i, hi, rfl⟩ := b4F dP hq
   unfold a7T at hi ⊢
   rw [a2D, List.length_set] at hi
   rw [b2K]
   split
   ·
    show (if _ then I.add s.reports (I.of .u64 1) else Post.since _).nat ≤ _
    split
    ·
     rw [hcnt]; exact Nat.le_refl _
    ·
     have := h.chk.since _ (b3H dP s.posters _ h.chk.fnd)
     exact Nat.le_succ_of_le this
   ·
    have := h.chk.since _ (b3H dP s.posters i hi)
    omega
 ·
  rw [h.surplus]
  split
  ·
   exact h.chk.sur
  ·
   unfold b4D
   have := pool.lt
   have := h.total
   refine S.of_valid ?_
   omega
end Sym

/- The given functions with a counted number of rounds: for running them at given values. -/
namespace Sym
open Go
abbrev K1 : Nat := 2 ^ 64
noncomputable def b3X (x : (⟨[.pl u256, .pl u256], []⟩ : Tm).D) : Option (⟨[.pl (.arr 5 (.int .u64))], []⟩ : Tm).D :=
 let a : U := x.1.1
 let b : U := x.1.2.1
 iter none (fun x0 => brn (I.ltb x0.1.2.1 (I.of .i64 4)) (brn (inB x0.1.2.1 4) (brn (inB x0.1.2.1 4) (optF (.done none) (b0S (((@Arr.sel (I .u64) (I.of .u64 0) 4 x0.2.1 (I.nat x0.1.2.1)),((@Arr.sel (I .u64) (I.of .u64 0) 4 x0.2.2.1 (I.nat x0.1.2.1)),(x0.1.1,()))),())) fun y1 => brn (inB x0.1.2.1 5) (.again ((y1.1.2.1,((I.add x0.1.2.1 (I.of .i64 1)),())),(x0.2.1,(x0.2.2.1,(x0.2.2.2.1,((@Arr.upd (I .u64) 5 x0.2.2.2.2.1 (I.nat x0.1.2.1) y1.1.1),())))))) (.done none)) (.done none)) (.done none)) (.done (some (((x0.2.2.2.2.1.1,(x0.2.2.2.2.1.2.1,(x0.2.2.2.2.1.2.2.1,(x0.2.2.2.2.1.2.2.2.1,(x0.1.1,()))))),()),())))) K1 ((I.of .u64 0,(I.of .i64 0,())),(a,(b,((I.of .u64 0,Z_U),((I.of .u64 0,Z_U),())))))
theorem c4K : b0R = b3X := by
 funext x
 unfold b0R b3X
 rw [a5L]
 all_goals kernel_rfl
noncomputable def a5S (x : (⟨[.pl (.sl a0D)], []⟩ : Tm).D) : Option (⟨[.pl .bool], []⟩ : Tm).D :=
 let a : (List a0A) := x.1.1
 iter none (fun x0 => brn (I.ltb x0.1.2.2.2.1 x0.1.2.2.1) (brn (inB x0.1.2.2.2.1 (@lenL a0A x0.1.2.1)) (jn (fun (x1 : (((List a0A) × ((List a0A) × ((I .i64) × ((I .i64) × ((I .i64) × (Bool × (Bool × (Bool × Unit)))))))) × (a0A × Unit))) => optF (.done none) (b3X ((x1.2.1.2.1,(x1.2.1.2.2.2.2.1,())),())) fun y2 => optF (.done none) (b3X ((x1.2.1.2.2.1,(x1.2.1.2.2.2.1,())),())) fun y3 => brn (bnot (Ty.eqb (.arr 5 (.int .u64)) y2.1.1 y3.1.1)) (.done (some ((false,()),()))) (optF (.done none) (a4K ((x1.2.1.2.1,()),())) fun y4 => brn (bnot (Ty.eqb .bool (I.eqb x1.2.1.2.2.2.2.2.1 (I.of .u64 0)) y4.1.1)) (.done (some ((false,()),()))) (.again ((x1.1.1,(x1.1.2.1,(x1.1.2.2.1,((I.add x1.1.2.2.2.1 (I.of .i64 1)),())))),())))) fun j1 => brn (I.eqb (@rdL a0A a0B x0.1.2.1 (I.nat x0.1.2.2.2.1)).1 (I.of .u64 0)) (.done (some ((false,()),()))) (brn (I.ltb (I.of .i64 0) x0.1.2.2.2.1) (brn (inB (I.sub x0.1.2.2.2.1 (I.of .i64 1)) (@lenL a0A x0.1.1)) (brn (I.leb (@rdL a0A a0B x0.1.2.1 (I.nat x0.1.2.2.2.1)).1 (@rdL a0A a0B x0.1.1 (I.nat (I.sub x0.1.2.2.2.1 (I.of .i64 1)))).1) (.done (some ((false,()),()))) (j1 ((x0.1.1,(x0.1.2.1,(x0.1.2.2.1,(x0.1.2.2.2.1,(x0.1.2.2.2.1,((I.ltb (I.of .i64 0) x0.1.2.2.2.1),(true,((I.leb (@rdL a0A a0B x0.1.2.1 (I.nat x0.1.2.2.2.1)).1 (@rdL a0A a0B x0.1.1 (I.nat (I.sub x0.1.2.2.2.1 (I.of .i64 1)))).1),())))))))),((@rdL a0A a0B x0.1.2.1 (I.nat x0.1.2.2.2.1)),())))) (.done none)) (j1 ((x0.1.1,(x0.1.2.1,(x0.1.2.2.1,(x0.1.2.2.2.1,(x0.1.2.2.2.1,((I.ltb (I.of .i64 0) x0.1.2.2.2.1),(false,(false,())))))))),((@rdL a0A a0B x0.1.2.1 (I.nat x0.1.2.2.2.1)),()))))) (.done none)) (.done (some (((I.leb (I.ofNat .i64 (@lenL a0A x0.1.1)) (I.of .i64 64)),()),())))) K1 ((a,(a,((I.ofNat .i64 (@lenL a0A a)),(I.of .i64 0,())))),())
theorem a5W : a4T = a5S := by
 funext x
 unfold a4T a5S
 rw [a5L, c4K]
 all_goals kernel_rfl
noncomputable def b1V (x : (⟨[.pl a0E], []⟩ : Tm).D) : Option (⟨[.pl .bool], []⟩ : Tm).D :=
 let a : a0R := x.1.1
 iter none (fun x0 => brn (I.ltb x0.1.2.2.1 x0.1.2.1) (brn (inB x0.1.2.2.1 (@lenL a0A x0.1.1)) (brn (I.ltb x0.2.1.2.2.2.1 (@rdL a0A a0B x0.1.1 (I.nat x0.1.2.2.1)).2.2.2.2.2.1) (.done (some ((false,()),()))) (.again ((x0.1.1,(x0.1.2.1,((I.add x0.1.2.2.1 (I.of .i64 1)),()))),(x0.2.1,())))) (.done none)) (.done (optF none (a5S ((x0.2.1.2.2.2.2.2.1,()),())) fun y1 => brn y1.1.1 (optF none (a1S ((x0.2.1.2.2.2.2.1,()),())) fun y2 => some ((y2.1.1,()),())) (some ((false,()),()))))) K1 ((a.2.2.2.2.2.1,((I.ofNat .i64 (@lenL a0A a.2.2.2.2.2.1)),(I.of .i64 0,()))),(a,()))
theorem b1S : a5H = b1V := by
 funext x
 unfold a5H b1V
 rw [a5L, a5W]
 all_goals kernel_rfl
noncomputable def a9J (x : (⟨[.pl (.sl a0D), .pl (.int .u64)], []⟩ : Tm).D) : Option (⟨[.pl (.int .i64)], []⟩ : Tm).D :=
 let a : (List a0A) := x.1.1
 let b : (I .u64) := x.1.2.1
 iter none (fun x0 => brn (I.ltb x0.1.2.2.2.1 x0.1.2.2.1) (brn (inB x0.1.2.2.2.1 (@lenL a0A x0.1.1)) (brn (I.eqb (@rdL a0A a0B x0.1.1 (I.nat x0.1.2.2.2.1)).1 x0.2.1) (.done (some ((x0.1.2.2.2.1,()),()))) (.again ((x0.1.1,(((),x0.1.2.1.2),(x0.1.2.2.1,((I.add x0.1.2.2.2.1 (I.of .i64 1)),())))),(x0.2.1,())))) (.done none)) (.done (some (((I.of .i64 (-1)),()),())))) K1 ((a,(((),()),((I.ofNat .i64 (@lenL a0A a)),(I.of .i64 0,())))),(b,()))
theorem b0D : a5Q = a9J := by
 funext x
 unfold a5Q a9J
 rw [a5L]
 all_goals kernel_rfl
noncomputable def a1Z (x : (⟨[.pl (.sl a0D)], []⟩ : Tm).D) : Option (⟨[.whole 0], [.row a0D]⟩ : Tm).D :=
 let a : List a0A := x.1.1
 brn (a2L (lenL a)) (some ((),(a,()))) none
theorem a2I : a0Q = a1Z := by
 funext x
 obtain ⟨⟨a, ⟨⟩⟩, ⟨⟩⟩ := x
 cases a with
 | nil => show both _ _ _ = _; exact e1J rfl
 | cons p l => rfl
noncomputable def b6V (x : (⟨[.pl (.sl a0D), .pl (.int .u64)], []⟩ : Tm).D) : Option (⟨[.pl (.sl a0D), .pl (.int .i64)], []⟩ : Tm).D :=
 let a : (List a0A) := x.1.1
 let b : (I .u64) := x.1.2.1
 jn (fun (x0 : (((List a0A) × ((I .u64) × Unit)) × Unit)) => jn (fun (x1 : (((List a0A) × ((I .u64) × ((I .i64) × Unit))) × Unit)) => optF none (a1Z ((x1.1.1,()),())) fun y2 => optF none (b5G ((x1.1.2.2.1,()),(y2.2.1,(((x1.1.2.1,(Z_U,(Z_U,(Z_U,(Z_U,(I.of .u64 0,()))))))::[]),())))) fun y3 => some ((y3.2.1,(I.of .i64 0,())),())) fun j1 => iter none (fun x2 => brn (I.ltb x2.1.2.2.1 (I.ofNat .i64 (@lenL a0A x2.1.1))) (brn (inB x2.1.2.2.1 (@lenL a0A x2.1.1)) (brn (I.ltb (@rdL a0A a0B x2.1.1 (I.nat x2.1.2.2.1)).1 x2.1.2.1) (.again ((x2.1.1,(x2.1.2.1,((I.add x2.1.2.2.1 (I.of .i64 1)),()))),())) (.done (j1 ((x2.1.1,(x2.1.2.1,(x2.1.2.2.1,()))),())))) (.done none)) (.done (j1 ((x2.1.1,(x2.1.2.1,(x2.1.2.2.1,()))),())))) K1 ((x0.1.1,(x0.1.2.1,(I.of .i64 0,()))),())) fun j0 => jn (fun (x1 : (((List a0A) × ((I .u64) × (Bool × Unit))) × Unit)) => brn x1.1.2.2.1 (some (([],(I.of .i64 2,())),())) (optF none (a9J ((x1.1.1,(x1.1.2.1,())),())) fun y2 => brn (I.leb (I.of .i64 0) y2.1.1) (some (([],(I.of .i64 9,())),())) (brn (I.eqb (I.ofNat .i64 (@lenL a0A x1.1.1)) (I.of .i64 64)) (some (([],(I.of .i64 7,())),())) (j0 ((x1.1.1,(x1.1.2.1,())),()))))) fun j1 => optF none (a5S ((a,()),())) fun y2 => brn (bnot y2.1.1) (j1 ((a,(b,(true,()))),())) (j1 ((a,(b,((I.eqb b (I.of .u64 0)),()))),()))
theorem c3Q : b1I = b6V := by
 funext x
 unfold b1I b6V
 rw [a5L, b0D, a5W, a2I]
 all_goals kernel_rfl
noncomputable def b0Y (x : (⟨[.pl a0E, .pl (.int .u64)], []⟩ : Tm).D) : Option (⟨[.pl a0E, .pl (.int .i64)], []⟩ : Tm).D :=
 let a : a0R := x.1.1
 let b : (I .u64) := x.1.2.1
 optF none (b1V ((a,()),())) fun y0 => brn (bnot y0.1.1) (some (((Z_U,(I.of .u64 0,(I.of .u64 0,(I.of .u64 0,(a0N,([],())))))),(I.of .i64 2,())),())) (optF none (b6V ((a.2.2.2.2.2.1,(b,())),())) fun y1 => brn (I.neb y1.1.2.1 (I.of .i64 0)) (some (((Z_U,(I.of .u64 0,(I.of .u64 0,(I.of .u64 0,(a0N,([],())))))),(y1.1.2.1,())),())) (some (((a.1,(a.2.1,(a.2.2.1,(a.2.2.2.1,(a.2.2.2.2.1,(y1.1.1,a.2.2.2.2.2.2)))))),(I.of .i64 0,())),())))
theorem b6Q : a4S = b0Y := by
 funext x
 unfold a4S b0Y
 rw [b1S, c3Q]
 all_goals kernel_rfl
noncomputable def b2L (x : (⟨[.pl u256], []⟩ : Tm).D) : Option (⟨[.pl (.int .i64)], []⟩ : Tm).D :=
 let a : U := x.1.1
 iter none (fun x0 => brn (I.leb (I.of .i64 0) x0.1.1) (brn (inB x0.1.1 4) (brn (I.neb (@Arr.sel (I .u64) (I.of .u64 0) 4 x0.2.1 (I.nat x0.1.1)) (I.of .u64 0)) (brn (inB x0.1.1 4) (optF (.done none) (a6C (((@Arr.sel (I .u64) (I.of .u64 0) 4 x0.2.1 (I.nat x0.1.1)),()),())) fun y1 => .done (some (((I.add (I.mul (I.of .i64 64) x0.1.1) y1.1.1),()),()))) (.done none)) (.again (((I.sub x0.1.1 (I.of .i64 1)),()),(x0.2.1,())))) (.done none)) (.done (some ((I.of .i64 0,()),())))) K1 ((I.of .i64 3,()),(a,()))
theorem b8M : a5U = b2L := by
 funext x
 unfold a5U b2L
 rw [a5L]
 all_goals kernel_rfl
noncomputable def a8Y (x : (⟨[.pl a0K], []⟩ : Tm).D) : Option (⟨[.pl (.int .i64)], []⟩ : Tm).D :=
 let a : a1R := x.1.1
 iter none (fun x0 => brn (I.leb x0.1.1 (I.of .i64 12)) (optF (.done none) (b4P ((x0.2.1,(x0.1.1,())),())) fun y1 => optF (.done none) (b0U ((x0.2.1,(x0.1.1,())),())) fun y2 => optF (.done none) (a0L ((y2.1.1,()),())) fun y3 => optF (.done none) (a3W ((y1.1.1,(y3.1.1,())),())) fun y4 => brn (I.ltb y4.1.1 (I.of .i64 0)) (.done (some ((x0.1.1,()),()))) (optF (.done none) (a0L ((y2.1.2.1,()),())) fun y5 => optF (.done none) (a3W ((y1.1.1,(y5.1.1,())),())) fun y6 => brn (I.ltb (I.of .i64 0) y6.1.1) (.done (some ((x0.1.1,()),()))) (.again (((I.add x0.1.1 (I.of .i64 1)),()),(x0.2.1,()))))) (.done (some ((I.of .i64 0,()),())))) K1 ((I.of .i64 1,()),(a,()))
theorem b4O : a3Z = a8Y := by
 funext x
 unfold a3Z a8Y
 rw [a5L]
 all_goals kernel_rfl
noncomputable def a9Y (x : (⟨[.pl a0K], []⟩ : Tm).D) : Option (⟨[.pl .bool], []⟩ : Tm).D :=
 let a : a1R := x.1.1
 optF none (a8Y ((a,()),())) fun y0 => some (((I.eqb y0.1.1 (I.of .i64 0)),()),())
theorem b1K : a6Y = a9Y := by
 funext x
 unfold a6Y a9Y
 rw [b4O]
 all_goals kernel_rfl
noncomputable def a9Q (x : (⟨[.pl a0E, .pl a0K, .pl a1B, .pl (.int .u64)], []⟩ : Tm).D) : Option (⟨[.pl (.int .i64)], []⟩ : Tm).D :=
 let a : a0R := x.1.1
 let b : a1R := x.1.2.1
 let c : a1U := x.1.2.2.1
 let d : (I .u64) := x.1.2.2.2.1
 optF none (b1V ((a,()),())) fun y0 => brn (bnot y0.1.1) (some ((I.of .i64 2,()),())) (optF none (a9Y ((b,()),())) fun y1 => brn (bnot y1.1.1) (some ((I.of .i64 15,()),())) (optF none (a9J ((a.2.2.2.2.2.1,(c.1,())),())) fun y2 => brn (I.ltb y2.1.1 (I.of .i64 0)) (some ((I.of .i64 8,()),())) (jn (fun (x3 : ((Bool × Unit) × (a0R × (a1U × Unit)))) => brn x3.1.1 (some ((I.of .i64 14,()),())) (optF none (b2L ((x3.2.2.1.2.2.1,()),())) fun y4 => brn (I.ltb (I.of .i64 128) y4.1.1) (some ((I.of .i64 2,()),())) (brn (I.eqb x3.2.1.2.2.2.1 (I.of .u64 18446744073709551615)) (some ((I.of .i64 4,()),())) (some ((I.of .i64 0,()),()))))) fun j3 => brn (I.ltb c.2.1 a.2.2.1) (j3 ((true,()),(a,(c,())))) (j3 (((I.ltb d c.2.1),()),(a,(c,())))))))
theorem b5R : a4I = a9Q := by
 funext x
 unfold a4I a9Q
 rw [b8M, b0D, b1S, b1K]
 all_goals kernel_rfl
noncomputable def b2W (x : (⟨[.pl u256, .pl u256], []⟩ : Tm).D) : Option (⟨[.pl u256, .pl (.int .i64)], []⟩ : Tm).D :=
 let a : U := x.1.1
 let b : U := x.1.2.1
 iter none (fun x0 => brn (I.ltb x0.1.1 (I.of .i64 4)) (iter (.done none) (fun x1 => brn (I.ltb x1.1.2.2.2.1 (I.of .i64 4)) (brn (inB x1.1.1 4) (brn (inB x1.1.2.2.2.1 4) (optF (.done (.done none)) (a6M (((@Arr.sel (I .u64) (I.of .u64 0) 4 x1.2.1 (I.nat x1.1.1)),((@Arr.sel (I .u64) (I.of .u64 0) 4 x1.2.2.1 (I.nat x1.1.2.2.2.1)),())),())) fun y2 => brn (I.ltb (I.of .i64 3) (I.add x1.1.1 x1.1.2.2.2.1)) (brn (I.neb (I.or y2.1.1 y2.1.2.1) (I.of .u64 0)) (.done (.done (some ((Z_U,(I.of .i64 4,())),())))) (.again ((x1.1.1,(x1.1.2.1,(x1.1.2.2.1,((I.add x1.1.2.2.2.1 (I.of .i64 1)),())))),(x1.2.1,(x1.2.2.1,(x1.2.2.2.1,(x1.2.2.2.2.1,()))))))) (optF (.done (.done none)) (b0S ((y2.1.2.1,(x1.1.2.1,(I.of .u64 0,()))),())) fun y3 => brn (inB (I.add x1.1.1 x1.1.2.2.2.1) 4) (optF (.done (.done none)) (b0S (((@Arr.sel (I .u64) (I.of .u64 0) 4 x1.2.2.2.2.1 (I.nat (I.add x1.1.1 x1.1.2.2.2.1))),(y3.1.1,(I.of .u64 0,()))),())) fun y4 => brn (inB (I.add x1.1.1 x1.1.2.2.2.1) 4) (.again ((x1.1.1,((I.add (I.add y2.1.1 y3.1.2.1) y4.1.2.1),(x1.1.2.2.1,((I.add x1.1.2.2.2.1 (I.of .i64 1)),())))),(x1.2.1,(x1.2.2.1,(x1.2.2.2.1,((@Arr.upd (I .u64) 4 x1.2.2.2.2.1 (I.nat (I.add x1.1.1 x1.1.2.2.2.1)) y4.1.1),())))))) (.done (.done none))) (.done (.done none)))) (.done (.done none))) (.done (.done none))) (.done (brn (I.neb x1.1.2.1 (I.of .u64 0)) (.done (some ((Z_U,(I.of .i64 4,())),()))) (.again (((I.add x1.1.2.2.1 (I.of .i64 1)),()),(x1.2.1,(x1.2.2.1,(x1.2.2.2.1,(x1.2.2.2.2.1,()))))))))) K1 ((x0.1.1,(I.of .u64 0,(x0.1.1,(I.of .i64 0,())))),(x0.2.1,(x0.2.2.1,(x0.2.2.2.1,(x0.2.2.2.2.1,())))))) (.done (some ((x0.2.2.2.2.1,(I.of .i64 0,())),())))) K1 ((I.of .i64 0,()),(a,(b,(Z_U,(Z_U,())))))
theorem b5Z : a7E = b2W := by
 funext x
 unfold a7E b2W
 rw [a5L]
 all_goals kernel_rfl
noncomputable def b6H (x : (⟨[.pl u256, .pl u256], []⟩ : Tm).D) : Option (⟨[.pl u256, .pl u256], []⟩ : Tm).D :=
 let a : U := x.1.1
 let b : U := x.1.2.1
 iter none (fun x0 => brn (I.ltb x0.1.1 (I.of .i64 4)) (iter (.done none) (fun x1 => brn (I.ltb x1.1.2.2.2.1 (I.of .i64 4)) (brn (inB x1.1.1 4) (brn (inB x1.1.2.2.2.1 4) (optF (.done (.done none)) (a6M (((@Arr.sel (I .u64) (I.of .u64 0) 4 x1.2.1 (I.nat x1.1.1)),((@Arr.sel (I .u64) (I.of .u64 0) 4 x1.2.2.1 (I.nat x1.1.2.2.2.1)),())),())) fun y2 => optF (.done (.done none)) (b0S ((y2.1.2.1,(x1.1.2.1,(I.of .u64 0,()))),())) fun y3 => brn (inB (I.add x1.1.1 x1.1.2.2.2.1) 8) (optF (.done (.done none)) (b0S (((@Arr.sel (I .u64) (I.of .u64 0) 8 x1.2.2.2.2.2.1 (I.nat (I.add x1.1.1 x1.1.2.2.2.1))),(y3.1.1,(I.of .u64 0,()))),())) fun y4 => brn (inB (I.add x1.1.1 x1.1.2.2.2.1) 8) (.again ((x1.1.1,((I.add (I.add y2.1.1 y3.1.2.1) y4.1.2.1),(x1.1.2.2.1,((I.add x1.1.2.2.2.1 (I.of .i64 1)),())))),(x1.2.1,(x1.2.2.1,(x1.2.2.2.1,(x1.2.2.2.2.1,((@Arr.upd (I .u64) 8 x1.2.2.2.2.2.1 (I.nat (I.add x1.1.1 x1.1.2.2.2.1)) y4.1.1),()))))))) (.done (.done none))) (.done (.done none))) (.done (.done none))) (.done (.done none))) (.done (brn (inB (I.add x1.1.1 (I.of .i64 4)) 8) (.again (((I.add x1.1.2.2.1 (I.of .i64 1)),()),(x1.2.1,(x1.2.2.1,(x1.2.2.2.1,(x1.2.2.2.2.1,((@Arr.upd (I .u64) 8 x1.2.2.2.2.2.1 (I.nat (I.add x1.1.1 (I.of .i64 4))) x1.1.2.1),()))))))) (.done none)))) K1 ((x0.1.1,(I.of .u64 0,(x0.1.1,(I.of .i64 0,())))),(x0.2.1,(x0.2.2.1,(x0.2.2.2.1,(x0.2.2.2.2.1,(x0.2.2.2.2.2.1,()))))))) (.done (some (((@Arr.ofList (I .u64) (I.of .u64 0) 4 (@subL (I .u64) (@Arr.list (I .u64) 8 x0.2.2.2.2.2.1) 0 4)),((@Arr.ofList (I .u64) (I.of .u64 0) 4 (@subL (I .u64) (@Arr.list (I .u64) 8 x0.2.2.2.2.2.1) 4 4)),())),())))) K1 ((I.of .i64 0,()),(a,(b,(Z_U,(Z_U,((I.of .u64 0,(I.of .u64 0,(I.of .u64 0,(I.of .u64 0,Z_U)))),()))))))
theorem c2Y : b0P = b6H := by
 funext x
 unfold b0P b6H
 rw [a5L]
 all_goals kernel_rfl
noncomputable def b0V (x : (⟨[.pl u256, .pl (.int .u64)], []⟩ : Tm).D) : Option (⟨[.pl u256, .pl (.int .u64)], []⟩ : Tm).D :=
 let a : U := x.1.1
 let b : (I .u64) := x.1.2.1
 iter none (fun x0 => brn (I.ltb (I.of .i64 0) x0.1.2.2.1) (brn (inB x0.1.2.2.1 4) (brn (inB (I.sub x0.1.2.2.1 (I.of .i64 1)) 4) (brn (inB x0.1.2.2.1 4) (.again ((x0.1.1,(x0.1.2.1,((I.sub x0.1.2.2.1 (I.of .i64 1)),()))),((@Arr.upd (I .u64) 4 x0.2.1 (I.nat x0.1.2.2.1) (I.or (I.shl (@Arr.sel (I .u64) (I.of .u64 0) 4 x0.2.1 (I.nat x0.1.2.2.1)) (I.of .u64 1)) (I.shr (@Arr.sel (I .u64) (I.of .u64 0) 4 x0.2.1 (I.nat (I.sub x0.1.2.2.1 (I.of .i64 1)))) (I.of .u64 63)))),(x0.2.2.1,())))) (.done none)) (.done none)) (.done none)) (.done (some ((((I.or (I.shl x0.2.1.1 (I.of .u64 1)) x0.1.1),(x0.2.1.2.1,(x0.2.1.2.2.1,(x0.2.1.2.2.2.1,())))),(x0.1.2.1,())),())))) K1 ((b,((I.shr a.2.2.2.1 (I.of .u64 63)),(I.of .i64 3,()))),(a,(Z_U,())))
theorem b6Z : a5P = b0V := by
 funext x
 unfold a5P b0V
 rw [a5L]
 all_goals kernel_rfl
noncomputable def b2M (x : (⟨[.pl u256, .pl u256], []⟩ : Tm).D) : Option (⟨[.pl u256], []⟩ : Tm).D :=
 let a : U := x.1.1
 let b : U := x.1.2.1
 iter none (fun x0 => brn (I.ltb x0.1.2.1 (I.of .i64 4)) (brn (inB x0.1.2.1 4) (brn (inB x0.1.2.1 4) (optF (.done none) (b8D (((@Arr.sel (I .u64) (I.of .u64 0) 4 x0.2.1 (I.nat x0.1.2.1)),((@Arr.sel (I .u64) (I.of .u64 0) 4 x0.2.2.1 (I.nat x0.1.2.1)),(x0.1.1,()))),())) fun y1 => brn (inB x0.1.2.1 4) (.again ((y1.1.2.1,((I.add x0.1.2.1 (I.of .i64 1)),())),((@Arr.upd (I .u64) 4 x0.2.1 (I.nat x0.1.2.1) y1.1.1),(x0.2.2.1,(x0.2.2.2.1,()))))) (.done none)) (.done none)) (.done none)) (.done (some ((x0.2.1,()),())))) K1 ((I.of .u64 0,(I.of .i64 0,())),(a,(b,(Z_U,()))))
theorem b8K : a5V = b2M := by
 funext x
 unfold a5V b2M
 rw [a5L]
 all_goals kernel_rfl
noncomputable def b0W (x : (⟨[.pl u256, .pl u256, .pl u256], []⟩ : Tm).D) : Option (⟨[.pl u256, .pl u256, .pl (.int .i64)], []⟩ : Tm).D :=
 let a : U := x.1.1
 let b : U := x.1.2.1
 let c : U := x.1.2.2.1
 brn (Ty.eqb u256 c Z_U) (some ((Z_U,(Z_U,(I.of .i64 5,()))),())) (optF none (a3W ((b,(c,())),())) fun y0 => brn (I.leb (I.of .i64 0) y0.1.1) (some ((Z_U,(Z_U,(I.of .i64 4,()))),())) (iter none (fun x1 => brn (I.leb (I.of .i64 0) x1.1.1) (brn (inB (I.quo x1.1.1 (I.of .i64 64)) 4) (brn (I.nn (I.rem x1.1.1 (I.of .i64 64))) (optF (.done none) (b0V ((x1.2.2.2.2.1,((I.and (I.shr (@Arr.sel (I .u64) (I.of .u64 0) 4 x1.2.1 (I.nat (I.quo x1.1.1 (I.of .i64 64)))) (I.rem x1.1.1 (I.of .i64 64))) (I.of .u64 1)),())),())) fun y2 => jn (fun (x3 : (((I .i64) × (Bool × Unit)) × (U × (U × (U × (U × Unit)))))) => brn x3.1.2.1 (optF (.done none) (b2M ((x3.2.2.2.2.1,(x3.2.2.1,())),())) fun y4 => brn (inB (I.quo x3.1.1 (I.of .i64 64)) 4) (brn (I.nn (I.rem x3.1.1 (I.of .i64 64))) (brn (inB (I.quo x3.1.1 (I.of .i64 64)) 4) (.again (((I.sub x3.1.1 (I.of .i64 1)),()),(x3.2.1,(x3.2.2.1,((@Arr.upd (I .u64) 4 x3.2.2.2.1 (I.nat (I.quo x3.1.1 (I.of .i64 64))) (I.or (@Arr.sel (I .u64) (I.of .u64 0) 4 x3.2.2.2.1 (I.nat (I.quo x3.1.1 (I.of .i64 64)))) (I.shl (I.of .u64 1) (I.rem x3.1.1 (I.of .i64 64))))),(y4.1.1,())))))) (.done none)) (.done none)) (.done none)) (.again (((I.sub x3.1.1 (I.of .i64 1)),()),(x3.2.1,(x3.2.2.1,(x3.2.2.2.1,(x3.2.2.2.2.1,()))))))) fun j3 => brn (I.eqb y2.1.2.1 (I.of .u64 1)) (j3 ((x1.1.1,(true,())),(x1.2.1,(x1.2.2.1,(x1.2.2.2.1,(y2.1.1,())))))) (optF (.done none) (a3W ((y2.1.1,(x1.2.2.1,())),())) fun y4 => j3 ((x1.1.1,((I.leb (I.of .i64 0) y4.1.1),())),(x1.2.1,(x1.2.2.1,(x1.2.2.2.1,(y2.1.1,()))))))) (.done none)) (.done none)) (.done (some ((x1.2.2.2.1,(x1.2.2.2.2.1,(I.of .i64 0,()))),())))) K1 ((I.of .i64 255,()),(a,(c,(Z_U,(b,())))))))
theorem b3W : a5C = b0W := by
 funext x
 unfold a5C b0W
 rw [a5L, b6Z, b8K]
 all_goals kernel_rfl
noncomputable def a9N (x : (⟨[.pl u256, .pl u256, .pl u256], []⟩ : Tm).D) : Option (⟨[.pl u256, .pl (.int .i64)], []⟩ : Tm).D :=
 let a : U := x.1.1
 let b : U := x.1.2.1
 let c : U := x.1.2.2.1
 optF none (b6H ((a,(b,())),())) fun y0 => optF none (b0W ((y0.1.1,(y0.1.2.1,(c,()))),())) fun y1 => some ((y1.1.1,(y1.1.2.2.1,())),())
theorem b5C : a3P = a9N := by
 funext x
 unfold a3P a9N
 rw [c2Y, b3W]
 all_goals kernel_rfl
noncomputable def b2H (x : (⟨[.pl (.int .u64), .pl (.int .u64), .pl (.int .u64), .pl (.int .u64)], []⟩ : Tm).D) : Option (⟨[.pl (.int .u64), .pl (.int .i64)], []⟩ : Tm).D :=
 let a : (I .u64) := x.1.1
 let b : (I .u64) := x.1.2.1
 let c : (I .u64) := x.1.2.2.1
 let d : (I .u64) := x.1.2.2.2.1
 jn (fun (x0 : (U × Unit)) => optF none (a0L ((x0.1.1,()),())) fun y1 => optF none (a0L (((I.sub x0.1.2.2.1 x0.1.2.1),()),())) fun y2 => optF none (a0L (((I.sub x0.1.2.2.2.1 x0.1.2.1),()),())) fun y3 => optF none (a9N ((y1.1.1,(y2.1.1,(y3.1.1,()))),())) fun y4 => some ((y4.1.1.1,(y4.1.2.1,())),())) fun j0 => jn (fun (x1 : (((I .u64) × ((I .u64) × ((I .u64) × ((I .u64) × (Bool × Unit))))) × Unit)) => brn x1.1.2.2.2.2.1 (some ((I.of .u64 0,(I.of .i64 14,())),())) (brn (I.eqb x1.1.2.2.2.1 x1.1.2.1) (some ((x1.1.1,(I.of .i64 0,())),())) (j0 ((x1.1.1,(x1.1.2.1,(x1.1.2.2.1,(x1.1.2.2.2.1,())))),())))) fun j1 => brn (I.ltb c b) (j1 ((a,(b,(c,(d,(true,()))))),())) (j1 ((a,(b,(c,(d,((I.ltb d c),()))))),()))
theorem b8Q : a7H = b2H := by
 funext x
 unfold a7H b2H
 rw [b5C]
 all_goals kernel_rfl
noncomputable def b1Q (x : (⟨[.pl a0E, .pl a0K, .pl a1B, .pl (.int .u64)], []⟩ : Tm).D) : Option (⟨[.pl a0O, .pl (.int .i64)], []⟩ : Tm).D :=
 let a : a0R := x.1.1
 let b : a1R := x.1.2.1
 let c : a1U := x.1.2.2.1
 let d : (I .u64) := x.1.2.2.2.1
 optF none (b2H ((a.2.1,(a.2.2.1,(c.2.1,(d,())))),())) fun y0 => brn (I.neb y0.1.2.1 (I.of .i64 0)) (some (((I.of .u64 0,(Z_U,([],()))),(y0.1.2.1,())),())) (optF none (a0L ((y0.1.1,()),())) fun y1 => optF none (b2W ((b.2.2.2.2.2.2.2.1,(y1.1.1,())),())) fun y2 => brn (I.neb y2.1.2.1 (I.of .i64 0)) (some (((I.of .u64 0,(Z_U,([],()))),(y2.1.2.1,())),())) (some (((y0.1.1,(y2.1.1,([],()))),(I.of .i64 0,())),())))
theorem b7T : a6L = b1Q := by
 funext x
 unfold a6L b1Q
 rw [b5Z, b8Q]
 all_goals kernel_rfl
noncomputable def b3Q (x : (⟨[.pl (.sl a0D), .pl (.int .u64), .pl u256, .pl u256, .pl (.int .u64)], []⟩ : Tm).D) : Option (⟨[.pl (.sl a0D), .pl (.int .i64)], []⟩ : Tm).D :=
 let a : (List a0A) := x.1.1
 let b : (I .u64) := x.1.2.1
 let c : U := x.1.2.2.1
 let d : U := x.1.2.2.2.1
 let e : (I .u64) := x.1.2.2.2.2.1
 optF none (a9J ((a,(b,())),())) fun y0 => jn (fun (x1 : (((List a0A) × ((I .u64) × ((I .i64) × Unit))) × (U × (U × Unit)))) => brn (inB x1.1.2.2.1 (@lenL a0A x1.1.1)) (optF none (a1V ((x1.2.1,(x1.2.2.1,())),())) fun y2 => optF none (a1V (((@rdL a0A a0B x1.1.1 (I.nat x1.1.2.2.1)).2.1,(y2.1.1,())),())) fun y3 => optF none (a1V (((@rdL a0A a0B x1.1.1 (I.nat x1.1.2.2.1)).2.2.1,(x1.2.1,())),())) fun y4 => optF none (a1V (((@rdL a0A a0B x1.1.1 (I.nat x1.1.2.2.1)).2.2.2.1,(x1.2.2.1,())),())) fun y5 => jn (fun (x6 : (((List a0A) × ((I .u64) × ((I .i64) × Unit))) × (a0A × (U × (U × (U × Unit)))))) => jn (fun (x7 : (((List a0A) × ((I .i64) × Unit)) × (a0A × (U × (U × (U × Unit)))))) => optF none (a1Z ((x7.1.1,()),())) fun y8 => brn (inB x7.1.2.1 (@lenL a0A y8.2.1)) (some (((@setL a0A y8.2.1 (I.nat x7.1.2.1) (x7.2.1.1,(x7.2.2.1,(x7.2.2.2.1,(x7.2.2.2.2.1,x7.2.1.2.2.2.2))))),(I.of .i64 0,())),())) none) fun j7 => optF none (a4K ((x6.2.1.2.1,()),())) fun y8 => brn y8.1.1 (optF none (a4K ((x6.2.2.1,()),())) fun y9 => brn (bnot y9.1.1) (j7 ((x6.1.1,(x6.1.2.2.1,())),((x6.2.1.1,(x6.2.1.2.1,(x6.2.1.2.2.1,(x6.2.1.2.2.2.1,(x6.2.1.2.2.2.2.1,(x6.1.2.1,x6.2.1.2.2.2.2.2.2)))))),(x6.2.2.1,(x6.2.2.2.1,(x6.2.2.2.2.1,())))))) (j7 ((x6.1.1,(x6.1.2.2.1,())),(x6.2.1,(x6.2.2.1,(x6.2.2.2.1,(x6.2.2.2.2.1,()))))))) (j7 ((x6.1.1,(x6.1.2.2.1,())),(x6.2.1,(x6.2.2.1,(x6.2.2.2.1,(x6.2.2.2.2.1,()))))))) fun j6 => brn (I.neb y2.1.2.1 (I.of .i64 0)) (some (([],(I.of .i64 4,())),())) (brn (I.neb y3.1.2.1 (I.of .i64 0)) (some (([],(I.of .i64 4,())),())) (brn (I.neb y4.1.2.1 (I.of .i64 0)) (some (([],(I.of .i64 4,())),())) (brn (I.neb y5.1.2.1 (I.of .i64 0)) (some (([],(I.of .i64 4,())),())) (j6 ((x1.1.1,(x1.1.2.1,(x1.1.2.2.1,()))),((@rdL a0A a0B x1.1.1 (I.nat x1.1.2.2.1)),(y3.1.1,(y4.1.1,(y5.1.1,())))))))))) none) fun j1 => jn (fun (x2 : (((List a0A) × ((I .u64) × ((I .i64) × (Bool × Unit)))) × (U × (U × Unit)))) => brn x2.1.2.2.2.1 (some (([],(I.of .i64 2,())),())) (brn (I.ltb x2.1.2.2.1 (I.of .i64 0)) (some (([],(I.of .i64 8,())),())) (j1 ((x2.1.1,(x2.1.2.1,(x2.1.2.2.1,()))),(x2.2.1,(x2.2.2.1,())))))) fun j2 => optF none (a5S ((a,()),())) fun y3 => brn (bnot y3.1.1) (j2 ((a,(e,(y0.1.1,(true,())))),(c,(d,())))) (j2 ((a,(e,(y0.1.1,((I.eqb e (I.of .u64 0)),())))),(c,(d,()))))
theorem b9E : a8D = b3Q := by
 funext x
 unfold a8D b3Q
 rw [b0D, a5W, a2I]
 all_goals kernel_rfl
noncomputable def a8R (x : (⟨[.iface 116 (.ptr 0 [.fld 0]), .iface 118 (.pl a0V)], [.box a1C (.pair (.whole 1) (.pl .nil)), .row a0V]⟩ : Tm).D) : Option (⟨[], [.box a1C (.pair (.whole 1) (.pl .nil)), .row a0V]⟩ : Tm).D :=
 let b : a0C := x.1.2.1
 let h0 : (Unit × Unit) := x.2.1
 let h1 : (List a0C) := x.2.2.1
 brn (a2L (@lenL a0C (@appL a0C h1 (b::[])))) (optF none (a3X (((@appL a0C h1 (b::[])),()),())) fun y0 => iter none (fun x1 => brn (I.eqb (I.quo (I.sub x1.1.2.1 (I.of .i64 1)) (I.of .i64 2)) x1.1.2.1) (.done (some ((),(((),x1.2.1.2),(x1.2.2.1,()))))) (optF (.done none) (a1N ((x1.2.2.1,(x1.1.2.1,((I.quo (I.sub x1.1.2.1 (I.of .i64 1)) (I.of .i64 2)),()))),())) fun y2 => brn (bnot y2.1.1) (.done (some ((),(((),x1.2.1.2),(x1.2.2.1,()))))) (brn (inB x1.1.2.1 (@lenL a0C x1.2.2.1)) (brn (inB (I.quo (I.sub x1.1.2.1 (I.of .i64 1)) (I.of .i64 2)) (@lenL a0C x1.2.2.1)) (brn (inB (I.quo (I.sub x1.1.2.1 (I.of .i64 1)) (I.of .i64 2)) (@lenL a0C x1.2.2.1)) (brn (inB x1.1.2.1 (@lenL a0C (@setL a0C x1.2.2.1 (I.nat (I.quo (I.sub x1.1.2.1 (I.of .i64 1)) (I.of .i64 2))) (@rdL a0C a0J x1.2.2.1 (I.nat x1.1.2.1))))) (.again (((),((I.quo (I.sub x1.1.2.1 (I.of .i64 1)) (I.of .i64 2)),())),(((),x1.2.1.2),((@setL a0C (@setL a0C x1.2.2.1 (I.nat (I.quo (I.sub x1.1.2.1 (I.of .i64 1)) (I.of .i64 2))) (@rdL a0C a0J x1.2.2.1 (I.nat x1.1.2.1))) (I.nat x1.1.2.1) (@rdL a0C a0J x1.2.2.1 (I.nat (I.quo (I.sub x1.1.2.1 (I.of .i64 1)) (I.of .i64 2))))),())))) (.done none)) (.done none)) (.done none)) (.done none)))) K1 (((),((I.sub y0.1.1 (I.of .i64 1)),())),(((),h0.2),((@appL a0C h1 (b::[])),())))) none
theorem b4Y : a3Y = a8R := by
 funext x
 unfold a3Y a8R
 rw [a5L]
 all_goals kernel_rfl
noncomputable def b3M (x : (⟨[.pl (.sl a0D)], []⟩ : Tm).D) : Option (⟨[.ptr 0 []], [.box a1C (.pair (.whole 1) (.pl .nil)), .row a0V]⟩ : Tm).D :=
 let a : (List a0A) := x.1.1
 iter none (fun x0 => brn (I.ltb x0.1.2.2.1 x0.1.2.1) (brn (inB x0.1.2.2.1 (@lenL a0A x0.1.1)) (brn (bnot (Ty.eqb u256 (@rdL a0A a0B x0.1.1 (I.nat x0.1.2.2.1)).2.1 Z_U)) (optF (.done none) (a8R (((),(((@rdL a0A a0B x0.1.1 (I.nat x0.1.2.2.1)),(x0.1.2.2.1,())),())),(((),x0.2.1.2),(x0.2.2.1,())))) fun y1 => .again ((x0.1.1,(x0.1.2.1,((I.add x0.1.2.2.1 (I.of .i64 1)),()))),(((),y1.2.1.2),(y1.2.2.1,())))) (.again ((x0.1.1,(x0.1.2.1,((I.add x0.1.2.2.1 (I.of .i64 1)),()))),(((),x0.2.1.2),(x0.2.2.1,()))))) (.done none)) (.done (some ((),(((),x0.2.1.2),(x0.2.2.1,())))))) K1 ((a,((I.ofNat .i64 (@lenL a0A a)),(I.of .i64 0,()))),(((),()),([],())))
theorem b9D : a7Y = b3M := by
 funext x
 unfold a7Y b3M
 rw [a5L, b4Y]
 all_goals kernel_rfl
noncomputable def a7A (x : (⟨[.ptr 0 []], [.box a1C (.pair (.whole 1) (.pl .nil)), .row a0V]⟩ : Tm).D) : Option (⟨[.pl a0D, .pl .bool], [.box a1C (.pair (.whole 1) (.pl .nil)), .row a0V]⟩ : Tm).D :=
 let h0 : (Unit × Unit) := x.2.1
 let h1 : (List a0C) := x.2.2.1
 optF none (a4R ((),(((),h0.2),(h1,())))) fun y0 => brn y0.1.2.1 (optF none (a3X ((y0.2.2.1,()),())) fun y1 => brn (inB (I.sub y1.1.1 (I.of .i64 1)) (@lenL a0C y0.2.2.1)) (brn (inB (I.of .i64 0) (@lenL a0C y0.2.2.1)) (brn (inB (I.of .i64 0) (@lenL a0C y0.2.2.1)) (brn (inB (I.sub y1.1.1 (I.of .i64 1)) (@lenL a0C (@setL a0C y0.2.2.1 0 (@rdL a0C a0J y0.2.2.1 (I.nat (I.sub y1.1.1 (I.of .i64 1))))))) (iter none (fun x2 => brn (I.leb x2.1.2.2.1 (I.add (I.mul (I.of .i64 2) x2.1.2.2.2.1) (I.of .i64 1))) (.done (brn (inB (I.sub (I.ofNat .i64 (@lenL a0C x2.2.2.1)) (I.of .i64 1)) (@lenL a0C x2.2.2.1)) (brn (inB' (I.sub (I.ofNat .i64 (@lenL a0C x2.2.2.1)) (I.of .i64 1)) (@lenL a0C x2.2.2.1)) (some ((x2.2.2.2.2.1,(x2.1.2.2.2.2.2.1,())),(((),x2.2.1.2),((@subL a0C x2.2.2.1 0 (I.nat (I.sub (I.ofNat .i64 (@lenL a0C x2.2.2.1)) (I.of .i64 1)))),())))) none) none)) (brn (I.ltb (I.add (I.mul (I.of .i64 2) x2.1.2.2.2.1) (I.of .i64 1)) (I.of .i64 0)) (.done (brn (inB (I.sub (I.ofNat .i64 (@lenL a0C x2.2.2.1)) (I.of .i64 1)) (@lenL a0C x2.2.2.1)) (brn (inB' (I.sub (I.ofNat .i64 (@lenL a0C x2.2.2.1)) (I.of .i64 1)) (@lenL a0C x2.2.2.1)) (some ((x2.2.2.2.2.1,(x2.1.2.2.2.2.2.1,())),(((),x2.2.1.2),((@subL a0C x2.2.2.1 0 (I.nat (I.sub (I.ofNat .i64 (@lenL a0C x2.2.2.1)) (I.of .i64 1)))),())))) none) none)) (brn (I.ltb (I.add (I.add (I.mul (I.of .i64 2) x2.1.2.2.2.1) (I.of .i64 1)) (I.of .i64 1)) x2.1.2.2.1) (optF (.done none) (a1N ((x2.2.2.1,((I.add (I.add (I.mul (I.of .i64 2) x2.1.2.2.2.1) (I.of .i64 1)) (I.of .i64 1)),((I.add (I.mul (I.of .i64 2) x2.1.2.2.2.1) (I.of .i64 1)),()))),())) fun y3 => brn y3.1.1 (optF (.done none) (a1N ((x2.2.2.1,((I.add (I.add (I.mul (I.of .i64 2) x2.1.2.2.2.1) (I.of .i64 1)) (I.of .i64 1)),(x2.1.2.2.2.1,()))),())) fun y4 => brn (bnot y4.1.1) (.done (brn (inB (I.sub (I.ofNat .i64 (@lenL a0C x2.2.2.1)) (I.of .i64 1)) (@lenL a0C x2.2.2.1)) (brn (inB' (I.sub (I.ofNat .i64 (@lenL a0C x2.2.2.1)) (I.of .i64 1)) (@lenL a0C x2.2.2.1)) (some ((x2.2.2.2.2.1,(x2.1.2.2.2.2.2.1,())),(((),x2.2.1.2),((@subL a0C x2.2.2.1 0 (I.nat (I.sub (I.ofNat .i64 (@lenL a0C x2.2.2.1)) (I.of .i64 1)))),())))) none) none)) (brn (inB (I.add (I.add (I.mul (I.of .i64 2) x2.1.2.2.2.1) (I.of .i64 1)) (I.of .i64 1)) (@lenL a0C x2.2.2.1)) (brn (inB x2.1.2.2.2.1 (@lenL a0C x2.2.2.1)) (brn (inB x2.1.2.2.2.1 (@lenL a0C x2.2.2.1)) (brn (inB (I.add (I.add (I.mul (I.of .i64 2) x2.1.2.2.2.1) (I.of .i64 1)) (I.of .i64 1)) (@lenL a0C (@setL a0C x2.2.2.1 (I.nat x2.1.2.2.2.1) (@rdL a0C a0J x2.2.2.1 (I.nat (I.add (I.add (I.mul (I.of .i64 2) x2.1.2.2.2.1) (I.of .i64 1)) (I.of .i64 1))))))) (.again (((),(x2.1.2.1,(x2.1.2.2.1,((I.add (I.add (I.mul (I.of .i64 2) x2.1.2.2.2.1) (I.of .i64 1)) (I.of .i64 1)),((),(x2.1.2.2.2.2.2.1,())))))),(((),x2.2.1.2),((@setL a0C (@setL a0C x2.2.2.1 (I.nat x2.1.2.2.2.1) (@rdL a0C a0J x2.2.2.1 (I.nat (I.add (I.add (I.mul (I.of .i64 2) x2.1.2.2.2.1) (I.of .i64 1)) (I.of .i64 1))))) (I.nat (I.add (I.add (I.mul (I.of .i64 2) x2.1.2.2.2.1) (I.of .i64 1)) (I.of .i64 1))) (@rdL a0C a0J x2.2.2.1 (I.nat x2.1.2.2.2.1))),(x2.2.2.2.1,(x2.2.2.2.2.1,())))))) (.done none)) (.done none)) (.done none)) (.done none))) (optF (.done none) (a1N ((x2.2.2.1,((I.add (I.mul (I.of .i64 2) x2.1.2.2.2.1) (I.of .i64 1)),(x2.1.2.2.2.1,()))),())) fun y4 => brn (bnot y4.1.1) (.done (brn (inB (I.sub (I.ofNat .i64 (@lenL a0C x2.2.2.1)) (I.of .i64 1)) (@lenL a0C x2.2.2.1)) (brn (inB' (I.sub (I.ofNat .i64 (@lenL a0C x2.2.2.1)) (I.of .i64 1)) (@lenL a0C x2.2.2.1)) (some ((x2.2.2.2.2.1,(x2.1.2.2.2.2.2.1,())),(((),x2.2.1.2),((@subL a0C x2.2.2.1 0 (I.nat (I.sub (I.ofNat .i64 (@lenL a0C x2.2.2.1)) (I.of .i64 1)))),())))) none) none)) (brn (inB (I.add (I.mul (I.of .i64 2) x2.1.2.2.2.1) (I.of .i64 1)) (@lenL a0C x2.2.2.1)) (brn (inB x2.1.2.2.2.1 (@lenL a0C x2.2.2.1)) (brn (inB x2.1.2.2.2.1 (@lenL a0C x2.2.2.1)) (brn (inB (I.add (I.mul (I.of .i64 2) x2.1.2.2.2.1) (I.of .i64 1)) (@lenL a0C (@setL a0C x2.2.2.1 (I.nat x2.1.2.2.2.1) (@rdL a0C a0J x2.2.2.1 (I.nat (I.add (I.mul (I.of .i64 2) x2.1.2.2.2.1) (I.of .i64 1))))))) (.again (((),(x2.1.2.1,(x2.1.2.2.1,((I.add (I.mul (I.of .i64 2) x2.1.2.2.2.1) (I.of .i64 1)),((),(x2.1.2.2.2.2.2.1,())))))),(((),x2.2.1.2),((@setL a0C (@setL a0C x2.2.2.1 (I.nat x2.1.2.2.2.1) (@rdL a0C a0J x2.2.2.1 (I.nat (I.add (I.mul (I.of .i64 2) x2.1.2.2.2.1) (I.of .i64 1))))) (I.nat (I.add (I.mul (I.of .i64 2) x2.1.2.2.2.1) (I.of .i64 1))) (@rdL a0C a0J x2.2.2.1 (I.nat x2.1.2.2.2.1))),(x2.2.2.2.1,(x2.2.2.2.2.1,())))))) (.done none)) (.done none)) (.done none)) (.done none)))) (optF (.done none) (a1N ((x2.2.2.1,((I.add (I.mul (I.of .i64 2) x2.1.2.2.2.1) (I.of .i64 1)),(x2.1.2.2.2.1,()))),())) fun y3 => brn (bnot y3.1.1) (.done (brn (inB (I.sub (I.ofNat .i64 (@lenL a0C x2.2.2.1)) (I.of .i64 1)) (@lenL a0C x2.2.2.1)) (brn (inB' (I.sub (I.ofNat .i64 (@lenL a0C x2.2.2.1)) (I.of .i64 1)) (@lenL a0C x2.2.2.1)) (some ((x2.2.2.2.2.1,(x2.1.2.2.2.2.2.1,())),(((),x2.2.1.2),((@subL a0C x2.2.2.1 0 (I.nat (I.sub (I.ofNat .i64 (@lenL a0C x2.2.2.1)) (I.of .i64 1)))),())))) none) none)) (brn (inB (I.add (I.mul (I.of .i64 2) x2.1.2.2.2.1) (I.of .i64 1)) (@lenL a0C x2.2.2.1)) (brn (inB x2.1.2.2.2.1 (@lenL a0C x2.2.2.1)) (brn (inB x2.1.2.2.2.1 (@lenL a0C x2.2.2.1)) (brn (inB (I.add (I.mul (I.of .i64 2) x2.1.2.2.2.1) (I.of .i64 1)) (@lenL a0C (@setL a0C x2.2.2.1 (I.nat x2.1.2.2.2.1) (@rdL a0C a0J x2.2.2.1 (I.nat (I.add (I.mul (I.of .i64 2) x2.1.2.2.2.1) (I.of .i64 1))))))) (.again (((),(x2.1.2.1,(x2.1.2.2.1,((I.add (I.mul (I.of .i64 2) x2.1.2.2.2.1) (I.of .i64 1)),((),(x2.1.2.2.2.2.2.1,())))))),(((),x2.2.1.2),((@setL a0C (@setL a0C x2.2.2.1 (I.nat x2.1.2.2.2.1) (@rdL a0C a0J x2.2.2.1 (I.nat (I.add (I.mul (I.of .i64 2) x2.1.2.2.2.1) (I.of .i64 1))))) (I.nat (I.add (I.mul (I.of .i64 2) x2.1.2.2.2.1) (I.of .i64 1))) (@rdL a0C a0J x2.2.2.1 (I.nat x2.1.2.2.2.1))),(x2.2.2.2.1,(x2.2.2.2.2.1,())))))) (.done none)) (.done none)) (.done none)) (.done none)))))) K1 (((),(I.of .i64 0,((I.sub y1.1.1 (I.of .i64 1)),(I.of .i64 0,((),(y0.1.2.1,())))))),(((),y0.2.1.2),((@setL a0C (@setL a0C y0.2.2.1 0 (@rdL a0C a0J y0.2.2.1 (I.nat (I.sub y1.1.1 (I.of .i64 1))))) (I.nat (I.sub y1.1.1 (I.of .i64 1))) (@rdL a0C a0J y0.2.2.1 0)),(a0B,(y0.1.1,())))))) none) none) none) none) (some ((y0.1.1,(y0.1.2.1,())),(((),y0.2.1.2),(y0.2.2.1,()))))
theorem b4X : a2P = a7A := by
 funext x
 unfold a2P a7A
 rw [a5L]
 all_goals kernel_rfl
noncomputable def b5T (x : (⟨[.pl u256, .pl (.sl u256)], []⟩ : Tm).D) : Option (⟨[.pl u256], []⟩ : Tm).D :=
 let a : U := x.1.1
 let b : (List U) := x.1.2.1
 iter none (fun x0 => brn (I.ltb x0.1.2.2.1 x0.1.2.1) (brn (inB x0.1.2.2.1 (@lenL U x0.1.1)) (optF (.done none) (a3W (((@rdL U Z_U x0.1.1 (I.nat x0.1.2.2.1)),(x0.2.1,())),())) fun y1 => brn (I.ltb y1.1.1 (I.of .i64 0)) (.again ((x0.1.1,(x0.1.2.1,((I.add x0.1.2.2.1 (I.of .i64 1)),()))),((@rdL U Z_U x0.1.1 (I.nat x0.1.2.2.1)),(x0.2.2.1,())))) (.again ((x0.1.1,(x0.1.2.1,((I.add x0.1.2.2.1 (I.of .i64 1)),()))),(x0.2.1,(x0.2.2.1,()))))) (.done none)) (.done (some ((x0.2.1,()),())))) K1 ((b,((I.ofNat .i64 (@lenL U b)),(I.of .i64 0,()))),(a,(Z_U,())))
theorem c2D : b0F = b5T := by
 funext x
 unfold b0F b5T
 rw [a5L]
 all_goals kernel_rfl
noncomputable def b5Q (x : (⟨[.pl (.sl a0D), .pl u256], []⟩ : Tm).D) : Option (⟨[.pl (.sl a1D), .pl (.int .i64)], []⟩ : Tm).D :=
 let a : (List a0A) := x.1.1
 let b : U := x.1.2.1
 optF none (a5S ((a,()),())) fun y0 => brn (bnot y0.1.1) (some (([],(I.of .i64 2,())),())) (optF none (b3M ((a,()),())) fun y1 => optF none (a7A ((),(((),y1.2.1.2),(y1.2.2.1,())))) fun y2 => iter none (fun x3 => jn (fun (x4 : ((U × (U × (Bool × Unit))) × (U × ((List a0M) × ((Unit × Unit) × ((List a0C) × (a0A × Unit))))))) => optF (.done none) (b5T ((x4.2.2.2.2.2.1.2.1,((x4.2.1::[]),())),())) fun y5 => optF (.done none) (a2C ((x4.2.1,(y5.1.1,())),())) fun y6 => brn (a2L (@lenL a0M (@appL a0M x4.2.2.1 ((x4.2.2.2.2.2.1.1,(y5.1.1,()))::[])))) (optF (.done none) (a7A ((),(((),x4.2.2.2.1.2),(x4.2.2.2.2.1,())))) fun y7 => .again ((y7.1.2.1,()),(y6.1.1,((@appL a0M x4.2.2.1 ((x4.2.2.2.2.2.1.1,(y5.1.1,()))::[])),(((),y7.2.1.2),(y7.2.2.1,(y7.1.1,()))))))) (.done none)) fun j4 => brn x3.1.1 (brn (bnot (Ty.eqb u256 x3.2.1 Z_U)) (j4 ((x3.2.1,(Z_U,((bnot (Ty.eqb u256 x3.2.1 Z_U)),()))),(x3.2.1,(x3.2.2.1,(((),x3.2.2.2.1.2),(x3.2.2.2.2.1,(x3.2.2.2.2.2.1,()))))))) (.done (some ((x3.2.2.1,(I.of .i64 0,())),())))) (.done (some ((x3.2.2.1,(I.of .i64 0,())),())))) K1 ((y2.1.2.1,()),(b,([],(((),y2.2.1.2),(y2.2.2.1,(y2.1.1,())))))))
theorem c2C : b0I = b5Q := by
 funext x
 unfold b0I b5Q
 rw [a5L, a5W, b9D, b4X, c2D]
 all_goals kernel_rfl
noncomputable def b3G (x : (⟨[.pl (.sl a0D), .pl (.int .u64), .pl u256], []⟩ : Tm).D) : Option (⟨[.pl (.sl a0D), .pl (.int .i64)], []⟩ : Tm).D :=
 let a : (List a0A) := x.1.1
 let b : (I .u64) := x.1.2.1
 let c : U := x.1.2.2.1
 optF none (a9J ((a,(b,())),())) fun y0 => optF none (a5S ((a,()),())) fun y1 => brn (bnot y1.1.1) (some (([],(I.of .i64 2,())),())) (brn (I.ltb y0.1.1 (I.of .i64 0)) (some (([],(I.of .i64 8,())),())) (brn (inB y0.1.1 (@lenL a0A a)) (optF none (a8X (((@rdL a0A a0B a (I.nat y0.1.1)).2.1,(c,())),())) fun y2 => brn (I.neb y2.1.2.1 (I.of .i64 0)) (some (([],(I.of .i64 10,())),())) (optF none (a1V (((@rdL a0A a0B a (I.nat y0.1.1)).2.2.2.2.1,(c,())),())) fun y3 => brn (I.neb y3.1.2.1 (I.of .i64 0)) (some (([],(y3.1.2.1,())),())) (jn (fun (x4 : (((List a0A) × ((I .i64) × Unit)) × (a0A × Unit))) => optF none (a1Z ((x4.1.1,()),())) fun y5 => brn (inB x4.1.2.1 (@lenL a0A y5.2.1)) (some (((@setL a0A y5.2.1 (I.nat x4.1.2.1) x4.2.1),(I.of .i64 0,())),())) none) fun j4 => optF none (a4K ((y2.1.1,()),())) fun y5 => brn y5.1.1 (j4 ((a,(y0.1.1,())),(((@rdL a0A a0B a (I.nat y0.1.1)).1,(y2.1.1,((@rdL a0A a0B a (I.nat y0.1.1)).2.2.1,((@rdL a0A a0B a (I.nat y0.1.1)).2.2.2.1,(y3.1.1,(I.of .u64 0,(@rdL a0A a0B a (I.nat y0.1.1)).2.2.2.2.2.2)))))),()))) (j4 ((a,(y0.1.1,())),(((@rdL a0A a0B a (I.nat y0.1.1)).1,(y2.1.1,((@rdL a0A a0B a (I.nat y0.1.1)).2.2.1,((@rdL a0A a0B a (I.nat y0.1.1)).2.2.2.1,(y3.1.1,(@rdL a0A a0B a (I.nat y0.1.1)).2.2.2.2.2))))),())))))) none))
theorem b9U : a8A = b3G := by
 funext x
 unfold a8A b3G
 rw [b0D, a5W, a2I]
 all_goals kernel_rfl
noncomputable def b4A (x : (⟨[.pl (.sl a0D), .pl (.sl a1D)], []⟩ : Tm).D) : Option (⟨[.pl (.sl a0D), .pl (.int .i64)], []⟩ : Tm).D :=
 let a : (List a0A) := x.1.1
 let b : (List a0M) := x.1.2.1
 optF none (a1Z ((a,()),())) fun y0 => iter none (fun x1 => brn (I.ltb x1.1.2.2.2.1 x1.1.2.2.1) (brn (inB x1.1.2.2.2.1 (@lenL a0M x1.1.2.1)) (optF (.done none) (b3G ((x1.1.1,((@rdL a0M a1T x1.1.2.1 (I.nat x1.1.2.2.2.1)).1,((@rdL a0M a1T x1.1.2.1 (I.nat x1.1.2.2.2.1)).2.1,()))),())) fun y2 => brn (I.neb y2.1.2.1 (I.of .i64 0)) (.done (some (([],(y2.1.2.1,())),()))) (.again ((y2.1.1,(x1.1.2.1,(x1.1.2.2.1,((I.add x1.1.2.2.2.1 (I.of .i64 1)),())))),()))) (.done none)) (.done (some ((x1.1.1,(I.of .i64 0,())),())))) K1 ((y0.2.1,(b,((I.ofNat .i64 (@lenL a0M b)),(I.of .i64 0,())))),())
theorem c0V : a9B = b4A := by
 funext x
 unfold a9B b4A
 rw [a5L, a2I, b9U]
 all_goals kernel_rfl
noncomputable def b6S (x : (⟨[.pl (.sl a1D)], []⟩ : Tm).D) : Option (⟨[.pl u256, .pl (.int .i64)], []⟩ : Tm).D :=
 let a : (List a0M) := x.1.1
 iter none (fun x0 => brn (I.ltb x0.1.2.2.1 x0.1.2.1) (brn (inB x0.1.2.2.1 (@lenL a0M x0.1.1)) (optF (.done none) (a1V ((x0.2.2.1,((@rdL a0M a1T x0.1.1 (I.nat x0.1.2.2.1)).2.1,())),())) fun y1 => brn (I.neb y1.1.2.1 (I.of .i64 0)) (.done (some ((Z_U,(y1.1.2.1,())),()))) (.again ((x0.1.1,(x0.1.2.1,((I.add x0.1.2.2.1 (I.of .i64 1)),()))),(x0.2.1,(y1.1.1,()))))) (.done none)) (.done (some ((x0.2.2.1,(I.of .i64 0,())),())))) K1 ((a,((I.ofNat .i64 (@lenL a0M a)),(I.of .i64 0,()))),(Z_U,(Z_U,())))
theorem c3K : b1O = b6S := by
 funext x
 unfold b1O b6S
 rw [a5L]
 all_goals kernel_rfl
noncomputable def b1N (x : (⟨[.pl (.sl a0D)], []⟩ : Tm).D) : Option (⟨[.pl u256, .pl (.int .i64)], []⟩ : Tm).D :=
 let a : (List a0A) := x.1.1
 optF none (a5S ((a,()),())) fun y0 => brn (bnot y0.1.1) (some ((Z_U,(I.of .i64 2,())),())) (iter none (fun x1 => brn (I.ltb x1.1.2.2.1 x1.1.2.1) (brn (inB x1.1.2.2.1 (@lenL a0A x1.1.1)) (optF (.done none) (a1V ((x1.2.2.1,((@rdL a0A a0B x1.1.1 (I.nat x1.1.2.2.1)).2.1,())),())) fun y2 => brn (I.neb y2.1.2.1 (I.of .i64 0)) (.done (some ((Z_U,(y2.1.2.1,())),()))) (.again ((x1.1.1,(x1.1.2.1,((I.add x1.1.2.2.1 (I.of .i64 1)),()))),(x1.2.1,(y2.1.1,()))))) (.done none)) (.done (some ((x1.2.2.1,(I.of .i64 0,())),())))) K1 ((a,((I.ofNat .i64 (@lenL a0A a)),(I.of .i64 0,()))),(Z_U,(Z_U,()))))
theorem b7R : a6J = b1N := by
 funext x
 unfold a6J b1N
 rw [a5L, a5W]
 all_goals kernel_rfl
noncomputable def b3P (x : (⟨[.pl u256, .pl u256], []⟩ : Tm).D) : Option (⟨[.pl u256, .pl u256, .pl (.int .i64)], []⟩ : Tm).D :=
 let a : U := x.1.1
 let b : U := x.1.2.1
 optF none (b0W ((a,(Z_U,(b,()))),())) fun y0 => some ((y0.1.1,(y0.1.2.1,(y0.1.2.2.1,()))),())
theorem b9Y : a8B = b3P := by
 funext x
 unfold a8B b3P
 rw [b3W]
 all_goals kernel_rfl
noncomputable def a7R (x : (⟨[.pl a0F, .pl u256], []⟩ : Tm).D) : Option (⟨[.pl a0F, .pl (.int .i64)], []⟩ : Tm).D :=
 let a : a2G := x.1.1
 let b : U := x.1.2.1
 optF none (a1S ((a,()),())) fun y0 => brn (bnot y0.1.1) (some ((a0N,(I.of .i64 2,())),())) (optF none (b3P ((a.2.1,(b,())),())) fun y1 => brn (I.neb y1.1.2.2.1 (I.of .i64 0)) (some ((a0N,(y1.1.2.2.1,())),())) (jn (fun (x2 : ((Bool × Unit) × (a2G × (a2G × (U × Unit))))) => brn x2.1.1 (optF none (a0L ((I.of .u64 1,()),())) fun y3 => optF none (a1V ((x2.2.2.2.1,(y3.1.1,())),())) fun y4 => optF none (a5B ((x2.2.1.1,(y4.1.1,())),())) fun y5 => some ((y5.1.1,(I.of .i64 0,())),())) (optF none (a5B ((x2.2.1.1,(x2.2.2.2.1,())),())) fun y3 => some ((y3.1.1,(I.of .i64 0,())),()))) fun j2 => brn a.1 (j2 (((bnot (Ty.eqb u256 y1.1.2.1 Z_U)),()),(a,(a0N,(y1.1.1,()))))) (j2 ((false,()),(a,(a0N,(y1.1.1,())))))))
theorem b7W : a3F = a7R := by
 funext x
 unfold a3F a7R
 rw [b9Y]
 all_goals kernel_rfl
noncomputable def b7B (x : (⟨[.pl a0F, .pl a0F], []⟩ : Tm).D) : Option (⟨[.pl a0F, .pl (.int .i64)], []⟩ : Tm).D :=
 let a : a2G := x.1.1
 let b : a2G := x.1.2.1
 jn (fun (x0 : (Unit × (a2G × (a2G × (a2G × Unit))))) => optF none (b2W ((x0.2.1.2.1,(x0.2.2.1.2.1,())),())) fun y1 => brn (I.neb y1.1.2.1 (I.of .i64 0)) (some ((a0N,(y1.1.2.1,())),())) (optF none (a5B (((bnot (Ty.eqb .bool x0.2.1.1 x0.2.2.1.1)),(y1.1.1,())),())) fun y2 => some ((y2.1.1,(I.of .i64 0,())),()))) fun j0 => optF none (a1S ((a,()),())) fun y1 => brn (bnot y1.1.1) (some ((a0N,(I.of .i64 2,())),())) (optF none (a1S ((b,()),())) fun y2 => brn (bnot y2.1.1) (some ((a0N,(I.of .i64 2,())),())) (j0 ((),(a,(b,(a0N,()))))))
theorem c3R : a9I = b7B := by
 funext x
 unfold a9I b7B
 rw [b5Z]
 all_goals kernel_rfl
noncomputable def b3O (x : (⟨[.pl a0F, .pl a0F, .pl (.int .u64), .pl a0K], []⟩ : Tm).D) : Option (⟨[.pl a0F, .pl (.int .i64)], []⟩ : Tm).D :=
 let a : a2G := x.1.1
 let b : a2G := x.1.2.1
 let c : (I .u64) := x.1.2.2.1
 let d : a1R := x.1.2.2.2.1
 jn (fun (x0 : (((I .u64) × Unit) × (a2G × (a2G × (a1R × (a2G × Unit)))))) => optF none (b0Q ((x0.2.1,()),())) fun y1 => optF none (a0L ((x0.2.2.2.1.2.2.2.2.2.2.2.2.1,()),())) fun y2 => optF none (a7R ((y1.1.1,(y2.1.1,())),())) fun y3 => optF none (a8M ((x0.2.1,(x0.2.2.1,())),())) fun y4 => brn (I.neb y4.1.2.1 (I.of .i64 0)) (some ((a0N,(y4.1.2.1,())),())) (optF none (a0L ((x0.1.1,()),())) fun y5 => optF none (a7R ((y4.1.1,(y5.1.1,())),())) fun y6 => optF none (a8M ((y3.1.1,(y6.1.1,())),())) fun y7 => brn (I.neb y7.1.2.1 (I.of .i64 0)) (some ((a0N,(y7.1.2.1,())),())) (optF none (a0L ((x0.1.1,()),())) fun y8 => optF none (b7B ((y7.1.1,((false,(y8.1.1,())),())),())) fun y9 => brn (I.neb y9.1.2.1 (I.of .i64 0)) (some ((a0N,(y9.1.2.1,())),())) (brn (I.nz x0.2.2.2.1.2.2.2.2.2.2.2.2.2.1) (optF none (a0L (((I.quo x0.2.2.2.1.2.2.2.2.2.2.2.2.1 x0.2.2.2.1.2.2.2.2.2.2.2.2.2.1),()),())) fun y10 => optF none (a0L ((x0.1.1,()),())) fun y11 => optF none (a2A ((y10.1.1,(y11.1.1,())),())) fun y12 => optF none (a7R ((y9.1.1,(y12.1.1,())),())) fun y13 => some ((y13.1.1,(y13.1.2.1,())),())) none)))) fun j0 => optF none (a9Y ((d,()),())) fun y1 => brn (bnot y1.1.1) (some ((a0N,(I.of .i64 15,())),())) (optF none (a1S ((a,()),())) fun y2 => brn (bnot y2.1.1) (some ((a0N,(I.of .i64 2,())),())) (optF none (a1S ((b,()),())) fun y3 => brn (bnot y3.1.1) (some ((a0N,(I.of .i64 2,())),())) (brn (I.eqb c (I.of .u64 0)) (some ((a0N,(I.of .i64 2,())),())) (j0 ((c,()),(a,(b,(d,(a0N,())))))))))
theorem b9R : a7V = b3O := by
 funext x
 unfold a7V b3O
 rw [b1K, b7W, c3R]
 all_goals kernel_rfl
noncomputable def b3Z (x : (⟨[.pl u256, .pl a0F, .pl a0F, .pl (.int .u64), .pl a0K], []⟩ : Tm).D) : Option (⟨[.pl u256, .pl (.int .i64)], []⟩ : Tm).D :=
 let a : U := x.1.1
 let b : a2G := x.1.2.1
 let c : a2G := x.1.2.2.1
 let d : (I .u64) := x.1.2.2.2.1
 let e : a1R := x.1.2.2.2.2.1
 jn (fun (x0 : (((I .u64) × Unit) × (U × (a2G × (a2G × (a1R × (U × Unit))))))) => optF none (b3O ((x0.2.2.1,(x0.2.2.2.1,(x0.1.1,(x0.2.2.2.2.1,())))),())) fun y1 => brn (I.neb y1.1.2.1 (I.of .i64 0)) (some ((Z_U,(y1.1.2.1,())),())) (optF none (a5Y ((x0.2.1,(y1.1.1,())),())) fun y2 => some ((y2.1.1,(y2.1.2.1,())),()))) fun j0 => optF none (a9Y ((e,()),())) fun y1 => brn (bnot y1.1.1) (some ((Z_U,(I.of .i64 15,())),())) (jn (fun (x2 : (((I .u64) × (Bool × Unit)) × (U × (a2G × (a2G × (a1R × (U × Unit))))))) => brn x2.1.2.1 (some ((Z_U,(I.of .i64 2,())),())) (brn (I.eqb x2.1.1 (I.of .u64 0)) (some ((x2.2.1,(I.of .i64 0,())),())) (j0 ((x2.1.1,()),(x2.2.1,(x2.2.2.1,(x2.2.2.2.1,(x2.2.2.2.2.1,(x2.2.2.2.2.2.1,()))))))))) fun j2 => optF none (a1S ((b,()),())) fun y3 => brn (bnot y3.1.1) (j2 ((d,(true,())),(a,(b,(c,(e,(Z_U,()))))))) (optF none (a1S ((c,()),())) fun y4 => j2 ((d,((bnot y4.1.1),())),(a,(b,(c,(e,(Z_U,()))))))))
theorem c1B : a9A = b3Z := by
 funext x
 unfold a9A b3Z
 rw [b1K, b9R]
 all_goals kernel_rfl
noncomputable def b3I (x : (⟨[.pl a0E, .pl a0K, .pl u256, .pl a0O], []⟩ : Tm).D) : Option (⟨[.pl a0E, .pl (.int .i64)], []⟩ : Tm).D :=
 let a : a0R := x.1.1
 let b : a1R := x.1.2.1
 let c : U := x.1.2.2.1
 let d : a1L := x.1.2.2.2.1
 optF none (b6S ((d.2.2.1,()),())) fun y0 => brn (I.neb y0.1.2.1 (I.of .i64 0)) (some (((Z_U,(I.of .u64 0,(I.of .u64 0,(I.of .u64 0,(a0N,([],())))))),(y0.1.2.1,())),())) (optF none (b1N ((a.2.2.2.2.2.1,()),())) fun y1 => brn (I.neb y1.1.2.1 (I.of .i64 0)) (some (((Z_U,(I.of .u64 0,(I.of .u64 0,(I.of .u64 0,(a0N,([],())))))),(y1.1.2.1,())),())) (brn (I.eqb d.1 (I.of .u64 0)) (some ((a,(I.of .i64 0,())),())) (optF none (a2C ((c,(y0.1.1,())),())) fun y2 => optF none (a7S ((y2.1.1,(y1.1.1,())),())) fun y3 => optF none (b3Z ((a.1,(y3.1.1,(a.2.2.2.2.1,(d.1,(b,()))))),())) fun y4 => brn (I.neb y4.1.2.1 (I.of .i64 0)) (some (((Z_U,(I.of .u64 0,(I.of .u64 0,(I.of .u64 0,(a0N,([],())))))),(y4.1.2.1,())),())) (some (((y4.1.1,(a.2.1,(a.2.2.1,(a.2.2.2.1,(y3.1.1,a.2.2.2.2.2))))),(I.of .i64 0,())),())))))
theorem b8X : a7Z = b3I := by
 funext x
 unfold a7Z b3I
 rw [c3K, b7R, c1B]
 all_goals kernel_rfl
noncomputable def b1C (x : (⟨[.pl a0E, .pl a0K, .pl u256, .pl a1B, .pl (.int .u64)], []⟩ : Tm).D) : Option (⟨[.pl a0E, .pl a0O, .pl (.int .i64)], []⟩ : Tm).D :=
 let a : a0R := x.1.1
 let b : a1R := x.1.2.1
 let c : U := x.1.2.2.1
 let d : a1U := x.1.2.2.2.1
 let e : (I .u64) := x.1.2.2.2.2.1
 optF none (a9Q ((a,(b,(d,(e,())))),())) fun y0 => brn (I.neb y0.1.1 (I.of .i64 0)) (some (((Z_U,(I.of .u64 0,(I.of .u64 0,(I.of .u64 0,(a0N,([],())))))),((I.of .u64 0,(Z_U,([],()))),(y0.1.1,()))),())) (optF none (b1Q ((a,(b,(d,(e,())))),())) fun y1 => jn (fun (x2 : (((I .i64) × Unit) × (a0R × (a1R × (U × (a1U × (a0R × (a1L × (a1L × Unit))))))))) => jn (fun (x3 : (((I .i64) × Unit) × (a0R × (a1R × (U × (a1U × (a0R × (a1L × (a1L × Unit))))))))) => jn (fun (x4 : (((I .i64) × Unit) × (a0R × (a1R × (U × (a1U × (a0R × (a1L × (a1L × Unit))))))))) => jn (fun (x5 : (((I .i64) × Unit) × (a0R × (a1U × (a0R × (a1L × (a1L × Unit))))))) => brn (I.neb x5.1.1 (I.of .i64 0)) (some (((Z_U,(I.of .u64 0,(I.of .u64 0,(I.of .u64 0,(a0N,([],())))))),((I.of .u64 0,(Z_U,([],()))),(x5.1.1,()))),())) (some (((x5.2.1.1,((I.sub x5.2.1.2.1 x5.2.2.2.2.2.1.1),(x5.2.2.1.2.1,x5.2.1.2.2.2))),(x5.2.2.2.2.2.1,(I.of .i64 0,()))),()))) fun j5 => brn (I.eqb x4.1.1 (I.of .i64 0)) (optF none (b3I ((x4.2.1,(x4.2.2.1,(x4.2.2.2.1,(x4.2.2.2.2.2.2.2.1,())))),())) fun y6 => j5 ((y6.1.2.1,()),(y6.1.1,(x4.2.2.2.2.1,(x4.2.2.2.2.2.1,(x4.2.2.2.2.2.2.1,(x4.2.2.2.2.2.2.2.1,()))))))) (j5 ((x4.1.1,()),(x4.2.1,(x4.2.2.2.2.1,(x4.2.2.2.2.2.1,(x4.2.2.2.2.2.2.1,(x4.2.2.2.2.2.2.2.1,())))))))) fun j4 => brn (I.eqb x3.1.1 (I.of .i64 0)) (optF none (b4A ((x3.2.1.2.2.2.2.2.1,(x3.2.2.2.2.2.2.2.1.2.2.1,())),())) fun y5 => j4 ((y5.1.2.1,()),((x3.2.1.1,(x3.2.1.2.1,(x3.2.1.2.2.1,(x3.2.1.2.2.2.1,(x3.2.1.2.2.2.2.1,(y5.1.1,x3.2.1.2.2.2.2.2.2)))))),(x3.2.2.1,(x3.2.2.2.1,(x3.2.2.2.2.1,(x3.2.2.2.2.2.1,(x3.2.2.2.2.2.2.1,(x3.2.2.2.2.2.2.2.1,()))))))))) (j4 ((x3.1.1,()),(x3.2.1,(x3.2.2.1,(x3.2.2.2.1,(x3.2.2.2.2.1,(x3.2.2.2.2.2.1,(x3.2.2.2.2.2.2.1,(x3.2.2.2.2.2.2.2.1,())))))))))) fun j3 => brn (I.eqb x2.1.1 (I.of .i64 0)) (optF none (b5Q ((x2.2.1.2.2.2.2.2.1,(x2.2.2.2.1,())),())) fun y4 => j3 ((y4.1.2.1,()),(x2.2.1,(x2.2.2.1,(x2.2.2.2.1,(x2.2.2.2.2.1,(x2.2.2.2.2.2.1,(x2.2.2.2.2.2.2.1,((x2.2.2.2.2.2.2.2.1.1,(x2.2.2.2.2.2.2.2.1.2.1,(y4.1.1,x2.2.2.2.2.2.2.2.1.2.2.2))),()))))))))) (j3 ((x2.1.1,()),(x2.2.1,(x2.2.2.1,(x2.2.2.2.1,(x2.2.2.2.2.1,(x2.2.2.2.2.2.1,(x2.2.2.2.2.2.2.1,(x2.2.2.2.2.2.2.2.1,())))))))))) fun j2 => brn (I.eqb y1.1.2.1 (I.of .i64 0)) (optF none (b3Q ((a.2.2.2.2.2.1,(d.1,(d.2.2.1,(y1.1.1.2.1,((I.add a.2.2.2.1 (I.of .u64 1)),()))))),())) fun y3 => j2 ((y3.1.2.1,()),((a.1,(a.2.1,(a.2.2.1,((I.add a.2.2.2.1 (I.of .u64 1)),(a.2.2.2.2.1,(y3.1.1,a.2.2.2.2.2.2)))))),(b,(c,(d,((Z_U,(I.of .u64 0,(I.of .u64 0,(I.of .u64 0,(a0N,([],())))))),((I.of .u64 0,(Z_U,([],()))),(y1.1.1,()))))))))) (j2 ((y1.1.2.1,()),(a,(b,(c,(d,((Z_U,(I.of .u64 0,(I.of .u64 0,(I.of .u64 0,(a0N,([],())))))),((I.of .u64 0,(Z_U,([],()))),(y1.1.1,()))))))))))
theorem b9S : a5R = b1C := by
 funext x
 unfold a5R b1C
 rw [b5R, b7T, b9E, c2C, c0V, b8X]
 all_goals kernel_rfl
noncomputable def b2Q (x : (⟨[], []⟩ : Tm).D) : Option (⟨[.pl .bool], []⟩ : Tm).D :=
 optF none (a7G ((),())) fun y0 => optF none (b0Y ((y0.1.1,(I.of .u64 7,())),())) fun y1 => optF none (a5E ((),())) fun y2 => optF none (b1C ((y1.1.1,(y2.1.1,((I.of .u64 20,(I.of .u64 0,(I.of .u64 0,(I.of .u64 0,())))),((I.of .u64 7,(I.of .u64 0,((I.of .u64 50,(I.of .u64 0,(I.of .u64 0,(I.of .u64 0,())))),()))),(I.of .u64 0,()))))),())) fun y3 => optF none (a5E ((),())) fun y4 => optF none (b1C ((y1.1.1,(y4.1.1,((I.of .u64 20,(I.of .u64 0,(I.of .u64 0,(I.of .u64 0,())))),((I.of .u64 8,a1T),(I.of .u64 0,()))))),())) fun y5 => brn (I.eqb y1.1.2.1 (I.of .i64 0)) (brn (I.eqb y3.1.2.2.1 (I.of .i64 0)) (brn (I.eqb y5.1.2.2.1 (I.of .i64 8)) (brn (I.eqb (I.ofNat .i64 (@lenL a0M y3.1.2.1.2.2.1)) (I.of .i64 1)) (brn (inB (I.of .i64 0) (@lenL a0M y3.1.2.1.2.2.1)) (brn (Ty.eqb a1D (@rdL a0M a1T y3.1.2.1.2.2.1 0) (I.of .u64 7,((I.of .u64 20,(I.of .u64 0,(I.of .u64 0,(I.of .u64 0,())))),()))) (brn (I.eqb (I.ofNat .i64 (@lenL a0A y3.1.1.2.2.2.2.2.1)) (I.of .i64 1)) (brn (inB (I.of .i64 0) (@lenL a0A y3.1.1.2.2.2.2.2.1)) (some (((Ty.eqb u256 (@rdL a0A a0B y3.1.1.2.2.2.2.2.1 0).2.1 (I.of .u64 30,(I.of .u64 0,(I.of .u64 0,(I.of .u64 0,()))))),()),())) none) (some ((false,()),()))) (some ((false,()),()))) none) (some ((false,()),()))) (some ((false,()),()))) (some ((false,()),()))) (some ((false,()),()))
theorem b5I : a4Q = b2Q := by
 funext x
 unfold a4Q b2Q
 rw [b6Q, b9S]
 all_goals kernel_rfl
theorem d8G : a4Q ((), ()) = some ((true, ()), ()) := by
 rw [b5I]
 kernel_rfl
end Sym

/- Pricer: the calls that the laws make; a report exhausts the pool. -/
namespace Sym
open Go
abbrev CT : Type := a1E
abbrev CT.units (e : CT) : I .u64 := e.2.2.1
abbrev CT.pool (e : CT) : U := e.2.2.2.1
abbrev CT.rep (e : CT) : RepT := e.2.2.2.2.1
abbrev CT.wait (e : CT) : I .u64 := e.2.2.2.2.2.1
noncomputable abbrev dC : CT := a2N
theorem rem_nat' (a b : I .u64) (hb : b.nat ≠ 0) : (I.rem a b).nat = a.nat % b.nat := by
 have := a0Z a
 have := a0Z b
 have h := d3Y (a := a) (b := b) (by omega)
 have := a0Z (I.rem a b)
 have e : a.val % b.val = ((a.nat % b.nat : Nat) : Int) := by rw [Int.natCast_emod]; congr 1 <;> omega
 omega
theorem add_nat' (a b : I .u64) (h : a.nat + b.nat < 18446744073709551616) : (I.add a b).nat = a.nat + b.nat := by
 have := a0Z a
 have := a0Z b
 have := d2T (a := a) (b := b) (by omega)
 have := a0Z (I.add a b)
 omega
noncomputable def prJ (n : Nat) : PrT := ((I.of .u64 1000000000, (I.of .u64 0, (I.of .u64 0, (I.of .u64 0, ())))), (I.of .u64 0, (I.of .u64 0, (I.of .u64 0, (a0N, ((List.range n).map fun k => newP (I.of .u64 ((k + 1 : Nat) : Int)), ()))))))
theorem e5T : a7G ((), ()) = some ((prJ 0, ()), ()) := rfl
theorem clock {now : I .u64} {i : Nat} (h : now.nat ≤ 50 * i) (hi : i ≤ 40) (w : I .u64) : (I.add now (I.rem w (I.of .u64 50))).nat ≤ 50 * (i + 1) ∧ now.nat ≤ (I.add now (I.rem w (I.of .u64 50))).nat := by
 have hw : (I.rem w (I.of .u64 50)).nat < 50 := by
  rw [rem_nat' _ _ (by decide), show (I.of .u64 50).nat = 50 from rfl]; exact Nat.mod_lt _ (by decide)
 rw [add_nat' _ _ (by omega)]
 omega
end Sym

/- Pricer: no unit is lost; the order of errors. -/
namespace Sym
open Go
end Sym

/- Pricer: when a report is accepted. -/
namespace Sym
open Go
def M107 : Nat := 2 ^ 107
def M131 : Nat := 2 ^ 131
end Sym

/- Pricer: the accounts of reports. -/
namespace Sym
open Go
def M101 : Nat := 2 ^ 101
structure AInv (i : Nat) (s : PrT) (now : I .u64) : Prop where
 v : prV s = true
 t : s.last.nat ≤ now.nat
 rp : s.reports.nat ≤ i
 len : s.posters.length = 5
 ad : ∀ k, k < 5 → (Post.addr (rdL dP s.posters k)).nat = k + 1
 due : sumN (s.posters.map dueN) ≤ i * M101
 cst : ∀ q ∈ s.posters, (Post.costs q).val ≤ i * M101 ∧ (Post.rewards q).val ≤ i * M101
 sur : s.surplus.int.natAbs ≤ M107
 pr : s.price.val ≤ 1073741824 + i * M131
end Sym

/- Pricer: a report's accounts, the law. -/
namespace Sym
open Go
structure AccOut (s2 : PrT) (p : Prm) (pool : U) (r : RepT) (x : PrT) (t : OutT) (k : Nat) (tot : U) : Prop where
 pl : t.2.2.1.length ≤ 1073741824
 ps : sumN (t.2.2.1.map amt) < U.top
 a1 : a2A ((U.of (sumN (s2.posters.map dueN)), (r.cost, ())), ()) = some ((U.of (sumN (s2.posters.map dueN) + r.cost.val), ()), ())
 a2 : a2A ((U.of (sumN (s2.posters.map dueN) + r.cost.val), (t.2.1, ())), ()) = some ((tot, ()), ())
 a3 : a2A ((U.of (sumN (x.posters.map dueN)), (U.of (sumN (t.2.2.1.map amt)), ())), ()) = some ((tot, ()), ())
 m : b6F ((p.rpu, ((t.1, (I.of .u64 0, (I.of .u64 0, (I.of .u64 0, ())))), ())), ()) = some ((t.2.1, ()), ())
 fnd : a5Q ((x.posters, (r.from', ())), ()) = some ((i6 k, ()), ())
 k1 : k < s2.posters.length
 k2 : k < x.posters.length
 k3 : k < 64
 un : x.units.val = (I.sub s2.units t.1).val
 la : x.last.val = r.upto.val
 rp : x.reports.val = (I.add s2.reports (I.of .u64 1)).val
 b3 : a2A ((Post.costs (rdL dP s2.posters k), (r.cost, ())), ()) = some ((Post.costs (rdL dP x.posters k), ()), ())
 b4 : a2A ((Post.rewards (rdL dP s2.posters k), (t.2.1, ())), ()) = some ((Post.rewards (rdL dP x.posters k), ()), ())
end Sym

/- Pricer: the reference's parts. -/
namespace Sym
open Go
theorem e2G {n i : Nat} : n % 2 ^ (i + 1) = n % 2 ^ i + 2 ^ i * (n / 2 ^ i % 2) := by
 rw [Nat.pow_succ, Nat.mod_mul]
theorem Bits.top {m i : Nat} (h1 : 2 ^ i ≤ m) (h2 : m < 2 ^ (i + 1)) : Bits m (i + 1) := by
 intro k
 constructor
 ·
  intro h; exact Nat.lt_of_lt_of_le h2 (Nat.pow_le_pow_right (by decide) h)
 ·
  intro h
  refine Classical.byContradiction fun hk => ?_
  have : 2 ^ k ≤ 2 ^ i := Nat.pow_le_pow_right (by decide) (by omega)
  omega
theorem d7N (a : U) : ∃ y, a6R ((a, ()), ()) = some y ∧ ∃ k, y = ((i6 k, ()), ()) ∧ Bits a.val k ∧ k ≤ 256 := by
 refine Wp.out (T := fun o => ∃ y, o = some y ∧ ∃ k, y = ((i6 k, ()), ()) ∧ Bits a.val k ∧ k ≤ 256) ?_
 unfold a6R
 have e256 : I.of .i64 256 = i6 256 := rfl
 have e64 : I.of .i64 64 = i6 64 := rfl
 simp only [a8E, a8G, e256, e64]
 refine Wp.iter (fun s => ∃ i n, s = ((i6 n, (i6 i, ())), (a, ())) ∧ i ≤ 256 ∧ n ≤ i ∧ Bits (a.val % 2 ^ i) n) (fun s => 256 - s.1.2.1.val.toNat) ?_ ⟨0, 0, rfl, by omega, by omega, by rw [Nat.pow_zero, Nat.mod_one]; exact Bits.zero⟩ (by rw [a5L]; show 256 - _ < _; omega)
 rintro s ⟨i, n, rfl, hi, hn, hB⟩
 simp only [a5T (show i < 9223372036854775808 by omega) (show 256 < 9223372036854775808 by omega), a6H (show i + 1 < 9223372036854775808 by omega)]
 refine Wp.brn (fun hc => ?_) (fun hc => ?_)
 ·
  have hc := of_decide_eq_true hc
  have hm : 256 - (i6 (i + 1)).val.toNat < 256 - (i6 i).val.toNat := by rw [a0Y (by omega), a0Y (by omega)]; omega
  have hq : I.quo (i6 i) (i6 64) = i6 (i / 64) := by
   apply I.ext'
   rw [c1K (by rw [a0Y (by omega)]; omega) (by rw [a0Y (by omega)]; omega), a0Y (by omega), a0Y (by omega), a0Y (by omega)]
   omega
  have hr : I.rem (i6 i) (i6 64) = i6 (i % 64) := by
   apply I.ext'
   rw [c3J (by rw [a0Y (by omega)]; omega) (by rw [a0Y (by omega)]; omega), a0Y (by omega), a0Y (by omega), a0Y (by omega)]
   omega
  have hcv : (I.conv (k := .i64) .u64 (i6 (i % 64))).val = ((i % 64 : Nat) : Int) := by
   show (I.of .u64 (i6 (i % 64)).val).val = _
   rw [a0Y (by omega), b2F (by omega)]
  have hcn : (I.conv (k := .i64) .u64 (i6 (i % 64))).nat = i % 64 := by
   have := a0Z (I.conv (k := .i64) .u64 (i6 (i % 64)))
   omega
  simp only [hq, hr, a3L (show i / 64 < 9223372036854775808 by omega)]
  refine Wp.brnT (a3K (by omega) (by omega)) (Wp.brnT (iff_nn.2 (by rw [hcv]; omega)) ?_)
  have hsh : (I.shr (Arr.sel (I.of .u64 0) 4 a (i / 64)) (I.conv (k := .i64) .u64 (i6 (i % 64)))).nat = limb' a (i / 64) / 2 ^ (i % 64) := by
   have h := d3K (Arr.sel (I.of .u64 0) 4 a (i / 64)) (I.conv (k := .i64) .u64 (i6 (i % 64))) (by rw [hcn]; omega)
   rw [hcn] at h
   exact h
  have hb : (I.and (I.shr (Arr.sel (I.of .u64 0) 4 a (i / 64)) (I.conv (k := .i64) .u64 (i6 (i % 64)))) (I.of .u64 1)).nat = a.val / 2 ^ i % 2 := by
   rw [d2B _ 1 _ (by decide) (by rfl), hsh, e6M a i (by omega)]
  have hs := e2G (n := a.val) (i := i)
  have hlt : a.val % 2 ^ i < 2 ^ i := Nat.mod_lt _ (Nat.pow_pos (by decide))
  rw [b4C, hb, show (I.of .u64 1).nat = 1 from rfl]
  refine Wp.brn (fun h => ?_) (fun h => ?_)
  ·
   have h := of_decide_eq_true h
   rw [h, Nat.mul_one] at hs
   refine Wp.again ⟨i + 1, i + 1, rfl, by omega, by omega, ?_⟩ hm
   exact Bits.top (by rw [hs]; omega) (by rw [hs, Nat.pow_succ]; omega)
  ·
   have h := of_decide_eq_false h
   have h0 : a.val / 2 ^ i % 2 = 0 := by omega
   rw [h0, Nat.mul_zero, Nat.add_zero] at hs
   exact Wp.again ⟨i + 1, n, rfl, by omega, by omega, by rw [hs]; exact hB⟩ hm
 ·
  have hc := of_decide_eq_false hc
  have hi' : i = 256 := by omega
  subst hi'
  have ha := a.lt
  rw [d3H] at ha
  rw [Nat.mod_eq_of_lt ha] at hB
  exact Wp.done ⟨_, rfl, n, rfl, hB, hn⟩
theorem d6W (a b : U) : a7C ((a, (b, ())), ()) = some (((errS (a.val * b.val)).1, ((errS (a.val * b.val)).2, ())), ()) := by
 refine Wp.out (T := fun o => o = _) ?_
 unfold a7C
 refine Wp.call (a8U a) ?_
 rintro _ ⟨x, rfl, hx⟩
 refine Wp.call (a8U b) ?_
 rintro _ ⟨y, rfl, hy⟩
 obtain ⟨z, hz, hz2⟩ := d2Y hx hy (b3Y hx) (b3Y hy)
 refine Wp.optF hz (Wp.optF (Checked_ok' hz2 ?_) rfl)
 refine a6X hz2 64 ?_ (by decide)
 have h1 := a.lt
 have h2 := b.lt
 have h3 : a.val * b.val < U.top * U.top := Nat.mul_lt_mul_of_lt_of_le h1 (Nat.le_of_lt h2) (by decide)
 exact Nat.lt_trans h3 (by decide)
theorem d9Y (units last upto now : I .u64) (h1 : last.nat ≤ upto.nat) (h2 : upto.nat ≤ now.nat) :
  a5K ((units, (last, (upto, (now, ())))), ()) = some ((I.of .u64 (a8Z units last upto now : Int), (I.of .i64 0, ())), ()) := by
 have hle := b6G (units := units) h1 h2
 have hu := a1J units
 refine Wp.out (T := fun o => o = _) ?_
 unfold a5K
 refine Wp.jnI ?_
 simp only [b2O]
 refine Wp.brnF (decide_eq_false (by omega)) (Wp.brnF (decide_eq_false (by omega)) ?_)
 simp only [b4C]
 refine Wp.brn (fun h => ?_) (fun h => ?_)
 ·
  have h := of_decide_eq_true h
  have : I.of .u64 (a8Z units last upto now : Int) = units := by
   unfold a8Z
   rw [if_pos h, a0Z]
   exact I.ext' units.ok
  rw [this]
  rfl
 ·
  have h := of_decide_eq_false h
  have d1 := sub_nat_le' upto last h1
  have d2 := sub_nat_le' now last (by omega)
  obtain ⟨x, gx, hx⟩ := a6W units
  obtain ⟨y, gy, hy⟩ := a6W (I.sub upto last)
  obtain ⟨z, gz, hz⟩ := a6W (I.sub now last)
  obtain ⟨m, gm, hm⟩ := d2Y hx hy (Nat.le_trans (d3Z hx) (by decide)) (Nat.le_trans (d3Z hy) (by decide))
  have hml : m.length ≤ 1000000 := by
   refine a6X hm 64 ?_ (by decide)
   have := a1J (I.sub upto last)
   exact Nat.lt_trans (Nat.mul_lt_mul_of_lt_of_le hu (Nat.le_of_lt this) (by decide)) (by decide)
  obtain ⟨q, r, gq, hq, _⟩ := d4B hm hz (by omega) hml (Nat.le_trans (d3Z hz) (by decide))
  have e : a8Z units last upto now = units.nat * (upto.nat - last.nat) / (now.nat - last.nat) := if_neg h
  rw [d1, d2, ← e] at hq
  refine Wp.optF gx (Wp.optF gy (Wp.optF gm (Wp.optF gz (Wp.optF gq (Wp.optF (a4E hq (Nat.lt_trans (Nat.lt_of_le_of_lt hle hu) (by decide))) ?_)))))
  show some (((U.of (a8Z units last upto now)).1, (I.of .i64 0, ())), ()) = _
  rw [e5S (by omega)]
theorem d0X {l : List Post} (hl : l.length ≤ 1073741824) (hT : TableOk l) : a5F ((l, ()), ()) = some (((errS (sumN (l.map dueN))).1, ((errS (sumN (l.map dueN))).2, ())), ()) := by
 refine Wp.out (T := fun o => o = _) ?_
 unfold a5F
 simp only [a4U, a4H, a8E, a8G]
 refine Wp.optF (b4V hl) (Wp.brnF (d2W hT) ?_)
 have h64 := hT.1
 have hb : ∀ i, sumN ((l.take i).map dueN) ≤ 64 * U.top := fun i => by
  have h1 := c0R dueN U.top (fun p => U.lt _) (l.take i)
  have h2 : (l.take i).length * U.top ≤ 64 * U.top := Nat.mul_le_mul_right _ (by rw [List.length_take]; omega)
  omega
 have hbig : 64 * U.top < 65536 ^ 64 := by decide
 refine Wp.iter (fun s => ∃ i b, s = ((l, (b, (i6 i, ()))), (Z_U, ())) ∧ i ≤ l.length ∧ IsB b (sumN ((l.take i).map dueN))) (fun s => l.length - s.1.2.2.1.val.toNat) ?_ ⟨0, [], rfl, by omega, c5F⟩ (by rw [a5L]; show l.length - _ < _; omega)
 rintro s ⟨i, b, rfl, hi, hB⟩
 simp only [a5T (show i < 9223372036854775808 by omega) (show l.length < 9223372036854775808 by omega), a3L (show i < 9223372036854775808 by omega), a6H (show i + 1 < 9223372036854775808 by omega)]
 have hbl : b.length ≤ 1000000 := a6X hB 64 (by have := hb i; omega) (by decide)
 refine Wp.brn (fun hc => ?_) (fun hc => ?_)
 ·
  have hc := of_decide_eq_true hc
  refine Wp.brnT (a3K (by omega) (by omega)) ?_
  refine Wp.call (a8U (Post.due (rdL dP l i))) ?_
  rintro _ ⟨x, rfl, hx⟩
  obtain ⟨z, gz, hz⟩ := b6C hB hx hbl (b3Y hx)
  refine Wp.optF gz ?_
  exact Wp.again ⟨i + 1, z, rfl, by omega, by rw [b8Z dP dueN hc]; exact hz⟩ (by show l.length - (i6 (i + 1)).val.toNat < l.length - (i6 i).val.toNat; rw [a0Y (by omega), a0Y (by omega)]; omega)
 ·
  have hc := of_decide_eq_false hc
  rw [List.take_of_length_le (by omega)] at hB
  exact Wp.done (Wp.optF (Checked_ok' hB hbl) rfl)
end Sym

/- Pricer: the reference computes the same. -/
namespace Sym
open Go
theorem d7W (l : List Post) (a : I .u64) (c w : U) (since : I .u64) (h : TableOk l) (hf : atN l a < l.length) (hs : since.nat ≠ 0) :
  a6B ((l, (a, (c, (w, (since, ()))))), ()) = some (((a9O l a c w since).1, ((a9O l a c w since).2, ())), ()) := by
 refine Wp.out (T := fun o => o = _) ?_
 have hl := h.1
 unfold a6B a9O
 refine Wp.jnI (Wp.optF (b4V (l := l) (by omega)) (Wp.brnF (d2W h) (Wp.brnF (by rw [b4C]; exact decide_eq_false hs) ?_)))
 refine Wp.optF (c2P (l := l) a (by omega)) ?_
 have e : atI l a = i6 (atN l a) := if_pos hf
 rw [e]
 have hE := (h.2 _ hf).1
 generalize atN l a = k at hf hE ⊢
 refine Wp.brnF (by rw [a8E, a5T (by omega) (by omega)]; exact decide_eq_false (by omega)) ?_
 have en : appL ([] : List Post) l = l := rfl
 simp only [a3L (show k < 9223372036854775808 by omega), c2X, b2K, en]
 simp only [true_and, hf, if_true]
 have bi : inB (i6 k) l.length = true := a3K hf (by omega)
 generalize rdL dP l k = p at *
 refine Wp.brnT (b0L (by show l.length ≤ _; omega)) (Wp.brnT bi ?_)
 refine Wp.call (a8U (Post.due p)) ?_
 rintro _ ⟨d1, rfl, b1⟩
 refine Wp.call (a8U c) ?_
 rintro _ ⟨d2, rfl, b2⟩
 refine Wp.call (a8U w) ?_
 rintro _ ⟨d3, rfl, b3⟩
 have t1 := U.lt (Post.due p)
 have t2 := c.lt
 have t3 := w.lt
 have t4 := U.lt (Post.costs p)
 have t5 := U.lt (Post.rewards p)
 have hp : U.top + U.top + U.top ≤ 65536 ^ 17 := by decide
 obtain ⟨d4, g4, b4⟩ := b6C b2 b3 (b3Y b2) (b3Y b3)
 refine Wp.optF g4 ?_
 obtain ⟨d5, g5, b5⟩ := b6C b1 b4 (b3Y b1) (a6X b4 17 (by omega) (by decide))
 refine Wp.optF g5 ?_
 refine Wp.call (a8U (Post.costs p)) ?_
 rintro _ ⟨d6, rfl, b6⟩
 refine Wp.call (a8U c) ?_
 rintro _ ⟨d7, rfl, b7⟩
 obtain ⟨d8, g8, b8⟩ := b6C b6 b7 (b3Y b6) (b3Y b7)
 refine Wp.optF g8 ?_
 refine Wp.call (a8U (Post.rewards p)) ?_
 rintro _ ⟨d9, rfl, b9⟩
 refine Wp.call (a8U w) ?_
 rintro _ ⟨d10, rfl, b10⟩
 obtain ⟨d11, g11, b11⟩ := b6C b9 b10 (b3Y b9) (b3Y b10)
 refine Wp.optF g11 ?_
 have l5 := a6X b5 17 (by omega) (by decide)
 have l8 := a6X b8 17 (by omega) (by decide)
 have l11 := a6X b11 17 (by omega) (by decide)
 refine Wp.optF (e1S b5 l5) ?_
 refine Wp.brn (fun f1 => ?_) (fun f1 => ?_)
 ·
  have f1 := of_decide_eq_false (a7K f1)
  rw [if_neg (fun hh => f1 hh.1)]; rfl
 have f1 := of_decide_eq_true (a7J f1)
 refine Wp.optF (e1S b8 l8) ?_
 refine Wp.brn (fun f2 => ?_) (fun f2 => ?_)
 ·
  have f2 := of_decide_eq_false (a7K f2)
  rw [if_neg (fun hh => f2 hh.2.1)]; rfl
 have f2 := of_decide_eq_true (a7J f2)
 refine Wp.optF (e1S b11 l11) ?_
 refine Wp.brn (fun f3 => ?_) (fun f3 => ?_)
 ·
  have f3 := of_decide_eq_false (a7K f3)
  rw [if_neg (fun hh => f3 hh.2.2)]; rfl
 have f3 := of_decide_eq_true (a7J f3)
 rw [if_pos ⟨f1, f2, f3⟩]
 refine Wp.optF (c0M (Post.due p)) ?_
 have hpos := f0H b5 l5
 refine Wp.brn (fun z => ?_) (fun z => ?_)
 ·
  have z := of_decide_eq_true z
  refine Wp.brn (fun y => ?_) (fun y => ?_)
  ·
   have y := of_decide_eq_true (hpos.symm.trans y)
   refine Wp.optF (a4E b5 f1) (Wp.optF (a4E b8 f2) (Wp.optF (a4E b11 f3) ?_))
   have e : b0H p c w since = (p.1, (U.of (p.due.val + (c.val + w.val)), (U.of (p.costs.val + c.val), (U.of (p.rewards.val + w.val), (p.paid, (since, ())))))) := by unfold b0H; rw [if_pos ⟨z, y⟩]
   rw [e]; rfl
  ·
   have y := of_decide_eq_false (hpos.symm.trans y)
   refine Wp.optF (a4E b5 f1) (Wp.optF (a4E b8 f2) (Wp.optF (a4E b11 f3) ?_))
   have e : b0H p c w since = (p.1, (U.of (p.due.val + (c.val + w.val)), (U.of (p.costs.val + c.val), (U.of (p.rewards.val + w.val), (p.paid, (p.since, ())))))) := by unfold b0H; rw [if_neg (fun hh => y hh.2)]
   rw [e]; rfl
 ·
  have z := of_decide_eq_false z
  refine Wp.optF (a4E b5 f1) (Wp.optF (a4E b8 f2) (Wp.optF (a4E b11 f3) ?_))
  have e : b0H p c w since = (p.1, (U.of (p.due.val + (c.val + w.val)), (U.of (p.costs.val + c.val), (U.of (p.rewards.val + w.val), (p.paid, (p.since, ())))))) := by unfold b0H; rw [if_neg (fun hh => z hh.1)]
  rw [e]; rfl
theorem e2K (l : List Post) (a : I .u64) (hl : l.length ≤ 1073741824) : a8F ((l, (a, ())), ()) = some (((b5J l a).1, ((b5J l a).2, ())), ()) := by
 refine Wp.out (T := fun o => o = _) ?_
 unfold a8F b5J
 refine Wp.jnI (Wp.optF (b4V hl) ?_)
 have e0 : (I.of .u64 0).nat = 0 := rfl
 refine Wp.brn (fun h => ?_) (fun h => ?_)
 ·
  have h : tabB l = false := a7K h
  simp only [if_neg (show ¬ (tabB l = true ∧ a.nat ≠ 0) by rw [h]; simp)]; rfl
 have hT : tabB l = true := a7J h
 rw [b4C, e0]
 refine Wp.brn (fun h => ?_) (fun h => ?_)
 ·
  have h : a.nat = 0 := of_decide_eq_true h
  simp only [if_neg (show ¬ (tabB l = true ∧ a.nat ≠ 0) from fun hh => hh.2 h)]; rfl
 have ha : a.nat ≠ 0 := of_decide_eq_false h
 simp only [if_pos (show tabB l = true ∧ a.nat ≠ 0 from ⟨hT, ha⟩)]
 refine Wp.optF (c2P (l := l) a hl) ?_
 rw [show (((atI l a, ()), ()) : ((I .i64) × Unit) × Unit).1.1 = atI l a from rfl, d8O hl]
 refine Wp.brn (fun h => ?_) (fun h => ?_)
 ·
  have h := of_decide_eq_true h
  simp only [if_pos h]; rfl
 have hf := of_decide_eq_false h
 simp only [if_neg hf]
 have hne := d4Z hf
 have hlim : l.length ≤ 64 := (tabB_t.1 hT).1
 have e64 : I.of .i64 64 = i6 64 := rfl
 simp only [a4U, a4H, a8E, a8G, e64, e7D (show 64 < 9223372036854775808 by omega) (show l.length < 9223372036854775808 by omega)]
 refine Wp.brn (fun h => ?_) (fun h => ?_)
 ·
  have h := of_decide_eq_true h
  simp only [if_pos (show l.length = 64 by omega)]; rfl
 have h64 := of_decide_eq_false h
 simp only [if_neg (show ¬ l.length = 64 by omega)]
 have hva := a0Z a
 refine Wp.iter (fun s => ∃ i put out, s = ((l, (a, (put, (i6 i, ())))), (out, ())) ∧ i ≤ l.length ∧ out.length ≤ i + (if put = true then 1 else 0) ∧
   ((put = false ∧ out ++ insS (l.drop i) a = insS l a) ∨ (put = true ∧ out ++ l.drop i = insS l a)))
  (fun s => l.length - s.1.2.2.2.1.val.toNat) ?_ ⟨0, false, [], rfl, by omega, by simp, .inl ⟨rfl, rfl⟩⟩ (by rw [a5L]; show l.length - _ < _; omega)
 rintro s ⟨i, put, out, rfl, hi, hol0, hcase⟩
 have hol : out.length ≤ i + 1 := by revert hol0; split <;> omega
 simp only [a5T (show i < 9223372036854775808 by omega) (show l.length < 9223372036854775808 by omega), a3L (show i < 9223372036854775808 by omega)]
 refine Wp.brn (fun hc => ?_) (fun hc => ?_)
 ·
  have hc := of_decide_eq_true hc
  have hm : l.length - (i6 (i + 1)).val.toNat < l.length - (i6 i).val.toNat := by rw [a0Y (by omega), a0Y (by omega)]; omega
  have bi : inB (i6 i) l.length = true := a3K (by omega) (by omega)
  have hdr : l.drop i = rdL dP l i :: l.drop (i + 1) := by rw [List.drop_eq_getElem_cons hc, a4G dP l i hc]
  have hvi := a0Z (Post.addr (rdL dP l i))
  have hnei := hne i hc
  refine Wp.jnI ?_
  have place : put = false → a.nat < (Post.addr (rdL dP l i)).nat → out ++ newP a :: rdL dP l i :: l.drop (i + 1) = insS l a := by
   intro hp hlt
   rcases hcase with ⟨_, h⟩ | ⟨h, _⟩
   ·
    rw [d0U hc (by omega), hdr] at h; exact h
   ·
    rw [hp] at h; cases h
  have keep : put = false → ¬ a.nat < (Post.addr (rdL dP l i)).nat → (out ++ [rdL dP l i]) ++ insS (l.drop (i + 1)) a = insS l a := by
   intro hp hlt
   rcases hcase with ⟨_, h⟩ | ⟨h, _⟩
   ·
    rw [d0V hc (by omega)] at h; rw [← h]; simp
   ·
    rw [hp] at h; cases h
  have keep2 : put = true → (out ++ [rdL dP l i]) ++ l.drop (i + 1) = insS l a := by
   intro hp
   rcases hcase with ⟨h, _⟩ | ⟨_, h⟩
   ·
    rw [hp] at h; cases h
   ·
    rw [hdr] at h; rw [← h]; simp
  have hfit : a2L (lenL (appL out [rdL dP l i])) = true := b0L (by show (out ++ [_]).length ≤ _; simp; omega)
  refine Wp.brn (fun hp => ?_) (fun hp => ?_)
  ·
   have hp : put = false := a7K hp
   refine Wp.brnT bi ?_
   rw [b2O]
   simp only [a3L (show i < 9223372036854775808 by omega), a6H (show i + 1 < 9223372036854775808 by omega)]
   refine Wp.brn (fun hlt => ?_) (fun hlt => ?_)
   ·
    have hlt : a.nat < (Post.addr (rdL dP l i)).nat := of_decide_eq_true hlt
    refine Wp.brnT (b0L (by show (out ++ [_]).length ≤ _; simp; omega)) (Wp.brnT bi (Wp.brnT (b0L (by show (out ++ [_] ++ [_]).length ≤ _; simp; omega)) ?_))
    refine Wp.again ⟨i + 1, true, _, rfl, by omega, ?_, .inr ⟨rfl, ?_⟩⟩ hm
    ·
     rw [hp] at hol0
     simp [appL] at hol0 ⊢
     omega
    ·
     rw [← place hp hlt]; simp [appL, newP]
   ·
    have hlt : ¬ a.nat < (Post.addr (rdL dP l i)).nat := of_decide_eq_false hlt
    exact Wp.brnT bi (Wp.brnT hfit (Wp.again ⟨i + 1, put, _, rfl, by omega, by rw [hp] at hol0 ⊢; simp [appL] at hol0 ⊢; omega, .inl ⟨hp, keep hp hlt⟩⟩ hm))
  ·
   have hp : put = true := a7J hp
   simp only [a3L (show i < 9223372036854775808 by omega), a6H (show i + 1 < 9223372036854775808 by omega)]
   exact Wp.brnF rfl (Wp.brnT bi (Wp.brnT hfit (Wp.again ⟨i + 1, put, _, rfl, by omega, by rw [hp] at hol0 ⊢; simp [appL] at hol0 ⊢; omega, .inr ⟨hp, keep2 hp⟩⟩ hm)))
 ·
  have hc := of_decide_eq_false hc
  have hi' : i = l.length := by omega
  subst hi'
  refine Wp.done ?_
  rcases hcase with ⟨rfl, h⟩ | ⟨rfl, h⟩
  ·
   rw [List.drop_length] at h
   refine Wp.brnT rfl (Wp.brnT (b0L (by show (out ++ [_]).length ≤ _; simp; omega)) ?_)
   show some ((out ++ [newP a], (I.of .i64 0, ())), ()) = _
   rw [← h]; rfl
  ·
   rw [List.drop_length, List.append_nil] at h
   refine Wp.brnF rfl ?_
   rw [h]; rfl
end Sym

/- Pricer: the reference's report. -/
namespace Sym
open Go
theorem b8L (s : PrT) (hl : s.posters.length ≤ 1073741824) : a4J ((s, ()), ()) = some ((prV s, ()), ()) := by
 refine Wp.out (T := fun o => o = _) ?_
 unfold a4J
 refine Wp.jnI (Wp.optF (b4V (l := s.posters) hl) ?_)
 refine Wp.brn (fun h => ?_) (fun h => ?_)
 ·
  have h : tabB s.posters = false := a7K h
  unfold prV; rw [h, Bool.false_and, Bool.and_false]; rfl
 have hT : tabB s.posters = true := a7J h
 refine Wp.optF (b2Y s.surplus) ?_
 refine Wp.brn (fun h => ?_) (fun h => ?_)
 ·
  have h : a1K s.surplus = false := a7K h
  unfold prV; rw [h, Bool.and_false, Bool.and_false]; rfl
 have hS : a1K s.surplus = true := a7J h
 simp only [a4U, a4H, a8E, a8G]
 obtain ⟨l, hl'⟩ : ∃ l, l = s.posters := ⟨_, rfl⟩
 rw [← hl'] at hl
 refine Wp.iter (fun t => ∃ i, t = ((i6 i, ()), (s, ())) ∧ i ≤ l.length ∧ ∀ k, k < i → (Post.since (rdL dP l k)).nat ≤ s.reports.nat) (fun t => l.length - t.1.1.val.toNat) ?_ ⟨0, rfl, by omega, by intro k hk; omega⟩ (by rw [a5L]; show l.length - _ < _; omega)
 rintro t ⟨i, rfl, hi, hinv⟩
 have e : s.2.2.2.2.2.1 = l := hl'.symm
 simp only [e, a5T (show i < 9223372036854775808 by omega) (show l.length < 9223372036854775808 by omega), a3L (show i < 9223372036854775808 by omega), a6H (show i + 1 < 9223372036854775808 by omega)]
 refine Wp.brn (fun hc => ?_) (fun hc => ?_)
 ·
  have hc := of_decide_eq_true hc
  refine Wp.brnT (a3K (by omega) (by omega)) ?_
  simp only [b2O]
  refine Wp.brn (fun h => ?_) (fun h => ?_)
  ·
   have h : s.reports.nat < (Post.since (rdL dP l i)).nat := of_decide_eq_true h
   refine Wp.done ?_
   have : prV s = false := by
    cases hv : prV s with
    | false => rfl
    | true =>
     have := (prV_t.1 hv).1 (rdL dP l i) (by rw [← hl']; exact b3H dP _ i hc)
     omega
   rw [this]
   rfl
  ·
   have h : ¬ s.reports.nat < (Post.since (rdL dP l i)).nat := of_decide_eq_false h
   refine Wp.again ⟨i + 1, rfl, by omega, fun k hk => ?_⟩ (by show l.length - (i6 (i + 1)).val.toNat < l.length - (i6 i).val.toNat; rw [a0Y (by omega), a0Y (by omega)]; omega)
   by_cases hki : k = i
   ·
    subst hki; omega
   ·
    exact hinv k (by omega)
 ·
  have hc := of_decide_eq_false hc
  refine Wp.done ?_
  have : prV s = true := by
   refine prV_t.2 ⟨fun p hp => ?_, tabB_t.1 hT, hS⟩
   rw [← hl'] at hp
   obtain ⟨k, hk, rfl⟩ := b4F dP hp
   exact hinv k (by omega)
  rw [this]
  rfl
theorem c8M (s : PrT) (a : I .u64) (hl : s.posters.length ≤ 1073741824) : a4X ((s, (a, ())), ()) = some (((a6P s a).1, ((a6P s a).2, ())), ()) := by
 refine Wp.out (T := fun o => o = _) ?_
 unfold a4X a6P
 refine Wp.optF (b8L s hl) ?_
 refine Wp.brn (fun h => ?_) (fun h => ?_)
 ·
  have h : prV s = false := a7K h
  rw [if_neg (by rw [h]; simp)]; rfl
 have h : prV s = true := a7J h
 rw [if_pos h]
 refine Wp.optF (e2K s.posters a hl) ?_
 refine Wp.brn (fun h => ?_) (fun h => ?_)
 ·
  have h : ¬ (b5J s.posters a).2.val = 0 := iff_neb.1 h
  rw [if_neg h]; rfl
 ·
  have h : (b5J s.posters a).2.val = 0 := niff_neb.1 h
  rw [if_pos h]; rfl
theorem c0Z (a b : I .u64) : I.add a b = I.of .u64 ((a.nat + b.nat : Nat) : Int) := by
 unfold I.add
 rw [← a0Z a, ← a0Z b]
 rfl
theorem d0W (s : PrT) (n : I .u64) (hl : s.posters.length ≤ 1073741824) : a5J ((s, (n, ())), ()) = some (((a8H s n).1, ((a8H s n).2, ())), ()) := by
 refine Wp.out (T := fun o => o = _) ?_
 unfold a5J a8H
 refine Wp.optF (b8L s hl) ?_
 refine Wp.brn (fun h => ?_) (fun h => ?_)
 ·
  have h : prV s = false := a7K h
  rw [if_neg (by rw [h]; simp)]; rfl
 have h : prV s = true := a7J h
 rw [if_pos h]
 have hu := a1J s.units
 have hn := a1J n
 have hw : (I.add s.units n).nat = (s.units.nat + n.nat) % 18446744073709551616 := by
  rw [c0Z]
  have h1 : (I.of .u64 ((s.units.nat + n.nat : Nat) : Int)).val = ((s.units.nat + n.nat : Nat) : Int) % 18446744073709551616 := rfl
  have := a0Z (I.of .u64 ((s.units.nat + n.nat : Nat) : Int))
  omega
 refine Wp.brn (fun h => ?_) (fun h => ?_)
 ·
  rw [b2O] at h
  have h : (I.add s.units n).nat < n.nat := of_decide_eq_true h
  rw [if_neg (by omega)]; rfl
 ·
  rw [b2O] at h
  have h : ¬ (I.add s.units n).nat < n.nat := of_decide_eq_false h
  rw [if_pos (by omega)]
  refine Wp.brnT (b0L hl) ?_
  rw [← c0Z]
  rfl
noncomputable def b8E (s : PrT) (p : Prm) (r : RepT) (now : I .u64) : I .i64 :=
 if prV s = true then
  if a6G p = true then
   if atN s.posters r.from' < s.posters.length then
    if s.last.nat ≤ r.upto.nat ∧ r.upto.nat ≤ now.nat then
     if r.cost.val < b6I then I.of .i64 0
     else I.of .i64 2
    else I.of .i64 14
   else I.of .i64 8
  else I.of .i64 15
 else I.of .i64 2
theorem d2M (s : PrT) (p : Prm) (r : RepT) (now : I .u64) :
  ((b8E s p r now).val = 0 ∧ ((b3T s p r now).val = 0 ∨ (s.reports.nat = 18446744073709551615 ∧ b3T s p r now = I.of .i64 4))) ∨ ((b8E s p r now).val ≠ 0 ∧ b3T s p r now = b8E s p r now) := by
 unfold b8E b3T
 split
 ·
  split
  ·
   split
   ·
    split
    ·
     split
     ·
      left
      refine ⟨rfl, ?_⟩
      split
      ·
       rename_i h; exact .inr ⟨h, rfl⟩
      ·
       exact .inl rfl
     ·
      exact .inr ⟨by decide, rfl⟩
    ·
     exact .inr ⟨by decide, rfl⟩
   ·
    exact .inr ⟨by decide, rfl⟩
  ·
   exact .inr ⟨by decide, rfl⟩
 ·
  exact .inr ⟨by decide, rfl⟩
theorem d1Z {s : PrT} {p : Prm} {r : RepT} {now : I .u64} (h : (b8E s p r now).val = 0) : prV s = true ∧ a6G p = true ∧ atN s.posters r.from' < s.posters.length ∧ (s.last.nat ≤ r.upto.nat ∧ r.upto.nat ≤ now.nat) ∧ r.cost.val < b6I := by
 unfold b8E at h
 split at h
 ·
  rename_i h1
  split at h
  ·
   rename_i h2
   split at h
   ·
    rename_i h3
    split at h
    ·
     rename_i h4
     split at h
     ·
      rename_i h5; exact ⟨h1, h2, h3, h4, h5⟩
     ·
      exact absurd h (by decide)
    ·
     exact absurd h (by decide)
   ·
    exact absurd h (by decide)
  ·
   exact absurd h (by decide)
 ·
  exact absurd h (by decide)
theorem d9P (s : PrT) (p : Prm) (r : RepT) (now : I .u64) (hl : s.posters.length ≤ 1073741824) :
  a6Z ((s, (p, (r, (now, ())))), ()) = some ((b8E s p r now, ()), ()) := by
 refine Wp.out (T := fun o => o = _) ?_
 unfold a6Z b8E
 refine Wp.optF (b8L s hl) ?_
 refine Wp.brn (fun h => ?_) (fun h => ?_)
 ·
  have h : prV s = false := a7K h
  rw [if_neg (by rw [h]; simp)]; rfl
 have h : prV s = true := a7J h
 rw [if_pos h]
 refine Wp.optF (c1D p) ?_
 refine Wp.brn (fun h => ?_) (fun h => ?_)
 ·
  have h : a6G p = false := a7K h
  rw [if_neg (by rw [h]; simp)]; rfl
 have h : a6G p = true := a7J h
 rw [if_pos h]
 refine Wp.optF (c2P (l := s.posters) r.from' hl) ?_
 rw [show (((atI s.posters r.from', ()), ()) : ((I .i64) × Unit) × Unit).1.1 = atI s.posters r.from' from rfl, b8I hl]
 refine Wp.brn (fun h => ?_) (fun h => ?_)
 ·
  rw [if_neg (of_decide_eq_true h)]; rfl
 rw [if_pos (by simpa using of_decide_eq_false h)]
 refine Wp.jnI ?_
 simp only [b2O]
 refine Wp.brn (fun h => ?_) (fun h => ?_)
 ·
  have h : r.upto.nat < s.last.nat := of_decide_eq_true h
  rw [if_neg (by omega)]; rfl
 have h1 : ¬ r.upto.nat < s.last.nat := of_decide_eq_false h
 refine Wp.brn (fun h => ?_) (fun h => ?_)
 ·
  have h : now.nat < r.upto.nat := of_decide_eq_true h
  rw [if_neg (by omega)]; rfl
 have h2 : ¬ now.nat < r.upto.nat := of_decide_eq_false h
 rw [if_pos (by omega)]
 refine Wp.call (d7N r.cost) ?_
 rintro _ ⟨k, rfl, hB, hk⟩
 rw [show (((i6 k, ()), ()) : ((I .i64) × Unit) × Unit).1.1 = i6 k from rfl, e1M hB hk]
 refine Wp.brn (fun h => ?_) (fun h => ?_)
 ·
  rw [if_neg (of_decide_eq_true h)]; rfl
 rw [if_pos (Classical.byContradiction (of_decide_eq_false h))]
 rfl
theorem d8B (s : PrT) (p : Prm) (pool : U) (r : RepT) (now : I .u64) (hl : s.posters.length ≤ 1073741824) :
  a6F ((s, (p, (pool, (r, (now, ()))))), ()) = some (((a7P s p pool r now).1, ((a7P s p pool r now).2.1, ((a7P s p pool r now).2.2, ()))), ()) := by
 refine Wp.out (T := fun o => o = _) ?_
 unfold a6F a7P
 refine Wp.optF (d9P s p r now hl) ?_
 have hcc := d2M s p r now
 refine Wp.brn (fun h => ?_) (fun h => ?_)
 ·
  have h : ¬ (b8E s p r now).val = 0 := iff_neb.1 h
  rcases hcc with ⟨h', _⟩ | ⟨_, h'⟩
  ·
   exact absurd h' h
  rw [h', if_neg h]
  rfl
 have h0 : (b8E s p r now).val = 0 := niff_neb.1 h
 have ⟨f1, f2, f3, f4, f5⟩ := d1Z h0
 refine Wp.optF (d9Y s.units s.last r.upto now f4.1 f4.2) ?_
 have hle := b6G (units := s.units) f4.1 f4.2
 have hu := a1J s.units
 have hnv : (I.of .u64 (a8Z s.units s.last r.upto now : Int)).nat = a8Z s.units s.last r.upto now := b6A (by omega)
 have e : U.val (I.of .u64 (a8Z s.units s.last r.upto now : Int), (I.of .u64 0, (I.of .u64 0, (I.of .u64 0, ())))) = repN s r now := (a3A _).trans hnv
 have hM := d6W p.rpu (I.of .u64 (a8Z s.units s.last r.upto now : Int), (I.of .u64 0, (I.of .u64 0, (I.of .u64 0, ()))))
 rw [e] at hM
 refine Wp.optF hM (Wp.jnI ?_)
 rcases hcc with ⟨_, hcs⟩ | ⟨h', _⟩
 case inr => exact absurd h0 h'
 simp only [c4L]
 refine Wp.brn (fun hw => ?_) (fun hw => ?_)
 ·
  have hw : ¬ p.rpu.val * repN s r now < U.top := of_decide_eq_true hw
  rcases hcs with hcs | ⟨_, hcs⟩
  ·
   rw [if_pos hcs, if_neg hw]; rfl
  ·
   rw [hcs, if_neg a9S]; rfl
 have hw := of_decide_eq_false hw
 have hw : p.rpu.val * repN s r now < U.top := by omega
 rw [a9D hw]
 rcases hcs with hcs | ⟨hmax, hcs⟩
 case inr =>
  refine Wp.brnT ?_ ?_
  ·
   have hv := a0Z s.reports
   rw [c0Z, hmax]
   rfl
  ·
   rw [hcs, if_neg a9S]; rfl
 have hC := c0N hcs
 have hcnt := b9M hC
 rw [if_pos hcs, if_pos hw]
 refine Wp.brnF (by rw [b4C]; exact decide_eq_false (by show ¬ (I.add s.reports (I.of .u64 1)).nat = 0; rw [hcnt]; omega)) ?_
 refine Wp.optF (d7W s.posters r.from' r.cost (U.of (p.rpu.val * repN s r now)) (I.add s.reports (I.of .u64 1)) hC.tab hC.fnd (by rw [hcnt]; omega)) ?_
 have hA := c1F (c := r.cost) (w := U.of (p.rpu.val * repN s r now)) (since := I.add s.reports (I.of .u64 1)) hC.tab hC.fnd (by rw [hcnt]; omega)
 have hL : a9O s.posters r.from' r.cost (U.of (p.rpu.val * repN s r now)) (I.add s.reports (I.of .u64 1)) = a9K s p r now := rfl
 rw [hL] at hA ⊢
 rcases hA with ⟨hA, _⟩ | ⟨hA, _, _, hT⟩
 ·
  rw [if_neg (by rw [hA]; exact a9S)]
  simp only [hA]
  exact Wp.brnT rfl rfl
 rw [if_pos (by rw [hA]; rfl)]
 simp only [hA]
 refine Wp.brnF rfl ?_
 generalize (a9K s p r now).1 = l at hT ⊢
 have hl64 := hT.1
 have hP := e3Q l pool (by omega)
 rw [d5A hT pool] at hP
 refine Wp.optF hP ?_
 have hpl := c0Y l pool
 refine Wp.optF (e1X l (a7F (ord l) pool.val) (by omega) (by show (a1H l pool).length ≤ _; omega)) ?_
 rw [show a7F (ord l) pool.val = a1H l pool from rfl]
 rcases c5B hT pool with hB | ⟨hB, hT2, _, _, hdu⟩
 ·
  rw [if_neg (by rw [hB]; exact a9S)]
  simp only [hB]
  exact Wp.brnT rfl rfl
 rw [if_pos (by rw [hB]; rfl)]
 simp only [hB]
 refine Wp.brnF rfl ?_
 have hsum := c6M l pool
 have hpo := pool.lt
 have hps : sumN ((a1H l pool).map amt) < U.top := by omega
 refine Wp.optF (f1I (l := a1H l pool) (by omega)) ?_
 rw [a9D hps]
 refine Wp.optF (c7J pool _) ?_
 have hsv : (U.of (sumN ((a1H l pool).map amt))).val = sumN ((a1H l pool).map amt) := U.val_of hps
 have hsub : (subS pool (U.of (sumN ((a1H l pool).map amt)))).1 = U.of (pool.val - sumN ((a1H l pool).map amt)) := by
  unfold subS
  rw [hsv, if_pos (by omega)]
 refine Wp.optF (d0X (by have := hT2.1; omega) hT2) ?_
 unfold b1M
 have e1 : (b2R s (a2F l (a1H l pool)).1).posters = (a2F l (a1H l pool)).1 := rfl
 rw [e1]
 simp only [c4L]
 refine Wp.brn (fun hd => ?_) (fun hd => ?_)
 ·
  have hd := of_decide_eq_true hd
  simp only [if_neg hd]
  rw [if_neg a9S]; rfl
 have hd := of_decide_eq_false hd
 have hd : sumN ((a2F l (a1H l pool)).1.map dueN) < U.top := by omega
 simp only [if_pos hd, hsub]
 rw [a9D hd]
 refine Wp.optF (e4R _ _) (Wp.jnI ?_)
 have hz : S.of (((U.of (pool.val - sumN ((a1H l pool).map amt))).val : Int) - ((U.of (sumN ((a2F l (a1H l pool)).1.map dueN))).val : Int)) = b4D pool (a2F l (a1H l pool)).1 (a1H l pool) := by
  unfold b4D
  rw [U.val_of hd, U.val_of (by omega)]
 simp only [hz]
 have hn1 : (b1G s p r now (a1H l pool)).1.nat = repN s r now := hnv
 rw [hn1]
 have e0 : (I.of .u64 0).nat = 0 := rfl
 simp only [b2O]
 rw [e0, show (I.of .u64 (a8Z s.units s.last r.upto now : Int)).nat = repN s r now from hnv]
 refine Wp.brn (fun hp => ?_) (fun hp => ?_)
 ·
  have hp := of_decide_eq_true hp
  simp only [if_neg (show ¬ repN s r now = 0 by omega)]
  refine Wp.optF (e2P _ _ _ _ _) ?_
  refine Wp.brn (fun hN => ?_) (fun hN => ?_)
  ·
   have hN : I.neb (a9U s.price (b4D pool (a2F l (a1H l pool)).1 (a1H l pool)) s.surplus (I.of .u64 (a8Z s.units s.last r.upto now : Int)) p).2 (I.of .i64 0) = true := hN
   have hN2 : I.neb (a9U (b2R s (a2F l (a1H l pool)).1).price (b4D pool (a2F l (a1H l pool)).1 (b1G s p r now (a1H l pool)).2.2.1) (b2R s (a2F l (a1H l pool)).1).surplus (b1G s p r now (a1H l pool)).1 p).2 (I.of .i64 0) = true := hN
   simp only [if_pos hN2]
   have : ¬ (a9U (b2R s (a2F l (a1H l pool)).1).price (b4D pool (a2F l (a1H l pool)).1 (b1G s p r now (a1H l pool)).2.2.1) (b2R s (a2F l (a1H l pool)).1).surplus (b1G s p r now (a1H l pool)).1 p).2.val = 0 := iff_neb.1 hN2
   rw [if_neg this]; rfl
  ·
   have hN : I.neb (a9U s.price (b4D pool (a2F l (a1H l pool)).1 (a1H l pool)) s.surplus (I.of .u64 (a8Z s.units s.last r.upto now : Int)) p).2 (I.of .i64 0) = false := hN
   have hN2 : ¬ I.neb (a9U (b2R s (a2F l (a1H l pool)).1).price (b4D pool (a2F l (a1H l pool)).1 (b1G s p r now (a1H l pool)).2.2.1) (b2R s (a2F l (a1H l pool)).1).surplus (b1G s p r now (a1H l pool)).1 p).2 (I.of .i64 0) = true := fun h => by
    have h : I.neb (a9U s.price (b4D pool (a2F l (a1H l pool)).1 (a1H l pool)) s.surplus (I.of .u64 (a8Z s.units s.last r.upto now : Int)) p).2 (I.of .i64 0) = true := h
    rw [hN] at h; cases h
   simp only [if_neg hN2]
   rw [if_pos (show (I.of .i64 0).val = 0 from rfl)]; rfl
 ·
  have hp := of_decide_eq_false hp
  have hp0 : repN s r now = 0 := by omega
  simp only [if_pos hp0]
  rw [if_pos (show (I.of .i64 0).val = 0 from rfl)]; rfl
end Sym

/- Pricer: the laws that compare with the reference. -/
namespace Sym
open Go
theorem d8P {s : PrT} {p : Prm} {pool : U} {r : RepT} {now : I .u64} (h : ¬ (a7P s p pool r now).2.2.val = 0) : (a7P s p pool r now).1 = zPr ∧ (a7P s p pool r now).2.1 = zOut := by
 unfold a7P at h ⊢
 by_cases h1 : (b3T s p r now).val = 0
 ·
  rw [if_pos h1] at h ⊢
  by_cases h2 : p.rpu.val * repN s r now < U.top
  ·
   rw [if_pos h2] at h ⊢
   by_cases h3 : (a9K s p r now).2.val = 0
   ·
    rw [if_pos h3] at h ⊢
    by_cases h4 : (a2F (a9K s p r now).1 (a1H (a9K s p r now).1 pool)).2.val = 0
    ·
     rw [if_pos h4] at h ⊢
     by_cases h5 : (b1M (b2R s (a2F (a9K s p r now).1 (a1H (a9K s p r now).1 pool)).1) p pool (b1G s p r now (a1H (a9K s p r now).1 pool))).2.val = 0
     ·
      rw [if_pos h5] at h
      exact absurd rfl h
     ·
      rw [if_neg h5]; exact ⟨rfl, rfl⟩
    ·
     rw [if_neg h4]; exact ⟨rfl, rfl⟩
   ·
    rw [if_neg h3]; exact ⟨rfl, rfl⟩
  ·
   rw [if_neg h2]; exact ⟨rfl, rfl⟩
 ·
  rw [if_neg h1]; exact ⟨rfl, rfl⟩
theorem f1L (s : PrT) (p : Prm) (pool : U) (r : RepT) (now : I .u64) : (a7P s p pool r now).1.posters.length ≤ 64 ∧ (a7P s p pool r now).2.1.2.2.1.length ≤ 64 := by
 by_cases h : (a7P s p pool r now).2.2.val = 0
 ·
  have hR := e5J h
  refine ⟨hR.tab2.1, ?_⟩
  rw [hR.out]
  exact Nat.le_trans (c0Y _ _) hR.tab1.1
 ·
  rw [(d8P h).1, (d8P h).2]
  exact ⟨Nat.zero_le _, Nat.zero_le _⟩
theorem e2J (l : List Post) (a : I .u64) : (b5J l a).1.length ≤ l.length + 1 := by
 unfold b5J
 split
 ·
  split
  ·
   exact Nat.zero_le _
  ·
   split
   ·
    exact Nat.zero_le _
   ·
    exact Nat.le_of_eq (c7Z l a)
 ·
  exact Nat.zero_le _
theorem c9M (s : PrT) (a : I .u64) : (a6P s a).1.posters.length ≤ s.posters.length + 1 := by
 unfold a6P
 split
 ·
  split
  ·
   exact e2J _ _
  ·
   exact Nat.zero_le _
 ·
  exact Nat.zero_le _
theorem d0F (s : PrT) (n : I .u64) : (a8H s n).1.posters.length ≤ s.posters.length := by
 unfold a8H
 split
 ·
  split
  ·
   exact Nat.le_refl _
  ·
   exact Nat.zero_le _
 ·
  exact Nat.zero_le _
theorem c5J {s : PrT} {a : I .u64} (h : (a6P s a).2.val = 0) : prV (a6P s a).1 = true ∧ (a6P s a).1.last = s.last := by
 unfold a6P at h ⊢
 by_cases hv : prV s = true
 ·
  rw [if_pos hv] at h ⊢
  by_cases hp : (b5J s.posters a).2.val = 0
  ·
   rw [if_pos hp]
   refine ⟨?_, rfl⟩
   have ⟨h1, h2, h3⟩ := prV_t.1 hv
   unfold b5J at hp
   by_cases g1 : tabB s.posters = true ∧ a.nat ≠ 0
   ·
    rw [if_pos g1] at hp
    by_cases g2 : atN s.posters a < s.posters.length
    ·
     rw [if_pos g2] at hp; exact absurd hp (by decide)
    ·
     rw [if_neg g2] at hp
     by_cases g3 : s.posters.length = 64
     ·
      rw [if_pos g3] at hp; exact absurd hp (by decide)
     ·
      have e : b5J s.posters a = (insS s.posters a, I.of .i64 0) := by
       unfold b5J; rw [if_pos g1, if_neg g2, if_neg g3]
      rw [e]
      refine prV_t.2 ⟨fun q hq => ?_, f0Q h2 g1.2 g2 g3, h3⟩
      rcases c2M hq with rfl | hq
      ·
       exact Nat.zero_le _
      ·
       exact h1 q hq
   ·
    rw [if_neg g1] at hp; exact absurd hp (by decide)
  ·
   rw [if_neg hp] at h; exact absurd h hp
 ·
  rw [if_neg hv] at h; exact absurd h (by decide)
theorem c9E {s : PrT} {n : I .u64} (h : (a8H s n).2.val = 0) : prV (a8H s n).1 = true ∧ (a8H s n).1.last = s.last := by
 unfold a8H at h ⊢
 by_cases hv : prV s = true
 ·
  rw [if_pos hv] at h ⊢
  by_cases hp : s.units.nat + n.nat < 18446744073709551616
  ·
   rw [if_pos hp]; exact ⟨hv, rfl⟩
  ·
   rw [if_neg hp] at h; exact absurd h a9S
 ·
  rw [if_neg hv] at h; exact absurd h (by decide)
theorem b5Y (s : PrT) (hl : s.posters.length ≤ 1073741824) : a3J ((s, (s, ())), ()) = some ((true, ()), ()) := by
 refine Wp.out (T := fun o => o = _) ?_
 unfold a3J
 have e : ∀ x : I .u64, I.eqb x x = true := fun x => iff_eqb.2 rfl
 refine Wp.brnT (d4K _) (Wp.brnT (e _) (Wp.brnT (e _) (Wp.brnT (e _) (Wp.brnT (d8J _) ?_))))
 exact Wp.optF (c0F s.posters hl) rfl
theorem d6Q (t : OutT) (hl : t.2.2.1.length ≤ 1073741824) : a6T ((t, (t, ())), ()) = some ((true, ()), ()) := by
 refine Wp.out (T := fun o => o = _) ?_
 unfold a6T
 exact Wp.brnT (iff_eqb.2 rfl) (Wp.brnT (d4K _) (Wp.optF (b9L t.2.2.1 hl) rfl))
theorem e3S (d : CT) (i : Nat) (s : PrT) (now : I .u64) (hi : i < 1000000) (h : s.last.nat ≤ now.nat) (h2 : now.nat < 1000000) :
  ∃ y, a4V ((d, (i6 i, (s, (now, ())))), ()) = some y ∧ ∃ e : CT, y = ((e, ()), ()) := by
 obtain ⟨m, hm, _⟩ := b9Q d.1 (I.of .i64 6) (by decide)
 refine Wp.out (T := fun o => ∃ y, o = some y ∧ ∃ e : CT, y = ((e, ()), ())) ?_
 unfold a4V
 have h2' : (I.of .u64 2).nat = 2 := rfl
 have hsub := sub_nat_le' now s.last h
 have hadd := add_nat' (I.sub now s.last) (I.of .u64 2) (by omega)
 refine Wp.optF hm ?_
 refine Wp.brn (fun _ => ⟨_, rfl, _, rfl⟩) (fun _ => ?_)
 refine Wp.brnT (iff_nz.2 (by have := a0Z (I.add (I.sub now s.last) (I.of .u64 2)); show (I.add (I.sub now s.last) (I.of .u64 2)).val ≠ 0; omega)) ?_
 exact Wp.brn (fun _ => ⟨_, rfl, _, rfl⟩) (fun _ => ⟨_, rfl, _, rfl⟩)
theorem e3D {k : IntKind} (a : I k) : I.neb a a = false := niff_neb.2 rfl
theorem d3J (l : List CT) (v : V8) (gen : Bool) (hl : l.length ≤ LIM) : a4B ((l, (v, (gen, ()))), ()) = some ((true, ()), ()) := by
 refine Wp.out (T := fun o => o = some ((true, ()), ())) ?_
 unfold a4B
 refine Wp.brn (fun _ => Wp.optF d8G rfl) (fun hc => ?_)
 have hl := e9U (n := 40) hl (by omega) hc
 obtain ⟨p0, hp0, hpv0⟩ := c5V v
 refine Wp.optF hp0 ?_
 refine Wp.jn (fun x => ∃ p : Prm, x = ((l, ()), (p, ()))) ?_ ?_
 case refine_2 =>
  intro j hj
  exact Wp.brn (fun _ => Wp.optF c6D (hj _ ⟨_, rfl⟩)) (fun _ => hj _ ⟨_, rfl⟩)
 rintro x ⟨p, rfl⟩
 refine Wp.optF e5T ?_
 refine Wp.iter (fun t => ∃ i now s, t = ((l, (now, (i6 i, ()))), (p, (s, ()))) ∧ i ≤ l.length ∧ I.nat now ≤ 50 * i ∧ prV s = true ∧ (PrT.last s).nat ≤ I.nat now) (fun t => l.length - t.1.2.2.1.val.toNat) ?_ ⟨0, _, _, rfl, by omega, by decide, ?_, by decide⟩ (by rw [a5L]; show l.length - _ < _; omega)
 case refine_2 =>
  have h := b4U (prJ 0) (by decide)
  have h2 : a5H ((prJ 0, ()), ()) = some ((true, ()), ()) := by rw [b1S]; kernel_rfl
  rw [h2] at h
  exact congrArg (fun o : Option ((Bool × Unit) × Unit) => match o with | some y => y.1.1 | none => true) h.symm
 rintro t ⟨i, now, s, rfl, hi, hn, hV, hs⟩
 simp only [a8G, a4U, a4H, a5T (show i < 9223372036854775808 by omega) (show l.length < 9223372036854775808 by omega), a3L (show i < 9223372036854775808 by omega), a6H (show i + 1 < 9223372036854775808 by omega)]
 refine Wp.brn (fun hc => ?_) (fun _ => Wp.done (Wp.optF e5T (Wp.optF (y := ((prJ 0, ()), ())) rfl (Wp.optF (b5Y (prJ 0) (by decide)) (Wp.brnT rfl (Wp.optF d8G rfl))))))
 have hc := of_decide_eq_true hc
 have hmi : l.length - (i6 (i + 1)).val.toNat < l.length - (i6 i).val.toNat := by rw [a0Y (by omega), a0Y (by omega)]; omega
 have hin : inB (i6 i) l.length = true := a3K hc (by omega)
 refine Wp.brnT hin (Wp.brnT hin ?_)
 have hclk := clock hn (by omega) (CT.wait (rdL dC l i))
 obtain ⟨now', hnow⟩ : ∃ now', now' = I.add now (I.rem (CT.wait (rdL dC l i)) (I.of .u64 50)) := ⟨_, rfl⟩
 rw [← hnow] at hclk
 have hnow' : I.add now (I.rem (rdL a2N l i).2.2.2.2.2.1 (I.of .u64 50)) = now' := hnow.symm
 simp only [hnow']
 refine Wp.call (e3S (rdL dC l i) i s now' (by omega) (by omega) (by omega)) ?_
 rintro _ ⟨e, rfl⟩
 have hpl := (prV_t.1 hV).2.1.1
 refine Wp.jn (fun x => ∃ (er : I .i64) (y : PrT), x = ((l, (now', (i6 i, (er, (er, ()))))), (p, (s, (y, (y, ()))))) ∧ y.posters.length ≤ 65 ∧ (er.val = 0 → prV y = true ∧ y.last.nat ≤ now'.nat)) ?_ ?_
 ·
  rintro x ⟨er, y, rfl, hy, hy2⟩
  refine Wp.brnF (e3D er) (Wp.optF (b5Y y (by omega)) (Wp.brnF rfl (Wp.optF (b4U s (by omega)) (Wp.brnF (by rw [hV]; rfl) ?_))))
  rw [a6H (by omega)]
  refine Wp.brn (fun h0 => ?_) (fun _ => Wp.again ⟨i + 1, now', s, rfl, by omega, by omega, hV, by omega⟩ hmi)
  have h0 : er.val = 0 := iff_eqb.1 h0
  have := hy2 h0
  exact Wp.again ⟨i + 1, now', y, rfl, by omega, by omega, this.1, this.2⟩ hmi
 ·
  intro j hj
  refine Wp.brn (fun _ => ?_) (fun _ => ?_)
  ·
   refine Wp.optF (d0I s e.2.1 (by omega)) (Wp.optF (c8M s e.2.1 (by omega)) (hj _ ⟨_, _, rfl, ?_, fun h => ?_⟩))
   ·
    exact Nat.le_trans (c9M _ _) (by omega)
   ·
    have := c5J h
    exact ⟨this.1, by rw [this.2]; omega⟩
  ·
   refine Wp.brn (fun _ => ?_) (fun _ => ?_)
   ·
    refine Wp.optF (d2G s e.units (by omega)) (Wp.optF (d0W s e.units (by omega)) (hj _ ⟨_, _, rfl, ?_, fun h => ?_⟩))
    ·
     exact Nat.le_trans (d0F _ _) (by omega)
    ·
     have := c9E h
     exact ⟨this.1, by rw [this.2]; omega⟩
   ·
    have hrl := f1L s p e.pool e.rep now'
    refine Wp.optF (d8V s p e.pool e.rep now' (by omega)) (Wp.optF (d8B s p e.pool e.rep now' (by omega)) ?_)
    refine Wp.optF (d6Q (a7P s p e.pool e.rep now').2.1 (by have := hrl.2; omega)) (Wp.brnF rfl (hj _ ⟨_, _, rfl, ?_, fun h => ?_⟩))
    ·
     exact Nat.le_trans hrl.1 (by omega)
    ·
     have hR := e5J h
     exact ⟨d9I hR, by rw [hR.last]; exact hR.chk.hi⟩
end Sym
