/- Tables of posters: Settle, sums. -/
import Derived.Carry
import Derived.SizedLaws
import Derived.ChangeOld
import Derived.OpenShut
import Derived.Test.YtpeicefbediffaaGreatPart6
import Derived.Test.YtpeicefbediffaaGreatPart4
import Derived.Test.YtpeicefbediffaaGreatPart3
namespace Sym
open Go
theorem a6B (a : U) : ∃ y, a0K ((a, ()), ()) = some y ∧ ∃ r, y = ((r, ()), ()) ∧ IsB r a.val := by
 obtain ⟨r, h1, h2⟩ := a7P a
 exact ⟨_, h1, r, rfl, h2⟩
theorem d9B (a b : U) : a7L ((a, (b, ())), ()) = some (((b4V (a.val + b.val)).1, ((b4V (a.val + b.val)).2, ())), ()) := by
 refine Wp.out (T := fun o => o = _) ?_
 unfold a7L
 refine Wp.call (a6B a) ?_
 rintro _ ⟨x, rfl, hx⟩
 refine Wp.call (a6B b) ?_
 rintro _ ⟨y, rfl, hy⟩
 obtain ⟨r, g, k⟩ := b3I hx hy (b1R hx) (b1R hy)
 refine Wp.optF g ?_
 have t1 := a.lt
 have t2 := b.lt
 have hp : U.top + U.top ≤ 65536 ^ 17 := by decide
 refine Wp.optF (Checked_ok' k (a5G k 17 (by omega) (by decide))) ?_
 rfl
theorem c8H (a b : U) : a5X ((a, (b, ())), ()) = some (((d7O a b).1, ((d7O a b).2, ())), ()) := by
 refine Wp.out (T := fun o => o = _) ?_
 unfold a5X
 refine Wp.call (a6B a) ?_
 rintro _ ⟨x, rfl, hx⟩
 refine Wp.call (a6B b) ?_
 rintro _ ⟨y, rfl, hy⟩
 refine Wp.optF (c7G hx hy (b1R hx) (b1R hy)) ?_
 have hc : I.ltb (c1F a.val b.val) (I.of .i64 0) = decide (a.val < b.val) := by
  unfold c1F
  by_cases h : a.val < b.val
  ·
   rw [if_pos h, decide_eq_true h]; rfl
  ·
   rw [if_neg h, decide_eq_false h]
   split <;> rfl
 refine Wp.brn (fun h => ?_) (fun h => ?_)
 ·
  have h : a.val < b.val := of_decide_eq_true (hc.symm.trans h)
  unfold d7O
  rw [if_neg (by omega)]
  rfl
 ·
  have h : ¬ a.val < b.val := of_decide_eq_false (hc.symm.trans h)
  obtain ⟨r, g, k⟩ := c2T hx hy (by omega) (b1R hx)
  refine Wp.optF g ?_
  refine Wp.optF (a2H k (by have := a.lt; omega)) ?_
  unfold d7O
  rw [if_pos (by omega)]
  rfl
noncomputable def settled (p : Post) (n : U) : Post :=
 (p.addr, (U.of (p.due.val - n.val), (p.costs, (p.rewards, (U.of (p.paid.val + n.val), ((if p.due.val - n.val = 0 then I.of .u64 0 else p.since), ()))))))
noncomputable def a8D (l : List Post) (a : I .u64) (n : U) : List Post × I .i64 :=
 if b0Q l = true then
  if atN l a < l.length then
   if n.val ≤ (Post.due (rdL dP l (atN l a))).val then
    if (Post.paid (rdL dP l (atN l a))).val + n.val < U.top then (setAt l (atN l a) (settled (rdL dP l (atN l a)) n), I.of .i64 0)
    else ([], I.of .i64 4)
   else ([], I.of .i64 10)
  else ([], I.of .i64 8)
 else ([], I.of .i64 2)
theorem b6Q {l : List Post} {a : I .u64} (hl : l.length ≤ 1073741824) : I.ltb (atI l a) (I.of .i64 0) = decide (¬ atN l a < l.length) := by
 unfold atI
 by_cases h : atN l a < l.length
 ·
  rw [if_pos h, decide_eq_false (by simpa using h)]
  exact niff_ltb.2 (by rw [a1D (by omega)]; show (0 : Int) ≤ _; omega)
 ·
  rw [if_neg h, decide_eq_true h]
  rfl
theorem b9R {X : Type} (l : List X) (i : Nat) (v w : X) : setAt (setAt l i v) i w = setAt l i w := by simp [a2J]
theorem c0I (l : List Post) (hl : l.length ≤ 1073741824) : a0S ((l, ()), ()) = some ((), (l, ())) := by
 refine Wp.out (T := fun o => o = _) ?_
 unfold a0S
 refine Wp.brn (fun h => ?_) (fun h => ?_)
 ·
  have h : l.length = 0 := by
   have : c2R l.length = true := h
   exact Nat.eq_of_beq_eq_true this
  have := List.eq_nil_of_length_eq_zero h
  subst this
  show both _ _ _ = _
  have hb : brn (a2P (a0O (a0G ([] : List Post) []))) (some ((), (a0G ([] : List Post) [], ()))) none = some ((), (([] : List Post), ())) := rfl
  exact e1T rfl
 ·
  exact Wp.brnT (a7Y (by show ([] ++ l).length ≤ _; simpa using hl)) rfl
theorem d9C (l : List Post) (a : I .u64) (n : U) (hl : l.length ≤ 1073741824) : a8L ((l, (a, (n, ()))), ()) = some (((a8D l a n).1, ((a8D l a n).2, ())), ()) := by
 refine Wp.out (T := fun o => o = _) ?_
 unfold a8L
 refine Wp.optF (c3H a hl) (Wp.optF (b5K hl) ?_)
 unfold a8D
 refine Wp.brn (fun h => ?_) (fun h => ?_)
 ·
  have h : b0Q l = false := by have : a2R (b0Q l) = true := h; revert this; cases b0Q l <;> simp [a2R]
  rw [if_neg (by rw [h]; simp)]
  rfl
 ·
  have h : b0Q l = true := by have : a2R (b0Q l) = false := h; revert this; cases b0Q l <;> simp [a2R]
  rw [if_pos h]
  refine Wp.brn (fun h => ?_) (fun h => ?_)
  ·
   have h := of_decide_eq_true ((b6Q hl).symm.trans h)
   rw [if_neg h]
   rfl
  ·
   have h := of_decide_eq_false ((b6Q hl).symm.trans h)
   have h : atN l a < l.length := by simpa using h
   rw [if_pos h]
   have e : atI l a = i6 (atN l a) := if_pos h
   simp only [e, a3H (show atN l a < 9223372036854775808 by omega)]
   have bi : inB (i6 (atN l a)) l.length = true := a3F h (by omega)
   refine Wp.brnT bi ?_
   refine Wp.optF (b9A _ _) ?_
   generalize rdL dP l (atN l a) = p
   by_cases hd : n.val ≤ (Post.due p).val
   ·
    rw [if_pos hd]
    have es : d7O (Post.due p) n = (U.of ((Post.due p).val - n.val), I.of .i64 0) := if_pos hd
    rw [es]
    refine Wp.brnF rfl ?_
    refine Wp.optF (b7Y _ _) ?_
    by_cases hp : (Post.paid p).val + n.val < U.top
    ·
     rw [if_pos hp]
     rw [a9I hp]
     refine Wp.brnF rfl ?_
     refine Wp.jn (fun s => s = ((l, (i6 (atN l a), ())), (settled p n, ()))) ?_ ?_
     ·
      rintro s rfl
      refine Wp.optF (c0I l hl) ?_
      simp only [a3H (show atN l a < 9223372036854775808 by omega)]
      exact Wp.brnT bi rfl
     ·
      intro j hj
      refine Wp.optF (b0P _) ?_
      have hv : (U.of ((Post.due p).val - n.val)).val = (Post.due p).val - n.val := U.val_of (by have := U.lt (Post.due p); omega)
      refine Wp.brn (fun hz => ?_) (fun hz => ?_)
      ·
       have hz := of_decide_eq_true hz
       have hz : (Post.due p).val - n.val = 0 := hv.symm.trans hz
       refine hj _ ?_
       unfold settled
       rw [if_pos hz]
      ·
       have hz := of_decide_eq_false hz
       have hz : ¬ (Post.due p).val - n.val = 0 := fun e => hz (hv.trans e)
       refine hj _ ?_
       unfold settled
       rw [if_neg hz]
    ·
     rw [if_neg hp]
     have e4 : b4V ((Post.paid p).val + n.val) = (U.of 0, I.of .i64 4) := b6R (Nat.le_of_not_lt hp)
     rw [show b4V (U.val p.2.2.2.2.1 + n.val) = (U.of 0, I.of .i64 4) from e4]
     exact Wp.brnT rfl rfl
   ·
    rw [if_neg hd]
    have es : d7O (Post.due p) n = (U.of 0, I.of .i64 4) := if_neg hd
    rw [es]
    exact Wp.brnT rfl rfl
theorem c7T (l : List Post) (a : I .u64) (n : U) (hl : l.length ≤ 1073741824) : a4K ((l, (a, (n, ()))), ()) = some (((a8D l a n).1, ((a8D l a n).2, ())), ()) := by
 refine Wp.out (T := fun o => o = _) ?_
 unfold a4K
 refine Wp.optF (b2V hl) ?_
 unfold a8D
 refine Wp.brn (fun h => ?_) (fun h => ?_)
 ·
  have h : b0Q l = false := by have : a2R (b0Q l) = true := h; revert this; cases b0Q l <;> simp [a2R]
  rw [if_neg (by rw [h]; simp)]
  rfl
 ·
  have h : b0Q l = true := by have : a2R (b0Q l) = false := h; revert this; cases b0Q l <;> simp [a2R]
  rw [if_pos h]
  refine Wp.optF (b6B a hl) ?_
  refine Wp.brn (fun h => ?_) (fun h => ?_)
  ·
   have h := of_decide_eq_true ((b6Q hl).symm.trans h)
   rw [if_neg h]
   rfl
  ·
   have h := of_decide_eq_false ((b6Q hl).symm.trans h)
   have h : atN l a < l.length := by simpa using h
   rw [if_pos h]
   have e : atI l a = i6 (atN l a) := if_pos h
   have en : a0G ([] : List Post) l = l := rfl
   simp only [e, a3H (show atN l a < 9223372036854775808 by omega), b9R, b4C, en]
   have bi : inB (i6 (atN l a)) l.length = true := a3F h (by omega)
   refine Wp.brnT (a7Y hl) (Wp.brnT bi ?_)
   refine Wp.optF (c8H _ _) ?_
   simp only [true_and, h, if_true]
   generalize rdL dP l (atN l a) = p
   by_cases hd : n.val ≤ (Post.due p).val
   ·
    rw [if_pos hd]
    have es : d7O (Post.due p) n = (U.of ((Post.due p).val - n.val), I.of .i64 0) := if_pos hd
    rw [es]
    refine Wp.brnF rfl ?_
    refine Wp.optF (d9B _ _) ?_
    by_cases hp : (Post.paid p).val + n.val < U.top
    ·
     rw [if_pos hp]
     rw [a9I hp]
     refine Wp.brnF rfl ?_
     refine Wp.optF (b8G _) ?_
     have hv : (U.of ((Post.due p).val - n.val)).val = (Post.due p).val - n.val := U.val_of (by have := U.lt (Post.due p); omega)
     refine Wp.brn (fun hz => ?_) (fun hz => ?_)
     ·
      have hz := of_decide_eq_true hz
      have hz : (Post.due p).val - n.val = 0 := hv.symm.trans hz
      unfold settled
      rw [if_pos hz]
      rfl
     ·
      have hz := of_decide_eq_false hz
      have hz : ¬ (Post.due p).val - n.val = 0 := fun e => hz (hv.trans e)
      unfold settled
      rw [if_neg hz]
      rfl
    ·
     rw [if_neg hp]
     have e4 : b4V ((Post.paid p).val + n.val) = (U.of 0, I.of .i64 4) := b6R (Nat.le_of_not_lt hp)
     rw [show b4V (U.val p.2.2.2.2.1 + n.val) = (U.of 0, I.of .i64 4) from e4]
     exact Wp.brnT rfl rfl
   ·
    rw [if_neg hd]
    have es : d7O (Post.due p) n = (U.of 0, I.of .i64 4) := if_neg hd
    rw [es]
    exact Wp.brnT rfl rfl
end Sym

/- Payments: sums, both programs' plans. -/
namespace Sym
open Go
abbrev Pay : Type := a0N
noncomputable abbrev dY : Pay := a2F
theorem e4Z : Z_U = U.of 0 := by apply U.ext; rfl
def a6K (l : List Nat) : Nat := l.foldr (· + ·) 0
theorem d6H (l m : List Nat) : a6K (l ++ m) = a6K l + a6K m := by
 induction l with
 | nil => simp [a6K]
 | cons x l ih => simp only [a6K, List.cons_append, List.foldr_cons] at *; omega
theorem c1A {X : Type} (d : X) (f : X → Nat) {l : List X} {i : Nat} (h : i < l.length) : a6K ((l.take (i + 1)).map f) = a6K ((l.take i).map f) + f (rdL d l i) := by
 rw [List.take_succ_eq_append_getElem h, List.map_append, d6H, ← a3Z d l i h]
 simp [a6K]
theorem d3N {X : Type} (f : X → Nat) (l : List X) (i : Nat) : a6K ((l.take i).map f) ≤ a6K (l.map f) := by
 have : a6K (l.map f) = a6K ((l.take i).map f) + a6K ((l.drop i).map f) := by
  rw [← d6H, ← List.map_append, List.take_append_drop]
 omega
theorem c2I {X : Type} (f : X → Nat) (B : Nat) (hB : ∀ x, f x < B) : ∀ l : List X, a6K (l.map f) ≤ l.length * B
 | [] => by simp [a6K]
 | x :: l => by
  have := c2I f B hB l
  have := hB x
  simp only [a6K, List.map_cons, List.foldr_cons, List.length_cons, Nat.succ_mul] at *
  omega
def amt (q : Pay) : Nat := U.val q.2.1
theorem f1A {l : List Pay} (hl : l.length ≤ 1073741824) : b2D ((l, ()), ()) = some (((b4V (a6K (l.map amt))).1, ((b4V (a6K (l.map amt))).2, ())), ()) := by
 refine Wp.out (T := fun o => o = _) ?_
 unfold b2D
 simp only [a4W, a4I, a7U, a7Z]
 refine Wp.iter (fun s => ∃ i, s = ((l, (i6 l.length, (i6 i, ()))), (Z_U, (U.of (a6K ((l.take i).map amt)), ()))) ∧ i ≤ l.length ∧ a6K ((l.take i).map amt) < U.top) (fun s => l.length - s.1.2.2.1.val.toNat) ?_ ⟨0, by rw [e4Z]; rfl, by omega, by show (0 : Nat) < _; decide⟩ ?_
 ·
  rintro s ⟨i, rfl, hi, ht⟩
  simp only [a5U (show i < 9223372036854775808 by omega) (show l.length < 9223372036854775808 by omega), a3H (show i < 9223372036854775808 by omega), a5W (show i + 1 < 9223372036854775808 by omega)]
  refine Wp.brn (fun hc => ?_) (fun hc => ?_)
  ·
   have hc := of_decide_eq_true hc
   refine Wp.brnT (a3F (by omega) (by omega)) ?_
   refine Wp.optF (Add_errS' ht _) ?_
   have hs := c1A dY amt hc
   have hs' : a6K ((l.take i).map amt) + U.val (rdL a2F l i).2.1 = a6K ((l.take (i + 1)).map amt) := hs.symm
   rw [hs']
   by_cases h : a6K ((l.take (i + 1)).map amt) < U.top
   ·
    rw [a9I h]
    refine Wp.brnF rfl ?_
    exact Wp.again ⟨i + 1, rfl, by omega, h⟩ (by show l.length - (i6 (i + 1)).val.toNat < l.length - (i6 i).val.toNat; rw [a1D (by omega), a1D (by omega)]; omega)
   ·
    have h2 := d3N amt l (i + 1)
    rw [b6R (n := a6K ((l.take (i + 1)).map amt)) (by omega), b6R (n := a6K (l.map amt)) (by omega), e4Z]
    exact Wp.brnT rfl (Wp.done rfl)
  ·
   have hc := of_decide_eq_false hc
   rw [List.take_of_length_le (by omega)] at ht ⊢
   rw [a9I ht]
   exact Wp.done rfl
 ·
  rw [a5J]
  show l.length - _ < _
  omega
theorem f9F (q : Pay) : amt q < U.top := U.lt _
theorem f1I {l : List Pay} (hl : l.length ≤ 1073741824) : a8R ((l, ()), ()) = some (((b4V (a6K (l.map amt))).1, ((b4V (a6K (l.map amt))).2, ())), ()) := by
 refine Wp.out (T := fun o => o = _) ?_
 unfold a8R
 simp only [a4W, a4I, a7U, a7Z]
 have hb : ∀ i, a6K ((l.take i).map amt) < 65536 ^ 19 := fun i => by
  have h1 := d3N amt l i
  have h2 := c2I amt U.top f9F l
  have h3 : l.length * U.top ≤ 1073741824 * U.top := Nat.mul_le_mul_right _ hl
  have h4 : 1073741824 * U.top < 65536 ^ 19 := by decide
  omega
 refine Wp.iter (fun s => ∃ i r, s = ((l, (r, (i6 i, ()))), (Z_U, ())) ∧ i ≤ l.length ∧ IsB r (a6K ((l.take i).map amt))) (fun s => l.length - s.1.2.2.1.val.toNat) ?_ ⟨0, [], rfl, by omega, c3S⟩ ?_
 ·
  rintro s ⟨i, r, rfl, hi, hr⟩
  simp only [a5U (show i < 9223372036854775808 by omega) (show l.length < 9223372036854775808 by omega), a3H (show i < 9223372036854775808 by omega), a5W (show i + 1 < 9223372036854775808 by omega)]
  refine Wp.brn (fun hc => ?_) (fun hc => ?_)
  ·
   have hc := of_decide_eq_true hc
   refine Wp.brnT (a3F (by omega) (by omega)) ?_
   refine Wp.call (a6B _) ?_
   rintro _ ⟨x, rfl, hx⟩
   obtain ⟨z, g, k⟩ := b3I hr hx (a5G hr 19 (hb i) (by decide)) (b1R hx)
   refine Wp.optF g ?_
   refine Wp.again ⟨i + 1, z, rfl, by omega, ?_⟩ (by show l.length - (i6 (i + 1)).val.toNat < l.length - (i6 i).val.toNat; rw [a1D (by omega), a1D (by omega)]; omega)
   rw [c1A dY amt hc]
   exact k
  ·
   have hc := of_decide_eq_false hc
   have hbl := hb l.length
   rw [List.take_of_length_le (by omega)] at hr hbl
   refine Wp.done (Wp.optF (Checked_ok' hr (a5G hr 19 hbl (by decide))) ?_)
   rfl
 ·
  rw [a5J]
  show l.length - _ < _
  omega
def b0D (p : Post) : Nat := U.val p.due
theorem d4I {l : List Post} (hl : l.length ≤ 1073741824) : a6U ((l, ()), ()) = if b0Q l = true then some (((b4V (a6K (l.map b0D))).1, ((b4V (a6K (l.map b0D))).2, ())), ()) else some ((Z_U, (I.of .i64 2, ())), ()) := by
 refine Wp.out (T := fun o => o = _) ?_
 unfold a6U
 simp only [a4W, a4I, a7U, a7Z]
 refine Wp.optF (b5K hl) ?_
 refine Wp.brn (fun h => ?_) (fun h => ?_)
 ·
  have h : b0Q l = false := by have : a2R (b0Q l) = true := h; revert this; cases b0Q l <;> simp [a2R]
  rw [if_neg (by rw [h]; simp)]
  rfl
 ·
  have h : b0Q l = true := by have : a2R (b0Q l) = false := h; revert this; cases b0Q l <;> simp [a2R]
  rw [if_pos h]
  refine Wp.iter (fun s => ∃ i, s = ((l, (i6 l.length, (i6 i, ()))), (Z_U, (U.of (a6K ((l.take i).map b0D)), ()))) ∧ i ≤ l.length ∧ a6K ((l.take i).map b0D) < U.top) (fun s => l.length - s.1.2.2.1.val.toNat) ?_ ⟨0, by rw [e4Z]; rfl, by omega, by show (0 : Nat) < _; decide⟩ ?_
  ·
   rintro s ⟨i, rfl, hi, ht⟩
   simp only [a5U (show i < 9223372036854775808 by omega) (show l.length < 9223372036854775808 by omega), a3H (show i < 9223372036854775808 by omega), a5W (show i + 1 < 9223372036854775808 by omega)]
   refine Wp.brn (fun hc => ?_) (fun hc => ?_)
   ·
    have hc := of_decide_eq_true hc
    refine Wp.brnT (a3F (by omega) (by omega)) ?_
    refine Wp.optF (Add_errS' ht _) ?_
    have hs := c1A dP b0D hc
    have hs' : a6K ((l.take i).map b0D) + U.val (rdL a0B l i).2.1 = a6K ((l.take (i + 1)).map b0D) := hs.symm
    rw [hs']
    by_cases h : a6K ((l.take (i + 1)).map b0D) < U.top
    ·
     rw [a9I h]
     refine Wp.brnF rfl ?_
     exact Wp.again ⟨i + 1, rfl, by omega, h⟩ (by show l.length - (i6 (i + 1)).val.toNat < l.length - (i6 i).val.toNat; rw [a1D (by omega), a1D (by omega)]; omega)
    ·
     have h2 := d3N b0D l (i + 1)
     rw [b6R (n := a6K ((l.take (i + 1)).map b0D)) (by omega), b6R (n := a6K (l.map b0D)) (by omega), e4Z]
     exact Wp.brnT rfl (Wp.done rfl)
   ·
    have hc := of_decide_eq_false hc
    rw [List.take_of_length_le (by omega)] at ht ⊢
    rw [a9I ht]
    exact Wp.done rfl
  ·
   rw [a5J]
   show l.length - _ < _
   omega
noncomputable def a7O : List Post → Nat → List Pay
 | [], _ => []
 | p :: r, n => if n = 0 then [] else (p.addr, (U.of (min (b0D p) n), ())) :: a7O r (n - min (b0D p) n)
theorem b7X (l : List Post) : a7O l 0 = [] := by cases l <;> simp [a7O]
theorem d1Z : ∀ (l : List Post) (n : Nat), (a7O l n).length ≤ l.length
 | [], n => Nat.le_refl _
 | p :: r, n => by
  have := d1Z r (n - min (b0D p) n)
  simp only [a7O]
  split <;> simp <;> omega
noncomputable def d5H (l : List Post) (pool : U) : List Pay × I .i64 :=
 if b0Q l = true then (a7O ((b2X l).map (·.1)) pool.val, I.of .i64 0) else ([], I.of .i64 2)
theorem nz_u {a : U} : a2R (Ty.eqb (.arr 4 (.int .u64)) a Z_U) = decide (a.val ≠ 0) := by
 rw [e1V]
 by_cases h : a.val = 0 <;> simp [h, a2R]
theorem e5Z (l : List Post) (pool : U) (hl : l.length ≤ 1073741824) : b0R ((l, (pool, ())), ()) = some (((d5H l pool).1, ((d5H l pool).2, ())), ()) := by
 refine Wp.out (T := fun o => o = _) ?_
 unfold b0R d5H
 refine Wp.optF (b5K hl) ?_
 refine Wp.brn (fun h => ?_) (fun h => ?_)
 ·
  have h : b0Q l = false := by have : a2R (b0Q l) = true := h; revert this; cases b0Q l <;> simp [a2R]
  rw [if_neg (by rw [h]; simp)]
  rfl
 ·
  have h : b0Q l = true := by have : a2R (b0Q l) = false := h; revert this; cases b0Q l <;> simp [a2R]
  rw [if_pos h]
  refine Wp.call (f7Y hl) ?_
  rintro _ ⟨h0, rfl, q0⟩
  have hs := c6D l
  have q0 : QOf h0 (b2X l) := q0
  refine Wp.call (e3C q0 (by omega)) ?_
  rintro _ ⟨h1, rfl, q1⟩
  refine Wp.iter (fun s => ∃ r h out n, s = ((!r.isEmpty, ()), (n, (out, (((), ()), (h, (hdP r, ())))))) ∧ QOf h r.tail ∧ out ++ a7O (r.map (·.1)) (U.val n) = a7O ((b2X l).map (·.1)) pool.val ∧ out.length + r.length ≤ (b2X l).length) (fun s => (b2X l).length - s.2.2.1.length) ?_ ⟨b2X l, h1, [], pool, rfl, q1, rfl, by simp⟩ ?_
  ·
   rintro s ⟨r, h, out, n, rfl, q, ho, hol⟩
   have fin : out = a7O ((b2X l).map (·.1)) pool.val → Wp (fun o => o = some (((a7O ((b2X l).map (·.1)) pool.val, I.of .i64 0).1, ((a7O ((b2X l).map (·.1)) pool.val, I.of .i64 0).2, ())), ())) (some ((out, ((I.of .i64 0), ())), ())) := fun e => by rw [e]; rfl
   refine Wp.jn (fun s => ∃ z b m r', r = m :: r' ∧ U.val n ≠ 0 ∧ s = ((n, (z, (b, ()))), (n, (out, (((), ()), (h, (m.1, ()))))))) ?_ ?_
   ·
    rintro s ⟨z, b, m, r', rfl, hn, rfl⟩
    refine Wp.optF (c6R _ _) ?_
    refine Wp.optF (b7P _ _) ?_
    have hol' : out.length + (r'.length + 1) ≤ (b2X l).length := hol
    refine Wp.brnT (a7Y (by show (out ++ [_]).length ≤ _; simp; omega)) ?_
    have q : QOf h r' := q
    refine Wp.call (e3C q (by omega)) ?_
    rintro _ ⟨h', rfl, q'⟩
    have e1 : minS (Post.due m.1) n = U.of (min (b0D m.1) (U.val n)) := by
     rw [← U.of_val (minS (Post.due m.1) n), d7W]
     rfl
    refine Wp.again ⟨r', h', out ++ [(Post.addr m.1, (minS (Post.due m.1) n, ()))], U.of (U.val n - (minS (Post.due m.1) n).val), rfl, q', ?_, by rw [List.length_append]; simp; omega⟩ ?_
    ·
     rw [← ho, U.val_of (by have := U.lt n; omega), d7W, e1]
     simp only [List.map_cons, a7O, if_neg hn, List.append_assoc, List.singleton_append]
     rfl
    ·
     show (b2X l).length - (out ++ [_]).length < (b2X l).length - out.length
     simp
     omega
   ·
    intro j hj
    cases r with
    | nil =>
     refine Wp.brnF rfl (Wp.done (fin ?_))
     rw [← ho]
     simp [a7O]
    | cons m r' =>
     refine Wp.brnT rfl ?_
     refine Wp.brn (fun hz => ?_) (fun hz => ?_)
     ·
      have hz := of_decide_eq_true (nz_u.symm.trans hz)
      exact hj _ ⟨_, _, m, r', rfl, hz, rfl⟩
     ·
      have hz := of_decide_eq_false (nz_u.symm.trans hz)
      have hz : U.val n = 0 := by simpa using hz
      refine Wp.done (fin ?_)
      rw [← ho, hz, b7X, List.append_nil]
  ·
   rw [a5J]
   show (b2X l).length - _ < _
   omega
theorem f3U {a b : List Dg} {m n : Nat} (ha : IsB a m) (hb : IsB b n) (hal : a.length ≤ 1000000) (hbl : b.length ≤ 1000000) : ∃ y, a9F ((a, (b, ())), ()) = some y ∧ ∃ r, y = ((r, ()), ()) ∧ IsB r (min m n) := by
 refine Wp.out (T := fun o => ∃ y, o = some y ∧ ∃ r, y = ((r, ()), ()) ∧ IsB r (min m n)) ?_
 unfold a9F
 refine Wp.optF (c7G ha hb hal hbl) ?_
 have hc : I.ltb (I.of .i64 0) (c1F m n) = decide (n < m) := by
  unfold c1F
  by_cases h : m < n
  ·
   rw [if_pos h, decide_eq_false (by omega)]; rfl
  ·
   rw [if_neg h]
   by_cases h2 : n < m
   ·
    rw [if_pos h2, decide_eq_true h2]; rfl
   ·
    rw [if_neg h2, decide_eq_false h2]; rfl
 refine Wp.brn (fun h => ?_) (fun h => ?_)
 ·
  have h := of_decide_eq_true (hc.symm.trans h)
  exact ⟨_, rfl, b, rfl, by rw [Nat.min_eq_right (by omega)]; exact hb⟩
 ·
  have h := of_decide_eq_false (hc.symm.trans h)
  exact ⟨_, rfl, a, rfl, by rw [Nat.min_eq_left (by omega)]; exact ha⟩
theorem e5C (l : List Post) (pool : U) (hl : l.length ≤ 1073741824) : a8F ((l, (pool, ())), ()) = some (((d5H l pool).1, ((d5H l pool).2, ())), ()) := by
 refine Wp.out (T := fun o => o = _) ?_
 unfold a8F d5H
 refine Wp.optF (b2V hl) ?_
 refine Wp.brn (fun h => ?_) (fun h => ?_)
 ·
  have h : b0Q l = false := by have : a2R (b0Q l) = true := h; revert this; cases b0Q l <;> simp [a2R]
  rw [if_neg (by rw [h]; simp)]
  rfl
 ·
  have h : b0Q l = true := by have : a2R (b0Q l) = false := h; revert this; cases b0Q l <;> simp [a2R]
  rw [if_pos h]
  refine Wp.optF (e2H hl) ?_
  have hs := c6D l
  obtain ⟨o, ho⟩ : ∃ o, o = (b2X l).map (·.1) := ⟨_, rfl⟩
  have hol : o.length ≤ 1073741824 := by rw [ho, List.length_map]; omega
  rw [← ho]
  refine Wp.call (a6B pool) ?_
  rintro _ ⟨left0, rfl, hleft0⟩
  simp only [a4W, a4I, a7U, a7Z]
  refine Wp.iter (fun s => ∃ i left n out, s = ((o, (left, (i6 i, ()))), (out, ())) ∧ i ≤ o.length ∧ IsB left n ∧ n < U.top ∧ out ++ a7O (o.drop i) n = a7O o pool.val ∧ out.length ≤ i) (fun s => o.length - s.1.2.2.1.val.toNat) ?_ ⟨0, left0, pool.val, [], rfl, by omega, hleft0, pool.lt, rfl, by simp⟩ ?_
  ·
   rintro s ⟨i, left, n, out, rfl, hi, hleft, hn, hout, houtl⟩
   have hll : left.length ≤ 1000000 := a5G hleft 16 (by rw [← d9T]; exact hn) (by decide)
   simp only [a5U (show i < 9223372036854775808 by omega) (show o.length < 9223372036854775808 by omega), a5U (show 0 < 9223372036854775808 by omega) (show left.length < 9223372036854775808 by omega)]
   refine Wp.jn (fun s => ∃ z b, i < o.length ∧ n ≠ 0 ∧ s = ((o, (left, (i6 i, (left, (z, (b, ())))))), (out, ()))) ?_ ?_
   ·
    rintro s ⟨z, b, hc, hn0, rfl⟩
    simp only [a3H (show i < 9223372036854775808 by omega), a5W (show i + 1 < 9223372036854775808 by omega)]
    have bi : inB (i6 i) o.length = true := a3F (by omega) (by omega)
    refine Wp.brnT bi ?_
    refine Wp.call (a6B _) ?_
    rintro _ ⟨du, rfl, hdu⟩
    refine Wp.call (f3U hleft hdu hll (b1R hdu)) ?_
    rintro _ ⟨mn, rfl, hmn⟩
    have hmin : min n (U.val (Post.due (rdL dP o i))) ≤ n := Nat.min_le_left _ _
    refine Wp.brnT bi ?_
    refine Wp.optF (a2H hmn (by show min n _ < _; omega)) ?_
    refine Wp.brnT (a7Y (by show (out ++ [_]).length ≤ _; simp; omega)) ?_
    obtain ⟨z', g, k⟩ := c2T hleft hmn hmin hll
    refine Wp.optF g ?_
    refine Wp.again ⟨i + 1, z', n - min n (b0D (rdL dP o i)), _, rfl, by omega, k, by omega, ?_, by show (out ++ [_]).length ≤ _; simp; omega⟩ (by show o.length - (i6 (i + 1)).val.toNat < o.length - (i6 i).val.toNat; rw [a1D (by omega), a1D (by omega)]; omega)
    rw [← hout, List.drop_eq_getElem_cons hc, ← a3Z dP o i hc]
    simp only [a7O, if_neg hn0, f1Y, List.append_assoc, List.singleton_append]
    rw [Nat.min_comm (b0D (rdL dP o i)) n]
    rfl
   ·
    intro j hj
    refine Wp.brn (fun hc => ?_) (fun hc => ?_)
    ·
     have hc := of_decide_eq_true hc
     refine Wp.brn (fun hz => ?_) (fun hz => ?_)
     ·
      have hz := of_decide_eq_true hz
      refine hj _ ⟨_, _, hc, ?_, rfl⟩
      intro e
      subst e
      have := (hleft.len (k := 0)).2 (by decide)
      omega
     ·
      have hz := of_decide_eq_false hz
      have : n = 0 := by
       have := (hleft.len (k := 0)).1 (by omega)
       simpa using this
      subst this
      rw [b7X, List.append_nil] at hout
      refine Wp.done ?_
      rw [← hout]
      rfl
    ·
     have hc := of_decide_eq_false hc
     rw [List.drop_eq_nil_iff.2 (by omega)] at hout
     refine Wp.done ?_
     rw [← hout]
     simp [a7O]
     rfl
  ·
   rw [a5J]
   show o.length - _ < _
   omega
end Sym

/- Sums that stop at the top; numbers by shape. -/
namespace Sym
open Go
theorem c0W (x n : I .i64) (h : 0 < n.val) : ∃ y : I .i64, a9M ((x, n, ()), ()) = some ((y, ()), ()) ∧ 0 ≤ y.val ∧ y.val < n.val := by
 have hn := b4F n
 have e : (I.conv .u64 n).val = n.val := b1K ⟨by omega, by omega⟩
 have hx := a2Z (I.conv .u64 x)
 have er : (I.rem (I.conv .u64 x) (I.conv .u64 n)).val = (I.conv .u64 x).val % n.val := by rw [e0H (by omega), e]
 have h3 := Int.emod_nonneg (I.conv .u64 x).val (b := n.val) (by omega)
 have h4 := Int.emod_lt_of_pos (I.conv .u64 x).val (b := n.val) (by omega)
 have ec : (I.conv .i64 (I.rem (I.conv .u64 x) (I.conv .u64 n))).val = (I.conv .u64 x).val % n.val := by
  show (I.of .i64 _).val = _
  rw [er]
  exact b1T ⟨by omega, by omega⟩
 refine ⟨I.conv .i64 (I.rem (I.conv .u64 x) (I.conv .u64 n)), ?_, by omega, by omega⟩
 refine Wp.out (T := fun o => o = _) ?_
 unfold a9M
 refine Wp.brnT (iff_nz.2 ?_) rfl
 show (I.conv .u64 n).val ≠ 0
 omega
end Sym

/- Tables of posters: what is generated is well formed. -/
namespace Sym
open Go
theorem TableOk.lt {l : List Post} (h : TableOk l) : ∀ j, j < l.length → ∀ i, i < j → (Post.addr (rdL dP l i)).val < (Post.addr (rdL dP l j)).val := by
 intro j
 induction j with
 | zero => intro _ i hi; omega
 | succ j ih =>
  intro hj i hi
  have h1 := (h.2 (j + 1) hj).2 (by omega)
  rw [Nat.add_sub_cancel] at h1
  rcases (by omega : i < j ∨ i = j) with h2 | rfl
  ·
   have := ih (by omega) i h2
   omega
  ·
   exact h1
theorem table_iff {l : List Post} : TableOk l ↔ l.length ≤ 64 ∧ (∀ p ∈ l, a9Y p) ∧ l.Pairwise fun p q => (Post.addr p).val < (Post.addr q).val := by
 constructor
 ·
  intro h
  refine ⟨h.1, fun p hp => ?_, List.pairwise_iff_getElem.2 fun i j hi hj hij => ?_⟩
  ·
   obtain ⟨k, hk, rfl⟩ := b9K dP hp
   exact (h.2 k hk).1
  ·
   rw [← a3Z dP l i hi, ← a3Z dP l j hj]
   exact h.lt j hj i hij
 ·
  rintro ⟨h1, h2, h3⟩
  refine ⟨h1, fun i hi => ⟨h2 _ (b9G dP l i hi), fun h0 => ?_⟩⟩
  have := List.pairwise_iff_getElem.1 h3 (i - 1) i (by omega) hi (by omega)
  rw [a3Z dP l i hi, a3Z dP l (i - 1) (by omega)]
  exact this
theorem a8G : TableOk [] := ⟨by simp, fun i hi => by simp at hi⟩
theorem d7H {l : List Post} (h : TableOk l) {k : Nat} (hk : k < l.length) {v : Post} (hv : a9Y v) (ha : Post.addr v = Post.addr (rdL dP l k)) : TableOk (setAt l k v) := by
 have hlen : (setAt l k v).length = l.length := by rw [a2J, List.length_set]
 have haddr : ∀ i, Post.addr (rdL dP (setAt l k v) i) = Post.addr (rdL dP l i) := by
  intro i
  rw [b4C]
  split
  ·
   rename_i e
   rw [ha, e.1]
  ·
   rfl
 refine ⟨by rw [hlen]; exact h.1, fun i hi => ?_⟩
 rw [hlen] at hi
 rw [haddr, haddr]
 refine ⟨?_, (h.2 i hi).2⟩
 rw [b4C]
 split
 ·
  exact hv
 ·
  exact (h.2 i hi).1
theorem c7O {p : Post} {n : U} (h : a9Y p) (h1 : n.val ≤ (Post.due p).val) (h2 : (Post.paid p).val + n.val < U.top) : a9Y (settled p n) := by
 obtain ⟨ha, hb, hc⟩ := h
 have hd := U.lt (Post.due p)
 refine ⟨ha, ?_, ?_⟩
 ·
  show (U.of ((Post.due p).val - n.val)).val + (U.of ((Post.paid p).val + n.val)).val = _
  rw [U.val_of (by omega), U.val_of h2]
  show _ = (Post.costs p).val + (Post.rewards p).val
  omega
 ·
  show (if (Post.due p).val - n.val = 0 then I.of .u64 0 else Post.since p).val = 0 ↔ (U.of ((Post.due p).val - n.val)).val = 0
  rw [U.val_of (by omega)]
  split
  ·
   rename_i e
   rw [e]
   exact ⟨fun _ => rfl, fun _ => rfl⟩
  ·
   rename_i e
   rw [hc]
   omega
theorem d8B {l : List Post} (h : TableOk l) (a : I .u64) (n : U) : TableOk (a8D l a n).1 := by
 unfold a8D
 split
 ·
  split
  ·
   rename_i hk
   split
   ·
    rename_i h1
    split
    ·
     rename_i h2
     exact d7H h hk (c7O (h.2 _ hk).1 h1 h2) rfl
    ·
     exact a8G
   ·
    exact a8G
  ·
   exact a8G
 ·
  exact a8G
def Good (o : Option ((List Post × (I .i64 × Unit)) × Unit)) : Prop := ∃ y, o = some y ∧ ∃ out e, y = ((out, (e, ())), ()) ∧ TableOk out
theorem a6Q {out : List Post} {e : I .i64} (h : TableOk out) : Good (some ((out, (e, ())), ())) := ⟨_, rfl, out, e, rfl, h⟩
theorem d2L {l : List Post} (h : TableOk l) (a : I .u64) (n : U) : Good (a4K ((l, (a, (n, ()))), ())) := by
 rw [c7T l a n (by have := h.1; omega)]
 exact a6Q (d8B h a n)
theorem c4X {l : List Post} (h : TableOk l) : a2R (b0Q l) = false := by rw [tabB_t.2 h]; rfl
theorem f1G {a : I .u64} (ha : a.val ≠ 0) : a9Y (a, (Z_U, (Z_U, (Z_U, (Z_U, ((I.of .u64 0), ())))))) := ⟨ha, rfl, ⟨fun _ => rfl, fun _ => rfl⟩⟩
theorem d6C {l : List Post} {a : I .u64} (h : ¬ atN l a < l.length) : ∀ k, k < l.length → (Post.addr (rdL dP l k)).val ≠ a.val := by
 intro k hk e
 have h1 : atN l a ≤ l.length := List.findIdx_le_length
 have h2 : atN l a = l.length := by omega
 unfold atN at h2
 rw [List.findIdx_eq_length] at h2
 have := h2 _ (b9G dP l k hk)
 exact absurd (iff_eqb.2 e) (by rw [this]; simp)
theorem d2J {l : List Post} (h : TableOk l) (a : I .u64) : Good (a4G ((l, (a, ())), ())) := by
 refine Wp.out (T := Good) ?_
 have hl := h.1
 unfold a4G
 refine Wp.jn (fun s => s = ((l, (a, ())), ()) ∧ a.val ≠ 0) ?_ ?_
 ·
  rintro s ⟨rfl, ha⟩
  refine Wp.optF (b6B (l := l) a (by omega)) ?_
  have hneg : I.leb (I.of .i64 0) (atI l a) = decide (atN l a < l.length) := by
   have := b6Q (l := l) (a := a) (by omega)
   by_cases h : atN l a < l.length
   ·
    rw [decide_eq_false (by simpa using h)] at this
    rw [decide_eq_true h]
    exact iff_leb.2 (niff_ltb.1 this)
   ·
    rw [decide_eq_true h] at this
    rw [decide_eq_false h]
    exact niff_leb.2 (iff_ltb.1 this)
  refine Wp.brn (fun _ => a6Q a8G) (fun hf => ?_)
  have hf := of_decide_eq_false (hneg.symm.trans hf)
  have hne := d6C hf
  simp only [a4W, a4I, a7U, a7Z]
  refine Wp.brn (fun _ => a6Q a8G) (fun h64 => ?_)
  have h64 := niff_leb.1 h64
  rw [a1D (by omega), show (I.of .i64 64).val = 64 from rfl] at h64
  have hT := table_iff.1 h
  have fin : ∀ k, k ≤ l.length → (∀ i, i < k → (Post.addr (rdL dP l i)).val < a.val) → (∀ i, k ≤ i → i < l.length → a.val < (Post.addr (rdL dP l i)).val) →
    TableOk (l.take k ++ ((a, (Z_U, (Z_U, (Z_U, (Z_U, ((I.of .u64 0), ())))))) :: l.drop k)) := by
   intro k hk h1 h2
   refine table_iff.2 ⟨by simp; omega, fun p hp => ?_, ?_⟩
   ·
    simp only [List.mem_append, List.mem_cons] at hp
    rcases hp with hp | rfl | hp
    ·
     exact hT.2.1 p (List.mem_of_mem_take hp)
    ·
     exact f1G ha
    ·
     exact hT.2.1 p (List.mem_of_mem_drop hp)
   ·
    have ht : ∀ p ∈ l.take k, (Post.addr p).val < a.val := fun p hp => by
     obtain ⟨i, hi, e⟩ := List.getElem_of_mem hp
     rw [List.length_take] at hi
     rw [List.getElem_take] at e
     have := h1 i (by omega)
     rw [a3Z dP l i (by omega), e] at this
     exact this
    have hd : ∀ p ∈ l.drop k, a.val < (Post.addr p).val := fun p hp => by
     obtain ⟨i, hi, e⟩ := List.getElem_of_mem hp
     rw [List.length_drop] at hi
     rw [List.getElem_drop] at e
     have := h2 (k + i) (by omega) (by omega)
     rw [a3Z dP l (k + i) (by omega), e] at this
     exact this
    rw [List.pairwise_append]
    refine ⟨hT.2.2.take, List.pairwise_cons.2 ⟨hd, hT.2.2.drop⟩, fun p hp q hq => ?_⟩
    rcases List.mem_cons.1 hq with rfl | hq
    ·
     exact ht p hp
    ·
     have := ht p hp; have := hd q hq; omega
  refine Wp.iter (fun s => ∃ i put out, s = ((l, (a, (put, (i6 i, ())))), (out, ())) ∧ i ≤ l.length ∧ out.length ≤ i + 1 ∧
    ((put = false ∧ out = l.take i ∧ ∀ k, k < i → (Post.addr (rdL dP l k)).val < a.val) ∨
     (put = true ∧ ∃ k, k < i ∧ out = l.take k ++ ((a, (Z_U, (Z_U, (Z_U, (Z_U, ((I.of .u64 0), ())))))) :: (l.take i).drop k) ∧ (∀ j, j < k → (Post.addr (rdL dP l j)).val < a.val) ∧ (∀ j, k ≤ j → j < l.length → a.val < (Post.addr (rdL dP l j)).val))))
   (fun s => l.length - s.1.2.2.2.1.val.toNat) ?_ ⟨0, false, [], rfl, by omega, by simp, .inl ⟨rfl, rfl, fun k hk => by omega⟩⟩ ?_
  ·
   rintro s ⟨i, put, out, rfl, hi, hol, hcase⟩
   simp only [a5U (show i < 9223372036854775808 by omega) (show l.length < 9223372036854775808 by omega), a3H (show i < 9223372036854775808 by omega)]
   refine Wp.brn (fun hc => ?_) (fun hc => ?_)
   ·
    have hc := of_decide_eq_true hc
    have hm : l.length - (i6 (i + 1)).val.toNat < l.length - (i6 i).val.toNat := by rw [a1D (by omega), a1D (by omega)]; omega
    have bi : inB (i6 i) l.length = true := a3F (by omega) (by omega)
    have htk : l.take (i + 1) = l.take i ++ [rdL dP l i] := by rw [List.take_succ_eq_append_getElem hc, a3Z dP l i hc]
    refine Wp.jn (fun s => ∃ now, s = ((l, (a, (put, (i6 i, (now, ()))))), (out, ())) ∧ (now = true → put = false ∧ a.val < (Post.addr (rdL dP l i)).val) ∧ (now = false → put = false → (Post.addr (rdL dP l i)).val ≤ a.val)) ?_ ?_
    ·
     rintro s ⟨now, rfl, hnow, hnot⟩
     simp only [a3H (show i < 9223372036854775808 by omega), a5W (show i + 1 < 9223372036854775808 by omega)]
     refine Wp.brn (fun hn => ?_) (fun hn => ?_)
     ·
      obtain ⟨hp, hlt⟩ := hnow hn
      rcases hcase with ⟨_, rfl, hlow⟩ | ⟨e, _⟩
      ·
       refine Wp.brnT (a7Y (by show (l.take i ++ [_]).length ≤ _; simp; omega)) (Wp.brnT bi (Wp.brnT (a7Y (by show (l.take i ++ [_] ++ [_]).length ≤ _; simp; omega)) ?_))
       refine Wp.again ⟨i + 1, true, _, rfl, by omega, ?_, .inr ⟨rfl, i, by omega, ?_, hlow, fun j h1 h2 => ?_⟩⟩ hm
       ·
        simp [a0G]; omega
       ·
        rw [htk, List.drop_append, List.drop_of_length_le (by rw [List.length_take]; omega), List.length_take, Nat.min_eq_left (Nat.le_of_lt hc), Nat.sub_self]
        simp [a0G]
       ·
        rcases (by omega : i = j ∨ i < j) with rfl | h3
        ·
         exact hlt
        ·
         have := h.lt j h2 i h3; omega
      ·
       rw [hp] at e; cases e
     ·
      refine Wp.brnT bi (Wp.brnT (a7Y (by show (out ++ [_]).length ≤ _; simp; omega)) ?_)
      refine Wp.again ⟨i + 1, put, _, rfl, by omega, by simpa [a0G] using hol, ?_⟩ hm
      rcases hcase with ⟨hp, ho, hlow⟩ | ⟨hp, k, hk, ho, h1, h2⟩
      ·
       refine .inl ⟨hp, by rw [ho, htk], fun k hk => ?_⟩
       rcases (by omega : k < i ∨ k = i) with h3 | rfl
       ·
        exact hlow k h3
       ·
        have := hnot hn hp
        have := hne k hc
        omega
      ·
       refine .inr ⟨hp, k, by omega, ?_, h1, h2⟩
       rw [ho, htk, List.drop_append_of_le_length (by simp; omega)]
       simp [a0G]
    ·
     intro j hj
     refine Wp.brn (fun hp => ?_) (fun hp => ?_)
     ·
      have hp : put = false := by revert hp; cases put <;> simp [a2R]
      refine Wp.brnT bi (hj _ ⟨_, rfl, fun h => ⟨hp, iff_ltb.1 h⟩, fun h _ => niff_ltb.1 h⟩)
     ·
      have hp : put = true := by revert hp; cases put <;> simp [a2R]
      exact hj _ ⟨false, rfl, ⟨fun h => Bool.noConfusion h, fun _ h => by rw [hp] at h; exact Bool.noConfusion h⟩⟩
   ·
    have hc := of_decide_eq_false hc
    have hi' : i = l.length := by omega
    subst hi'
    refine Wp.done ?_
    rcases hcase with ⟨rfl, ho, hlow⟩ | ⟨rfl, k, hk, ho, h1, h2⟩
    ·
     refine Wp.brnT rfl (Wp.brnT (a7Y (by show (out ++ [_]).length ≤ _; simp; omega)) ?_)
     have := fin l.length (Nat.le_refl _) hlow (fun i h1 h2 => by omega)
     rw [List.drop_length] at this
     rw [ho]
     exact a6Q this
    ·
     refine Wp.brnF rfl ?_
     rw [ho, List.take_length]
     exact a6Q (fin k (by omega) h1 h2)
  ·
   rw [a5J]
   show l.length - _ < _
   omega
 ·
  intro j hj
  refine Wp.optF (b2V (l := l) (by omega)) (Wp.brnF (c4X h) ?_)
  refine Wp.brn (fun _ => a6Q a8G) (fun h0 => hj _ ⟨rfl, ?_⟩)
  exact niff_eqb.1 h0
end Sym

/- Tables of posters: what is generated is well formed: Accrue, the calls. -/
namespace Sym
open Go
theorem b8D {p : Post} (h : a9Y p) (c w : U) (s : I .u64) (hs : s.val ≠ 0) (h1 : (Post.due p).val + (c.val + w.val) < U.top) (h2 : (Post.costs p).val + c.val < U.top) (h3 : (Post.rewards p).val + w.val < U.top) (s' : I .u64)
  (hs' : (s' = s ∧ (Post.due p).val = 0 ∧ 0 < (Post.due p).val + (c.val + w.val)) ∨ (s' = Post.since p ∧ ¬ ((Post.due p).val = 0 ∧ 0 < (Post.due p).val + (c.val + w.val)))) :
  a9Y (p.1, (U.of ((Post.due p).val + (c.val + w.val)), (U.of ((Post.costs p).val + c.val), (U.of ((Post.rewards p).val + w.val), (p.2.2.2.2.1, (s', ())))))) := by
 obtain ⟨ha, hb, hc⟩ := h
 refine ⟨ha, ?_, ?_⟩
 ·
  show (U.of _).val + (Post.paid p).val = (U.of _).val + (U.of _).val
  rw [U.val_of h1, U.val_of h2, U.val_of h3]
  omega
 ·
  show s'.val = 0 ↔ (U.of _).val = 0
  rw [U.val_of h1]
  rcases hs' with ⟨rfl, e1, e2⟩ | ⟨rfl, e⟩
  ·
   constructor
   ·
    intro e; exact absurd e hs
   ·
    intro e; omega
  ·
   rw [hc]
   omega
theorem c6Z {l : List Dg} {n : Nat} (hl : IsB l n) (hlen : l.length ≤ 1000000) : a2W ((l, ()), ()) = some ((decide (n < U.top), ()), ()) := c5W hl (by omega)
theorem e1H {l : List Dg} {n : Nat} (h : IsB l n) : 0 < l.length ↔ 0 < n := by
 have := h.len (k := 0)
 simp only [Nat.pow_zero] at this
 omega
theorem e3E {l : List Dg} {n : Nat} (h : IsB l n) (hl : l.length ≤ 1000000) : I.ltb (I.of .i64 0) (I.ofNat .i64 (a0O l)) = decide (0 < n) := by
 rw [a7U, a4I, a4W, a5U (by omega) (by omega)]
 by_cases hx : 0 < n
 ·
  rw [decide_eq_true hx, decide_eq_true ((e1H h).2 hx)]
 ·
  rw [decide_eq_false hx, decide_eq_false (fun h' => hx ((e1H h).1 h'))]
theorem d2A {l : List Post} (h : TableOk l) (a : I .u64) (c w : U) (since : I .u64) : Good (a3N ((l, (a, (c, (w, (since, ()))))), ())) := by
 refine Wp.out (T := Good) ?_
 have hl := h.1
 unfold a3N
 refine Wp.jn (fun s => s = ((l, (a, (since, ()))), (c, (w, ()))) ∧ since.val ≠ 0) ?_ ?_
 ·
  rintro s ⟨rfl, hs⟩
  refine Wp.optF (b6B (l := l) a (by omega)) ?_
  refine Wp.brn (fun _ => a6Q a8G) (fun hf => ?_)
  have hf := of_decide_eq_false ((b6Q (l := l) (by omega)).symm.trans hf)
  have hf : atN l a < l.length := by simpa using hf
  have e : atI l a = i6 (atN l a) := if_pos hf
  have en : a0G ([] : List Post) l = l := rfl
  simp only [e, a3H (show atN l a < 9223372036854775808 by omega), b9R, b4C, en]
  simp only [true_and, hf, if_true]
  have bi : inB (i6 (atN l a)) l.length = true := a3F hf (by omega)
  have hE := (h.2 _ hf).1
  have hset := fun (v : Post) (hv : a9Y v) (ha : Post.addr v = Post.addr (rdL dP l (atN l a))) => d7H h hf hv ha
  generalize rdL dP l (atN l a) = p at *
  refine Wp.brnT (a7Y (by show l.length ≤ _; omega)) (Wp.brnT bi ?_)
  refine Wp.call (a6B (Post.due p)) ?_
  rintro _ ⟨d1, rfl, b1⟩
  refine Wp.call (a6B c) ?_
  rintro _ ⟨d2, rfl, b2⟩
  refine Wp.call (a6B w) ?_
  rintro _ ⟨d3, rfl, b3⟩
  have t1 := U.lt (Post.due p)
  have t2 := c.lt
  have t3 := w.lt
  have t4 := U.lt (Post.costs p)
  have t5 := U.lt (Post.rewards p)
  have hp : U.top + U.top + U.top ≤ 65536 ^ 17 := by decide
  obtain ⟨d4, g4, b4⟩ := b3I b2 b3 (b1R b2) (b1R b3)
  refine Wp.optF g4 ?_
  obtain ⟨d5, g5, b5⟩ := b3I b1 b4 (b1R b1) (a5G b4 17 (by omega) (by decide))
  refine Wp.optF g5 ?_
  refine Wp.call (a6B (Post.costs p)) ?_
  rintro _ ⟨d6, rfl, b6⟩
  refine Wp.call (a6B c) ?_
  rintro _ ⟨d7, rfl, b7⟩
  obtain ⟨d8, g8, b8⟩ := b3I b6 b7 (b1R b6) (b1R b7)
  refine Wp.optF g8 ?_
  refine Wp.call (a6B (Post.rewards p)) ?_
  rintro _ ⟨d9, rfl, b9⟩
  refine Wp.call (a6B w) ?_
  rintro _ ⟨d10, rfl, b10⟩
  obtain ⟨d11, g11, b11⟩ := b3I b9 b10 (b1R b9) (b1R b10)
  refine Wp.optF g11 ?_
  have l5 := a5G b5 17 (by omega) (by decide)
  have l8 := a5G b8 17 (by omega) (by decide)
  have l11 := a5G b11 17 (by omega) (by decide)
  refine Wp.optF (c6Z b5 l5) ?_
  refine Wp.brn (fun _ => a6Q a8G) (fun f1 => ?_)
  have f1 : (Post.due p).val + (c.val + w.val) < U.top := by
   have : a2R (decide ((Post.due p).val + (c.val + w.val) < U.top)) = false := f1
   by_cases hx : (Post.due p).val + (c.val + w.val) < U.top
   ·
    exact hx
   ·
    rw [decide_eq_false hx] at this; cases this
  refine Wp.optF (c6Z b8 l8) ?_
  refine Wp.brn (fun _ => a6Q a8G) (fun f2 => ?_)
  have f2 : (Post.costs p).val + c.val < U.top := by
   have : a2R (decide ((Post.costs p).val + c.val < U.top)) = false := f2
   by_cases hx : (Post.costs p).val + c.val < U.top
   ·
    exact hx
   ·
    rw [decide_eq_false hx] at this; cases this
  refine Wp.optF (c6Z b11 l11) ?_
  refine Wp.brn (fun _ => a6Q a8G) (fun f3 => ?_)
  have f3 : (Post.rewards p).val + w.val < U.top := by
   have : a2R (decide ((Post.rewards p).val + w.val < U.top)) = false := f3
   by_cases hx : (Post.rewards p).val + w.val < U.top
   ·
    exact hx
   ·
    rw [decide_eq_false hx] at this; cases this
  refine Wp.optF (b8G (Post.due p)) ?_
  have hpos := e3E b5 l5
  refine Wp.brn (fun z => ?_) (fun z => ?_)
  ·
   have z := of_decide_eq_true z
   refine Wp.brn (fun y => ?_) (fun y => ?_)
   ·
    have y := of_decide_eq_true (hpos.symm.trans y)
    refine Wp.optF (a2H b5 f1) (Wp.optF (a2H b8 f2) (Wp.optF (a2H b11 f3) ?_))
    exact a6Q (hset _ (b8D hE c w since hs f1 f2 f3 since (.inl ⟨rfl, z, y⟩)) rfl)
   ·
    have y := of_decide_eq_false (hpos.symm.trans y)
    refine Wp.optF (a2H b5 f1) (Wp.optF (a2H b8 f2) (Wp.optF (a2H b11 f3) ?_))
    exact a6Q (hset _ (b8D hE c w since hs f1 f2 f3 _ (.inr ⟨rfl, fun h => y h.2⟩)) rfl)
  ·
   have z := of_decide_eq_false z
   refine Wp.optF (a2H b5 f1) (Wp.optF (a2H b8 f2) (Wp.optF (a2H b11 f3) ?_))
   exact a6Q (hset _ (b8D hE c w since hs f1 f2 f3 _ (.inr ⟨rfl, fun h => z h.1⟩)) rfl)
 ·
  intro j hj
  refine Wp.optF (b2V (l := l) (by omega)) (Wp.brnF (c4X h) ?_)
  refine Wp.brn (fun _ => a6Q a8G) (fun h0 => hj _ ⟨rfl, ?_⟩)
  exact niff_eqb.1 h0
abbrev Call : Type := a1E
theorem d3Y {l : List Post} (h : TableOk l) (d : Call) : Good (a3M ((l, (d, ())), ())) := by
 refine Wp.out (T := Good) ?_
 have hl := h.1
 unfold a3M
 have again : ∀ o : Option ((List Post × (I .i64 × Unit)) × Unit), Good o → Wp Good (optF none o fun y1 => some ((y1.1.1, (y1.1.2.1, ())), ())) := by
  rintro o ⟨y, rfl, out, e, rfl, ht⟩
  exact a6Q ht
 refine Wp.jn (fun s => ∃ n, s = ((l, ()), (d, (n, ())))) ?_ ?_
 ·
  rintro s ⟨n, rfl⟩
  refine Wp.brn (fun _ => again _ (d2J h _)) (fun _ => Wp.brn (fun _ => again _ (d2A h _ _ _ _)) (fun _ => again _ (d2L h _ _)))
 ·
  intro j hj
  refine Wp.optF (b6B (l := l) _ (by omega)) ?_
  refine Wp.brn (fun _ => Wp.brn (fun hc => ?_) (fun _ => hj _ ⟨_, rfl⟩)) (fun _ => hj _ ⟨_, rfl⟩)
  have hc := iff_leb.1 hc
  refine Wp.brnT ?_ (hj _ ⟨_, rfl⟩)
  have hx : atN l d.2.1 < l.length := by
   by_cases hx : atN l d.2.1 < l.length
   ·
    exact hx
   ·
    have e : atI l d.2.1 = I.of .i64 (-1) := if_neg hx
    have : (0 : Int) ≤ (atI l d.2.1).val := hc
    rw [e] at this
    exact absurd this (by decide)
  have e : atI l d.2.1 = i6 (atN l d.2.1) := if_pos hx
  show inB (atI l d.2.1) l.length = true
  rw [e]
  exact a3F hx (by omega)
theorem d1X (d : Call) (i : I .i64) : ∃ y, a5E ((d, (i, ())), ()) = some y ∧ True := by
 refine Wp.out (T := fun o => ∃ y, o = some y ∧ True) ?_
 unfold a5E
 obtain ⟨m, hm, _⟩ := c0W d.1 (I.of .i64 8) (by decide)
 refine Wp.optF hm ?_
 refine Wp.jn (fun _ => True) (fun s _ => Wp.jn (fun _ => True) (fun s _ => Wp.brn (fun _ => ⟨_, rfl, trivial⟩) (fun _ => ⟨_, rfl, trivial⟩)) (fun j hj => Wp.brn (fun _ => hj _ trivial) (fun _ => hj _ trivial))) (fun j hj => Wp.brn (fun _ => hj _ trivial) (fun _ => hj _ trivial))
theorem d5E (d : List Call) (hd : d.length ≤ 1073741824) : ∃ y, a5S ((d, ()), ()) = some y ∧ ∃ x : List Post, y = ((x, ()), ()) ∧ TableOk x := by
 refine Wp.out (T := fun o => ∃ y, o = some y ∧ ∃ x : List Post, y = ((x, ()), ()) ∧ TableOk x) ?_
 unfold a5S
 refine Wp.iter (fun s => ∃ (k : Nat) (x : List Post), s = ((d, (x, (I.of .u64 (k : Int), ()))), ()) ∧ k ≤ 6 ∧ TableOk x) (fun s => 6 - s.1.2.2.1.nat) ?_ ⟨1, [], rfl, by omega, a8G⟩ ?_
 ·
  rintro s ⟨k, x, rfl, hk, hx⟩
  have hv : (I.of .u64 (k : Int)).val = k := b1K ⟨by omega, by omega⟩
  refine Wp.brn (fun hc => ?_) (fun _ => ?_)
  ·
   have hc := iff_ltb.1 hc
   rw [hv, show (I.of .u64 6).val = 6 from rfl] at hc
   refine Wp.call (d2J hx _) ?_
   rintro _ ⟨out, e, rfl, ht⟩
   have he : I.add (I.of .u64 (k : Int)) (I.of .u64 1) = I.of .u64 ((k + 1 : Nat) : Int) := by
    apply I.ext'
    have h1 : (I.of .u64 ((k + 1 : Nat) : Int)).val = ((k + 1 : Nat) : Int) := b1K ⟨by omega, by omega⟩
    rw [d4P (by rw [hv]; show (k : Int) + 1 < _; omega), hv, h1]
    show (k : Int) + 1 = _
    omega
   refine Wp.again ⟨k + 1, out, by rw [← he]; rfl, by omega, ht⟩ ?_
   show 6 - (I.add (I.of .u64 (k : Int)) (I.of .u64 1)).nat < 6 - (I.of .u64 (k : Int)).nat
   rw [he, b4M (by omega), b4M (by omega)]
   omega
  ·
   refine Wp.done ?_
   simp only [a4W, a4I, a7U, a7Z]
   refine Wp.iter (fun s => ∃ i x, s = ((d, (x, (i6 i, ()))), ()) ∧ i ≤ d.length ∧ TableOk x) (fun s => d.length - s.1.2.2.1.val.toNat) ?_ ⟨0, x, rfl, by omega, hx⟩ ?_
   ·
    rintro s ⟨i, x, rfl, hi, hx⟩
    simp only [a5U (show i < 9223372036854775808 by omega) (show d.length < 9223372036854775808 by omega)]
    refine Wp.jn (fun s => ∃ z b, i < d.length ∧ s = ((d, (x, (i6 i, (z, (b, ()))))), ())) ?_ ?_
    ·
     rintro s ⟨z, b, hc, rfl⟩
     have hm : d.length - (i6 (i + 1)).val.toNat < d.length - (i6 i).val.toNat := by rw [a1D (by omega), a1D (by omega)]; omega
     simp only [a3H (show i < 9223372036854775808 by omega), a5W (show i + 1 < 9223372036854775808 by omega)]
     refine Wp.brnT (a3F (by omega) (by omega)) ?_
     refine Wp.call (d1X _ _) ?_
     rintro y -
     refine Wp.call (d3Y hx y.1.1) ?_
     rintro _ ⟨out, e, rfl, ht⟩
     exact Wp.brn (fun _ => Wp.again ⟨i + 1, out, rfl, by omega, ht⟩ hm) (fun _ => Wp.again ⟨i + 1, x, rfl, by omega, hx⟩ hm)
    ·
     intro j hj
     refine Wp.brn (fun hc => ?_) (fun _ => Wp.done ⟨_, rfl, x, rfl, hx⟩)
     have hc := of_decide_eq_true hc
     exact Wp.brn (fun _ => hj _ ⟨_, _, hc, rfl⟩) (fun _ => Wp.done ⟨_, rfl, x, rfl, hx⟩)
   ·
    rw [a5J]
    show d.length - _ < _
    omega
 ·
  rw [a5J]
  show 6 - _ < _
  omega
end Sym

/- Payments: Apply, the laws that compare with the reference. -/
namespace Sym
open Go
noncomputable def a2I : List Post → List Pay → List Post × I .i64
 | out, [] => (out, I.of .i64 0)
 | out, q :: r => if (a8D out q.1 q.2.1).2.val = 0 then a2I (a8D out q.1 q.2.1).1 r else ([], (a8D out q.1 q.2.1).2)
theorem c7W {l : List Post} {a : I .u64} {n : U} (h : (a8D l a n).2.val = 0) : (a8D l a n).1.length = l.length := by
 unfold a8D at h ⊢
 split at h
 ·
  split at h
  ·
   split at h
   ·
    split at h
    ·
     rename_i h1 h2 h3 h4
     rw [if_pos h1, if_pos h2, if_pos h3, if_pos h4]
     show (setAt l _ _).length = _
     rw [a2J, List.length_set]
    ·
     exact absurd h (by decide)
   ·
    exact absurd h (by decide)
  ·
   exact absurd h (by decide)
 ·
  exact absurd h (by decide)
theorem e3F (l : List Post) (p : List Pay) (hl : l.length ≤ 1073741824) (hp : p.length ≤ 1073741824) : a9G ((l, (p, ())), ()) = some (((a2I l p).1, ((a2I l p).2, ())), ()) := by
 refine Wp.out (T := fun o => o = _) ?_
 unfold a9G
 refine Wp.optF (c0I l hl) ?_
 simp only [a4W, a4I, a7U, a7Z]
 refine Wp.iter (fun s => ∃ i out, s = ((out, (p, (i6 p.length, (i6 i, ())))), ()) ∧ i ≤ p.length ∧ out.length ≤ 1073741824 ∧ a2I out (p.drop i) = a2I l p) (fun s => p.length - s.1.2.2.2.1.val.toNat) ?_ ⟨0, l, rfl, by omega, hl, rfl⟩ ?_
 ·
  rintro s ⟨i, out, rfl, hi, ho, he⟩
  simp only [a5U (show i < 9223372036854775808 by omega) (show p.length < 9223372036854775808 by omega), a3H (show i < 9223372036854775808 by omega), a5W (show i + 1 < 9223372036854775808 by omega)]
  refine Wp.brn (fun hc => ?_) (fun hc => ?_)
  ·
   have hc := of_decide_eq_true hc
   refine Wp.brnT (a3F (by omega) (by omega)) ?_
   rw [List.drop_eq_getElem_cons hc, ← a3Z dY p i hc] at he
   simp only [a2I] at he
   refine Wp.optF (d9C out _ _ ho) ?_
   refine Wp.brn (fun h => ?_) (fun h => ?_)
   ·
    have h := iff_neb.1 h
    have h : ¬ (a8D out (rdL dY p i).1 (rdL dY p i).2.1).2.val = 0 := h
    rw [if_neg h] at he
    rw [← he]
    exact Wp.done rfl
   ·
    have h := niff_neb.1 h
    have h : (a8D out (rdL dY p i).1 (rdL dY p i).2.1).2.val = 0 := h
    rw [if_pos h] at he
    exact Wp.again ⟨i + 1, _, rfl, by omega, by rw [c7W h]; exact ho, he⟩ (by show p.length - (i6 (i + 1)).val.toNat < p.length - (i6 i).val.toNat; rw [a1D (by omega), a1D (by omega)]; omega)
  ·
   have hc := of_decide_eq_false hc
   rw [List.drop_eq_nil_iff.2 (by omega)] at he
   refine Wp.done ?_
   rw [← he]
   rfl
 ·
  rw [a5J]
  show p.length - _ < _
  omega
theorem e1K (l : List Post) (p : List Pay) (hl : l.length ≤ 1073741824) (hp : p.length ≤ 1073741824) : a7G ((l, (p, ())), ()) = some (((a2I l p).1, ((a2I l p).2, ())), ()) := by
 refine Wp.out (T := fun o => o = _) ?_
 unfold a7G
 refine Wp.brnT (a7Y (by show l.length ≤ _; exact hl)) ?_
 simp only [a4W, a4I, a7U, a7Z]
 refine Wp.iter (fun s => ∃ i out, s = ((p, (out, (i6 i, ()))), ()) ∧ i ≤ p.length ∧ out.length ≤ 1073741824 ∧ a2I out (p.drop i) = a2I l p) (fun s => p.length - s.1.2.2.1.val.toNat) ?_ ⟨0, l, rfl, by omega, hl, rfl⟩ ?_
 ·
  rintro s ⟨i, out, rfl, hi, ho, he⟩
  simp only [a5U (show i < 9223372036854775808 by omega) (show p.length < 9223372036854775808 by omega), a3H (show i < 9223372036854775808 by omega), a5W (show i + 1 < 9223372036854775808 by omega)]
  refine Wp.brn (fun hc => ?_) (fun hc => ?_)
  ·
   have hc := of_decide_eq_true hc
   have bi : inB (i6 i) p.length = true := a3F (by omega) (by omega)
   refine Wp.brnT bi (Wp.brnT bi ?_)
   rw [List.drop_eq_getElem_cons hc, ← a3Z dY p i hc] at he
   simp only [a2I] at he
   refine Wp.optF (c7T out _ _ ho) ?_
   refine Wp.brn (fun h => ?_) (fun h => ?_)
   ·
    have h := iff_neb.1 h
    have h : ¬ (a8D out (rdL dY p i).1 (rdL dY p i).2.1).2.val = 0 := h
    rw [if_neg h] at he
    rw [← he]
    exact Wp.done rfl
   ·
    have h := niff_neb.1 h
    have h : (a8D out (rdL dY p i).1 (rdL dY p i).2.1).2.val = 0 := h
    rw [if_pos h] at he
    exact Wp.again ⟨i + 1, _, rfl, by omega, by rw [c7W h]; exact ho, he⟩ (by show p.length - (i6 (i + 1)).val.toNat < p.length - (i6 i).val.toNat; rw [a1D (by omega), a1D (by omega)]; omega)
  ·
   have hc := of_decide_eq_false hc
   rw [List.drop_eq_nil_iff.2 (by omega)] at he
   refine Wp.done ?_
   rw [← he]
   rfl
 ·
  rw [a5J]
  show p.length - _ < _
  omega
abbrev yTy : Ty := .cons (.int .u64) (.cons (.arr 4 (.int .u64)) .nil)
theorem h2C (q : Pay) : Ty.eqb yTy q q = true := eqb_self' (t := yTy) rfl q
theorem c0S (a : List Pay) (ha : a.length ≤ 1073741824) : a4F ((a, (a, ())), ()) = some ((true, ()), ()) := by
 refine Wp.out (T := fun o => o = some ((true, ()), ())) ?_
 unfold a4F
 refine Wp.brnF (niff_neb.2 rfl) ?_
 simp only [a4W, a4I, a7U, a7Z]
 refine Wp.iter (fun s => ∃ i, s = ((a, (a, (i6 i, ()))), ()) ∧ i ≤ a.length) (fun s => a.length - s.1.2.2.1.val.toNat) ?_ ⟨0, rfl, by omega⟩ ?_
 ·
  rintro s ⟨i, rfl, hi⟩
  simp only [a5U (show i < 9223372036854775808 by omega) (show a.length < 9223372036854775808 by omega), a3H (show i < 9223372036854775808 by omega), a5W (show i + 1 < 9223372036854775808 by omega)]
  refine Wp.brn (fun hc => ?_) (fun hc => Wp.done rfl)
  have hc := of_decide_eq_true hc
  have bi : inB (i6 i) a.length = true := a3F (by omega) (by omega)
  refine Wp.brnT bi (Wp.brnT bi (Wp.brnF (congrArg a2R (h2C _)) ?_))
  exact Wp.again ⟨i + 1, rfl, by omega⟩ (by show a.length - (i6 (i + 1)).val.toNat < a.length - (i6 i).val.toNat; rw [a1D (by omega), a1D (by omega)]; omega)
 ·
  rw [a5J]
  show a.length - _ < _
  omega
theorem e1L {n : Nat} {X : Type} {l : List X} (h : l.length ≤ LIM) (hn : n < 1000000) (hc : I.ltb (I.of .i64 (n : Int)) (I.ofNat .i64 (a0O l)) = false) : l.length ≤ n := by
 have h : l.length ≤ 140737488355328 := h
 rw [g7Y, a4I, a4W, a5U (by omega) (by omega)] at hc
 have := of_decide_eq_false hc
 omega
end Sym

/- Payments: the law of sums and of Apply. -/
namespace Sym
open Go
end Sym

/- Payments: what a plan pays, and what the table is behind it. -/
namespace Sym
open Go
theorem d9Z {l m : List Nat} (h : l.Perm m) : a6K l = a6K m := by
 induction h with
 | nil => rfl
 | cons x _ ih => simp only [a6K, List.foldr_cons] at *; omega
 | swap x y l => simp only [a6K, List.foldr_cons]; omega
 | trans _ _ ih1 ih2 => exact ih1.trans ih2
theorem ow_iff {p : Post} : ow p = true ↔ b0D p ≠ 0 := by
 unfold ow
 rw [nz_u]
 simp [b0D]
theorem d8Z (l : List Post) : a6K ((l.filter ow).map b0D) = a6K (l.map b0D) := by
 induction l with
 | nil => rfl
 | cons p l ih =>
  rw [List.filter_cons]
  split
  ·
   simp only [a6K, List.map_cons, List.foldr_cons] at *; omega
  ·
   rename_i h
   have : b0D p = 0 := by
    have := mt ow_iff.2 h
    omega
   simp only [a6K, List.map_cons, List.foldr_cons] at *; omega
noncomputable abbrev ord (x : List Post) : List Post := (b2X x).map (·.1)
theorem f1T (x : List Post) : a6K ((ord x).map b0D) = a6K (x.map b0D) := by
 rw [← d8Z x]
 exact d9Z ((b7I x).map b0D)
theorem f2A {x : List Post} {p : Post} (h : p ∈ ord x) : p ∈ x ∧ ow p = true := List.mem_filter.1 ((b7I x).mem_iff.1 h)
theorem e3W {x : List Post} (hx : TableOk x) : (ord x).Pairwise fun p q => Post.addr p ≠ Post.addr q := by
 have h := (table_iff.1 hx).2.2
 have h2 : (x.filter ow).Pairwise fun p q => Post.addr p ≠ Post.addr q := (h.filter ow).imp fun {p q} hlt e => by rw [e] at hlt; omega
 exact (List.Perm.pairwise_iff (fun {p q} h e => h e.symm) (b7I x)).2 h2
theorem d5N : ∀ (o : List Post) (n : Nat), n < U.top → a6K ((a7O o n).map amt) = min n (a6K (o.map b0D))
 | [], n, _ => by simp [a7O, a6K]
 | p :: r, n, hn => by
  simp only [a7O]
  split
  ·
   rename_i h
   subst h
   simp [a6K]
  ·
   have ih := d5N r (n - min (b0D p) n) (by omega)
   have hv : (U.of (min (b0D p) n)).val = min (b0D p) n := U.val_of (by omega)
   have : amt (p.addr, (U.of (min (b0D p) n), ())) = min (b0D p) n := hv
   simp only [a6K, List.map_cons, List.foldr_cons, this] at *
   omega
theorem e3L : ∀ (l : List Post) (k : Nat) (v : Post), k < l.length → a6K ((setAt l k v).map b0D) + b0D (rdL dP l k) = a6K (l.map b0D) + b0D v
 | [], k, v, h => by simp at h
 | p :: l, 0, v, _ => by simp only [setAt, rdL, a6K, List.map_cons, List.foldr_cons]; omega
 | p :: l, k + 1, v, h => by
  have := e3L l k v (by simpa using h)
  simp only [setAt, rdL, a6K, List.map_cons, List.foldr_cons] at *
  omega
theorem e6B {out : List Post} (h : TableOk out) {p : Post} (hp : p ∈ out) : atN out p.addr < out.length ∧ rdL dP out (atN out p.addr) = p := by
 obtain ⟨k, hk, rfl⟩ := b9K dP hp
 have e : atN out (Post.addr (rdL dP out k)) = k := e3J hk (iff_eqb.2 rfl) (fun j hj => niff_eqb.2 (by have := h.lt k hk j hj; omega))
 rw [e]
 exact ⟨hk, rfl⟩
theorem e1M {out : List Post} (h : TableOk out) {i j : Nat} (hi : i < out.length) (hj : j < out.length) (e : Post.addr (rdL dP out i) = Post.addr (rdL dP out j)) : i = j := by
 rcases Nat.lt_trichotomy i j with h1 | h1 | h1
 ·
  have := h.lt j hj i h1; rw [e] at this; omega
 ·
  exact h1
 ·
  have := h.lt i hi j h1; rw [e] at this; omega
theorem c6V : ∀ (o : List Post) (n : Nat) (out : List Post), n < U.top → TableOk out → (∀ p ∈ o, p ∈ out ∧ ow p = true) → (o.Pairwise fun p q => Post.addr p ≠ Post.addr q) →
  (a2I out (a7O o n)).2 = I.of .i64 4 ∨ ((a2I out (a7O o n)).2 = I.of .i64 0 ∧ TableOk (a2I out (a7O o n)).1 ∧ (a2I out (a7O o n)).1.length = out.length ∧
   (∀ i, Post.addr (rdL dP (a2I out (a7O o n)).1 i) = Post.addr (rdL dP out i)) ∧
   a6K ((a2I out (a7O o n)).1.map b0D) + a6K ((a7O o n).map amt) = a6K (out.map b0D) ∧
   (∀ i, (∀ p ∈ o, Post.addr p ≠ Post.addr (rdL dP out i)) → rdL dP (a2I out (a7O o n)).1 i = rdL dP out i) ∧
   (∀ t, t + 1 < (a7O o n).length → ∀ i, i < out.length → Post.addr (rdL dP out i) = Post.addr (rdL dP o t) → b0D (rdL dP (a2I out (a7O o n)).1 i) = 0))
 | [], n, out, _, ht, _, _ => .inr ⟨rfl, ht, rfl, fun _ => rfl, by simp [a7O, a2I, a6K], fun _ _ => rfl, fun t h => by simp [a7O] at h⟩
 | p :: r, n, out, hn, ht, hin, hap => by
  by_cases h0 : n = 0
  ·
   subst h0
   rw [b7X]
   exact .inr ⟨rfl, ht, rfl, fun _ => rfl, by simp [a2I, a6K], fun _ _ => rfl, fun t h => by simp at h⟩
  ·
   have hpl : a7O (p :: r) n = (p.addr, (U.of (min (b0D p) n), ())) :: a7O r (n - min (b0D p) n) := if_neg h0
   rw [hpl]
   simp only [a2I]
   have ⟨hk, hkp⟩ := e6B ht (hin p (by simp)).1
   obtain ⟨m, hm⟩ : ∃ m, m = min (b0D p) n := ⟨_, rfl⟩
   rw [← hm]
   have hmv : (U.of m).val = m := U.val_of (by omega)
   have hmd : m ≤ b0D p := by omega
   have hst : a8D out p.addr (U.of m) = if (Post.paid p).val + m < U.top then (setAt out (atN out p.addr) (settled p (U.of m)), I.of .i64 0) else ([], I.of .i64 4) := by
    unfold a8D
    rw [if_pos (tabB_t.2 ht), if_pos hk, hkp, hmv, if_pos (show m ≤ (Post.due p).val from hmd)]
   rw [hst]
   by_cases hpd : (Post.paid p).val + m < U.top
   ·
    rw [if_pos hpd]
    simp only [show (I.of .i64 0).val = 0 from rfl, if_true]
    obtain ⟨k, hkk⟩ : ∃ k, k = atN out p.addr := ⟨_, rfl⟩
    rw [← hkk] at hk hkp ⊢
    have hT : TableOk (setAt out k (settled p (U.of m))) := d7H ht hk (c7O ((table_iff.1 ht).2.1 p (hin p (by simp)).1) (by rw [hmv]; exact hmd) (by rw [hmv]; exact hpd)) (by rw [hkp]; rfl)
    have ⟨hap1, hap2⟩ := List.pairwise_cons.1 hap
    have hlen : (setAt out k (settled p (U.of m))).length = out.length := by rw [a2J, List.length_set]
    have haddr : ∀ i, Post.addr (rdL dP (setAt out k (settled p (U.of m))) i) = Post.addr (rdL dP out i) := by
     intro i
     rw [b4C]
     split
     ·
      rename_i e
      rw [e.1, hkp]
      rfl
     ·
      rfl
    have hin' : ∀ q ∈ r, q ∈ setAt out k (settled p (U.of m)) ∧ ow q = true := by
     intro q hq
     have ⟨h1, h2⟩ := hin q (List.mem_cons_of_mem _ hq)
     refine ⟨?_, h2⟩
     obtain ⟨i, hi, e⟩ := b9K dP h1
     have hik : i ≠ k := by
      rintro rfl
      rw [hkp] at e
      exact hap1 q hq (by rw [e])
     have : rdL dP (setAt out k (settled p (U.of m))) i = q := by rw [b4C, if_neg (by omega), e]
     rw [← this]
     exact b9G dP _ i (by rw [hlen]; exact hi)
    have hsum := e3L out k (settled p (U.of m)) hk
    rw [hkp] at hsum
    have hdn : b0D (settled p (U.of m)) = b0D p - m := by
     show (U.of ((Post.due p).val - (U.of m).val)).val = _
     rw [hmv, U.val_of (by have := U.lt (Post.due p); omega)]
     rfl
    have ham : amt (p.addr, (U.of m, ())) = m := hmv
    rcases c6V r (n - m) (setAt out k (settled p (U.of m))) (by omega) hT hin' hap2 with h | ⟨g1, g2, g3, g4, g5, g6, g7⟩
    ·
     exact .inl h
    ·
     refine .inr ⟨g1, g2, g3.trans hlen, fun i => (g4 i).trans (haddr i), ?_, fun i hi => ?_, fun t htl i hi he => ?_⟩
     ·
      simp only [List.map_cons, ham]
      have : a6K (m :: (a7O r (n - m)).map amt) = m + a6K ((a7O r (n - m)).map amt) := rfl
      rw [this]
      omega
     ·
      rw [g6 i (fun q hq => by rw [haddr]; exact hi q (List.mem_cons_of_mem _ hq)), b4C, if_neg]
      rintro ⟨rfl, _⟩
      exact hi p (by simp) (by rw [hkp])
     ·
      cases t with
      | zero =>
       have hr : 0 < (a7O r (n - m)).length := by simpa using htl
       have hmn : m ≠ n := by
        rintro rfl
        rw [Nat.sub_self, b7X] at hr
        simp at hr
       have hmd : m = b0D p := by omega
       have hik : i = k := e1M ht hi hk (by rw [he, hkp]; rfl)
       subst hik
       have hpr : ∀ q ∈ r, Post.addr q ≠ Post.addr (rdL dP (setAt out i (settled p (U.of m))) i) := fun q hq => by
        rw [haddr, hkp]
        exact fun e => hap1 q hq e.symm
       rw [g6 i hpr, b4C, if_pos ⟨rfl, hk⟩, hdn]
       omega
      | succ t =>
       exact g7 t (by simpa using htl) i (by rw [hlen]; exact hi) (by rw [haddr]; exact he)
   ·
    rw [if_neg hpd]
    exact .inl rfl
end Sym

/- Payments: a greater pool pays nobody less. -/
namespace Sym
open Go
theorem d6V {x : List Post} (hx : TableOk x) (n : U) : d5H x n = (a7O (ord x) n.val, I.of .i64 0) := if_pos (tabB_t.2 hx)
theorem f4A (x : List Post) : (ord x).length ≤ x.length := by rw [List.length_map]; exact c6D x
end Sym

/- Payments: the oldest debts first. -/
namespace Sym
open Go
end Sym

/- Payments: the payments total the smaller of the pool and the debts. -/
namespace Sym
open Go
end Sym

/- The length of a number in bits. -/
namespace Sym
open Go
theorem c8X {l : IntKind} (x : I .u64) (s : I l) (h0 : 0 ≤ s.val) (hs : s.val < 64) : (I.shr x s).nat = x.nat / 2 ^ s.val.toNat := by
 have hx := a2Z x
 have hm : min s.val.toNat IntKind.u64.bits = s.val.toNat := by
  have : IntKind.u64.bits = 64 := rfl
  omega
 unfold I.shr
 rw [hm, c0X _ _ hx.1]
 have h1 : ((x.nat / 2 ^ s.val.toNat : Nat) : Int) = x.val / (2 : Int) ^ s.val.toNat := by
  rw [Int.natCast_ediv, a1L]
  simp
 rw [← h1]
 have := Nat.div_le_self x.nat (2 ^ s.val.toNat)
 have := a1Q x
 exact b4M (by omega)
def Bits (n k : Nat) : Prop := ∀ m, k ≤ m ↔ n < 2 ^ m
theorem Bits.zero : Bits 0 0 := fun m => ⟨fun _ => Nat.pow_pos (by decide), fun _ => Nat.zero_le _⟩
theorem Bits.up {n k s : Nat} (h : Bits (n / 2 ^ s) k) (h1 : s = 0 ∨ 0 < n / 2 ^ s) : Bits n (k + s) := by
 intro m
 rcases h1 with rfl | h1
 ·
  have := h m
  simpa using this
 ·
  have hk : 1 ≤ k := by
   rcases Nat.eq_zero_or_pos k with h2 | h2
   ·
    subst h2; have := (h 0).1 (Nat.le_refl _); rw [Nat.pow_zero] at this; omega
   ·
    exact h2
  by_cases hm : s ≤ m
  ·
   have e := h (m - s)
   have e2 : n / 2 ^ s < 2 ^ (m - s) ↔ n < 2 ^ m := by
    rw [Nat.div_lt_iff_lt_mul (Nat.pow_pos (by decide)), ← Nat.pow_add]
    rw [show m - s + s = m by omega]
   rw [← e2, ← e]
   omega
  ·
   have : ¬ n < 2 ^ m := by
    intro hn
    have h3 : 2 ^ m ≤ 2 ^ s := Nat.pow_le_pow_right (by decide) (by omega)
    have : n / 2 ^ s = 0 := Nat.div_eq_of_lt (Nat.lt_of_lt_of_le hn h3)
    omega
   constructor
   ·
    omega
   ·
    intro h; exact absurd h this
def e9P : List Nat := [0, 1, 2, 2, 3, 3, 3, 3, 4, 4, 4, 4, 4, 4, 4, 4, 5, 5, 5, 5, 5, 5, 5, 5, 5, 5, 5, 5, 5, 5, 5, 5, 6, 6, 6, 6, 6, 6, 6, 6, 6, 6, 6, 6, 6, 6, 6, 6, 6, 6, 6, 6, 6, 6, 6, 6, 6, 6, 6, 6, 6, 6, 6, 6, 7, 7, 7, 7, 7, 7, 7, 7, 7, 7, 7, 7, 7, 7, 7, 7, 7, 7, 7, 7, 7, 7, 7, 7, 7, 7, 7, 7, 7, 7, 7, 7, 7, 7, 7, 7, 7, 7, 7, 7, 7, 7, 7, 7, 7, 7, 7, 7, 7, 7, 7, 7, 7, 7, 7, 7, 7, 7, 7, 7, 7, 7, 7, 7, 8, 8, 8, 8, 8, 8, 8, 8, 8, 8, 8, 8, 8, 8, 8, 8, 8, 8, 8, 8, 8, 8, 8, 8, 8, 8, 8, 8, 8, 8, 8, 8, 8, 8, 8, 8, 8, 8, 8, 8, 8, 8, 8, 8, 8, 8, 8, 8, 8, 8, 8, 8, 8, 8, 8, 8, 8, 8, 8, 8, 8, 8, 8, 8, 8, 8, 8, 8, 8, 8, 8, 8, 8, 8, 8, 8, 8, 8, 8, 8, 8, 8, 8, 8, 8, 8, 8, 8, 8, 8, 8, 8, 8, 8, 8, 8, 8, 8, 8, 8, 8, 8, 8, 8, 8, 8, 8, 8, 8, 8, 8, 8, 8, 8, 8, 8, 8, 8, 8, 8, 8, 8, 8, 8, 8, 8, 8, 8]
theorem f3X : a3Y = e2Z e9P := by kernel_rfl
theorem d0I : ∀ i, i < 256 → rdL 0 e9P i ≤ 8 ∧ ∀ m, m ≤ 8 → (rdL 0 e9P i ≤ m ↔ i < 2 ^ m) := by decide +kernel
theorem d2V {i : Nat} (h : i < 256) : Bits i (rdL 0 e9P i) := by
 intro m
 have ⟨h1, h2⟩ := d0I i h
 by_cases hm : m ≤ 8
 ·
  exact h2 m hm
 ·
  have : 2 ^ 8 ≤ 2 ^ m := Nat.pow_le_pow_right (by decide) (by omega)
  omega
theorem d2Q : ∀ (l : List Nat) (i : Nat), rdL (I.of .u8 0) (e2Z l) i = I.of .u8 ((rdL 0 l i : Nat) : Int)
 | [], _ => rfl
 | _ :: _, 0 => rfl
 | _ :: l, i + 1 => d2Q l i
theorem e3A (x : I .u64) (h : x.nat < 256) : I.nat (I.conv .u8 x) = x.nat ∧ (I.conv .u8 x).val = x.nat := by
 have hx := a1L x
 have : (I.conv .u8 x).val = x.val := g2A (by omega)
 unfold I.nat at *
 rw [this]
 omega
theorem e1U {x : I .u64} (h : x.nat < 256) : (I.conv (k := .u8) .i64 (rdL (I.of .u8 0) a3Y (I.nat (I.conv .u8 x)))) = i6 (rdL 0 e9P x.nat) ∧ inB (I.conv .u8 x) 256 = true := by
 have ⟨h1, h2⟩ := e3A x h
 have ⟨h3, _⟩ := d0I x.nat h
 constructor
 ·
  rw [h1, f3X, d2Q]
  apply I.ext'
  rw [a1D (by omega)]
  show (I.of .i64 (I.of .u8 ((rdL 0 e9P x.nat : Nat) : Int)).val).val = _
  rw [g2A (by omega), b1T (by omega)]
 ·
  exact iff_inB.2 (by rw [h2]; omega)
theorem d5A (n : Nat) (x : I .u64) (h : n < 18446744073709551616) : I.leb (I.of .u64 (n : Int)) x = decide (n ≤ x.nat) := by
 have := a1L x
 have h2 : (I.of .u64 (n : Int)).val = n := b1K ⟨by omega, by omega⟩
 by_cases hc : n ≤ x.nat
 ·
  rw [decide_eq_true hc]; exact iff_leb.2 (by omega)
 ·
  rw [decide_eq_false hc]; exact niff_leb.2 (by omega)
theorem e5F (a : I .u64) : ∃ y, a6V ((a, ()), ()) = some y ∧ ∃ k, y = ((i6 k, ()), ()) ∧ Bits a.nat k ∧ k ≤ 64 := by
 have hb : ∀ k, Bits a.nat k → k ≤ 64 := fun k h => (h 64).2 (by have := a1Q a; omega)
 refine Wp.out (T := fun o => ∃ y, o = some y ∧ ∃ k, y = ((i6 k, ()), ()) ∧ Bits a.nat k ∧ k ≤ 64) ?_
 unfold a6V
 refine Wp.jn (fun s => ∃ x n, s = ((x, (i6 n, ())), ()) ∧ x.nat = a.nat / 2 ^ n ∧ (n = 0 ∨ 0 < x.nat) ∧ n ≤ 32 ∧ x.nat < 4294967296) ?_ ?_
 ·
  rintro s ⟨x, n, rfl, hx, h0, hn, hl⟩
  refine Wp.jn (fun s => ∃ y m, s = ((y, (i6 m, ())), ()) ∧ y.nat = a.nat / 2 ^ m ∧ (m = 0 ∨ 0 < y.nat) ∧ m ≤ 48 ∧ y.nat < 65536) ?_ ?_
  ·
   rintro s ⟨y, m, rfl, hy, h1, hm, hl2⟩
   have e2 : I.of .u64 256 = I.of .u64 ((256 : Nat) : Int) := rfl
   simp only [e2, d5A 256 y (by decide)]
   refine Wp.brn (fun hc => ?_) (fun hc => ?_)
   ·
    have hc := of_decide_eq_true hc
    have hs : (I.shr y (I.of .u64 8)).nat = y.nat / 256 := c8X y (I.of .u64 8) (by decide) (by decide)
    have hlt : (I.shr y (I.of .u64 8)).nat < 256 := by omega
    have ⟨t1, t2⟩ := e1U hlt
    have ⟨t3, _⟩ := d0I _ hlt
    refine Wp.brnT t2 ?_
    simp only [t1]
    have e8 : I.of .i64 8 = i6 8 := rfl
    rw [e8, a5W (by omega), a5W (by omega)]
    have hB : Bits a.nat (rdL 0 e9P (I.shr y (I.of .u64 8)).nat + (m + 8)) := by
     refine Bits.up ?_ (.inr ?_)
     ·
      rw [Nat.pow_add, ← Nat.div_div_eq_div_mul, ← hy]
      rw [show y.nat / 2 ^ 8 = (I.shr y (I.of .u64 8)).nat from hs.symm]
      exact d2V hlt
     ·
      rw [Nat.pow_add, ← Nat.div_div_eq_div_mul, ← hy]
      omega
    refine ⟨_, rfl, _, rfl, ?_, hb _ ?_⟩
    ·
     rw [Nat.add_comm]; exact hB
    ·
     rw [Nat.add_comm]; exact hB
   ·
    have hc := of_decide_eq_false hc
    have hlt : y.nat < 256 := by omega
    have ⟨t1, t2⟩ := e1U hlt
    have ⟨t3, _⟩ := d0I _ hlt
    refine Wp.brnT t2 ?_
    simp only [t1]
    rw [a5W (by omega)]
    have hB : Bits a.nat (rdL 0 e9P y.nat + m) := by
     refine Bits.up (by rw [← hy]; exact d2V hlt) (by rw [← hy]; exact h1)
    refine ⟨_, rfl, _, rfl, ?_, hb _ ?_⟩
    ·
     rw [Nat.add_comm]; exact hB
    ·
     rw [Nat.add_comm]; exact hB
  ·
   intro j hj
   have e2 : I.of .u64 65536 = I.of .u64 ((65536 : Nat) : Int) := rfl
   simp only [e2, d5A 65536 x (by decide)]
   refine Wp.brn (fun hc => hj _ ?_) (fun hc => hj _ ?_)
   ·
    have hc := of_decide_eq_true hc
    have hs : (I.shr x (I.of .u64 16)).nat = x.nat / 65536 := c8X x (I.of .u64 16) (by decide) (by decide)
    refine ⟨_, n + 16, by rw [show I.of .i64 16 = i6 16 from rfl, a5W (by omega)], ?_, .inr (by rw [hs]; omega), by omega, by rw [hs]; omega⟩
    rw [hs, Nat.pow_add, ← Nat.div_div_eq_div_mul, ← hx]
   ·
    have hc := of_decide_eq_false hc
    exact ⟨x, n, rfl, hx, h0, by omega, by omega⟩
 ·
  intro j hj
  have e2 : I.of .u64 4294967296 = I.of .u64 ((4294967296 : Nat) : Int) := rfl
  have ha := a1Q a
  simp only [e2, d5A 4294967296 a (by decide)]
  refine Wp.brn (fun hc => hj _ ?_) (fun hc => hj _ ?_)
  ·
   have hc := of_decide_eq_true hc
   have hs : (I.shr a (I.of .u64 32)).nat = a.nat / 4294967296 := c8X a (I.of .u64 32) (by decide) (by decide)
   exact ⟨_, 32, rfl, hs, .inr (by rw [hs]; omega), by omega, by rw [hs]; omega⟩
  ·
   have hc := of_decide_eq_false hc
   exact ⟨a, 0, rfl, by simp, .inl rfl, by omega, by omega⟩
end Sym

/- Pricer: the length of a number, who is found, shares of units. -/
namespace Sym
open Go
theorem Wp.jnI {X R : Type} {T : R → Prop} {J : X → R} {f : (X → R) → R} (h : Wp T (f J)) : Wp T (Sym.jn J f) := h
theorem e6Y {x : I .u64} : I.neb x (I.of .u64 0) = decide (x.nat ≠ 0) := by
 have hx := a1L x
 have h0 : (I.of .u64 0).val = 0 := rfl
 by_cases h : x.nat = 0
 ·
  rw [decide_eq_false (by simpa using h)]; exact niff_neb.2 (by omega)
 ·
  rw [decide_eq_true h]; exact iff_neb.2 (by omega)
theorem d9Y (a : U) : ∃ y, a6G ((a, ()), ()) = some y ∧ ∃ k, y = ((i6 k, ()), ()) ∧ Bits a.val k ∧ k ≤ 256 := by
 obtain ⟨k0, hk0⟩ := d7X
 obtain ⟨z0, z1, z2, z3, ⟨⟩⟩ := a
 have hb : ∀ k, Bits (U.val (z0, z1, z2, z3, ())) k → k ≤ 256 := fun k h => (h 256).2 (U.lt _)
 have l0 := a1Q z0
 have l1 := a1Q z1
 have l2 := a1Q z2
 have l3 := a1Q z3
 refine Wp.out (T := fun o => ∃ y, o = some y ∧ ∃ k, y = ((i6 k, ()), ()) ∧ Bits (U.val (z0, z1, z2, z3, ())) k ∧ k ≤ 256) ?_
 unfold a6G
 have e3 : I.of .i64 3 = i6 3 := rfl
 have fin : ∀ (j : Nat) (z : I .u64), j ≤ 3 → 0 < z.nat → U.val (z0, z1, z2, z3, ()) / 2 ^ (64 * j) = z.nat →
   ∃ y, a6V ((z, ()), ()) = some y ∧ ∃ k, (some ((I.add (I.mul (I.of .i64 64) (i6 j)) y.1.1, ()), ()) : Option (((I .i64) × Unit) × Unit)) = some ((i6 k, ()), ()) ∧ Bits (U.val (z0, z1, z2, z3, ())) k := by
  intro j z hj hz he
  obtain ⟨y, hy, k, rfl, hB, hk⟩ := e5F z
  refine ⟨_, hy, k + 64 * j, ?_, Bits.up (by rw [he]; exact hB) (.inr (by rw [he]; exact hz))⟩
  have hm : I.mul (I.of .i64 64) (i6 j) = i6 (64 * j) := by
   apply I.ext'
   rw [b9M (by rw [a1D (by omega)]; show _ ≤ (64 : Int) * j ∧ (64 : Int) * j < _; omega), a1D (by omega), a1D (by omega)]
   show (64 : Int) * j = _
   omega
  show some ((I.add _ (i6 k), ()), ()) = _
  rw [hm, a5W (by omega), Nat.add_comm]
 simp only [hk0, e3, e6Y]
 refine Wp.unroll (Wp.brnT rfl (Wp.brnT rfl (Wp.brn (fun h => Wp.brnT rfl ?_) (fun h => Wp.next ?_))))
 ·
  have h : z3.nat ≠ 0 := of_decide_eq_true h
  obtain ⟨y, hy, k, e, hB⟩ := fin 3 z3 (by omega) (by omega) (by show (z0.nat + 18446744073709551616 * (z1.nat + 18446744073709551616 * (z2.nat + 18446744073709551616 * z3.nat))) / 2 ^ 192 = _; omega)
  exact Wp.optF hy (Wp.stop ⟨_, e, k, rfl, hB, hb k hB⟩)
 have h : ¬ z3.nat ≠ 0 := of_decide_eq_false h
 refine Wp.unroll (Wp.brnT rfl (Wp.brnT rfl (Wp.brn (fun h => Wp.brnT rfl ?_) (fun h => Wp.next ?_))))
 ·
  have h : z2.nat ≠ 0 := of_decide_eq_true h
  obtain ⟨y, hy, k, e, hB⟩ := fin 2 z2 (by omega) (by omega) (by show (z0.nat + 18446744073709551616 * (z1.nat + 18446744073709551616 * (z2.nat + 18446744073709551616 * z3.nat))) / 2 ^ 128 = _; omega)
  exact Wp.optF hy (Wp.stop ⟨_, e, k, rfl, hB, hb k hB⟩)
 have h : ¬ z2.nat ≠ 0 := of_decide_eq_false h
 refine Wp.unroll (Wp.brnT rfl (Wp.brnT rfl (Wp.brn (fun h => Wp.brnT rfl ?_) (fun h => Wp.next ?_))))
 ·
  have h : z1.nat ≠ 0 := of_decide_eq_true h
  obtain ⟨y, hy, k, e, hB⟩ := fin 1 z1 (by omega) (by omega) (by show (z0.nat + 18446744073709551616 * (z1.nat + 18446744073709551616 * (z2.nat + 18446744073709551616 * z3.nat))) / 2 ^ 64 = _; omega)
  exact Wp.optF hy (Wp.stop ⟨_, e, k, rfl, hB, hb k hB⟩)
 have h : ¬ z1.nat ≠ 0 := of_decide_eq_false h
 refine Wp.unroll (Wp.brnT rfl (Wp.brnT rfl (Wp.brn (fun h => Wp.brnT rfl ?_) (fun h => Wp.next ?_))))
 ·
  have h : z0.nat ≠ 0 := of_decide_eq_true h
  obtain ⟨y, hy, k, e, hB⟩ := fin 0 z0 (by omega) (by omega) (by show (z0.nat + 18446744073709551616 * (z1.nat + 18446744073709551616 * (z2.nat + 18446744073709551616 * z3.nat))) / 2 ^ 0 = _; omega)
  exact Wp.optF hy (Wp.stop ⟨_, e, k, rfl, hB, hb k hB⟩)
 have h : ¬ z0.nat ≠ 0 := of_decide_eq_false h
 refine Wp.unroll (Wp.brnF rfl (Wp.stop ?_))
 refine ⟨_, rfl, 0, rfl, ?_, by omega⟩
 have : U.val (z0, z1, z2, z3, ()) = 0 := by show z0.nat + 18446744073709551616 * (z1.nat + 18446744073709551616 * (z2.nat + 18446744073709551616 * z3.nat)) = 0; omega
 rw [this]
 exact Bits.zero
def a9K (units last upto now : I .u64) : Nat := if now.nat = last.nat then units.nat else units.nat * (upto.nat - last.nat) / (now.nat - last.nat)
theorem e7R {n : Nat} (h : n < 18446744073709551616) : (U.of n).1 = I.of .u64 (n : Int) := by
 show I.of .u64 ((n % 18446744073709551616 : Nat) : Int) = _
 rw [Nat.mod_eq_of_lt h]
theorem b4W {x y : I .u64} : I.eqb x y = decide (x.nat = y.nat) := by
 have := a1L x
 have := a1L y
 by_cases h : x.nat = y.nat
 ·
  rw [decide_eq_true h]; exact iff_eqb.2 (by omega)
 ·
  rw [decide_eq_false h]; exact niff_eqb.2 (by omega)
theorem sub_nat_le' (a b : I .u64) (h : b.nat ≤ a.nat) : (I.sub a b).nat = a.nat - b.nat := by
 have := a1L a
 have := a1L b
 have := f1H (a := a) (b := b) (by omega)
 have := a1L (I.sub a b)
 omega
theorem b7A {units last upto now : I .u64} (h1 : last.nat ≤ upto.nat) (h2 : upto.nat ≤ now.nat) : a9K units last upto now ≤ units.nat := by
 unfold a9K
 split
 ·
  omega
 ·
  refine Nat.div_le_of_le_mul ?_
  rw [Nat.mul_comm]
  exact Nat.mul_le_mul_right _ (by omega)
theorem e4B (units last upto now : I .u64) (h1 : last.nat ≤ upto.nat) (h2 : upto.nat ≤ now.nat) :
  a7R ((units, (last, (upto, (now, ())))), ()) = some ((I.of .u64 (a9K units last upto now : Int), (I.of .i64 0, ())), ()) := by
 have hle := b7A (units := units) h1 h2
 have hu := a1Q units
 refine Wp.out (T := fun o => o = _) ?_
 unfold a7R
 refine Wp.jnI (Wp.jnI ?_)
 simp only [b3A]
 refine Wp.brnF (decide_eq_false (by omega)) ?_
 refine Wp.brnF (decide_eq_false (by omega)) ?_
 simp only [b4W]
 refine Wp.brn (fun h => ?_) (fun h => ?_)
 ·
  have h := of_decide_eq_true h
  have : I.of .u64 (a9K units last upto now : Int) = units := by
   unfold a9K
   rw [if_pos h, a1L]
   exact I.ext' units.ok
  rw [this]
  rfl
 ·
  have h := of_decide_eq_false h
  have d1 := sub_nat_le' upto last h1
  have d2 := sub_nat_le' now last (by omega)
  refine Wp.optF (a3C _) (Wp.optF (a3C _) (Wp.optF (a3C _) ?_))
  refine Wp.optF (e1C _ _ _ (by rw [a3I, d2]; omega) (by rw [a3I, a3I, d1, d2]; omega)) ?_
  simp only [a3I, d1, d2]
  have e : a9K units last upto now = units.nat * (upto.nat - last.nat) / (now.nat - last.nat) := if_neg h
  rw [e] at hle ⊢
  rw [e7R (by omega)]
  rfl
end Sym

/- Pricer: what its functions compute. -/
namespace Sym
open Go
abbrev PrT : Type := a0T
abbrev PrT.price (s : PrT) : U := s.1
abbrev PrT.units (s : PrT) : I .u64 := s.2.1
abbrev PrT.last (s : PrT) : I .u64 := s.2.2.1
abbrev PrT.reports (s : PrT) : I .u64 := s.2.2.2.1
abbrev PrT.surplus (s : PrT) : S := s.2.2.2.2.1
abbrev PrT.posters (s : PrT) : List Post := s.2.2.2.2.2.1
abbrev RepT : Type := a1X
abbrev f2F : Type := a1R
def Prm.rpu (p : Prm) : U := p.2.2.2.2.2.2.2.1
noncomputable def d6P (l : List Post) (n : I .u64) : Bool := l.all fun p => decide ((Post.since p).nat ≤ n.nat)
noncomputable def prV (s : PrT) : Bool := d6P s.posters s.reports && (b0Q s.posters && a1P s.surplus)
theorem prV_t {s : PrT} : prV s = true ↔ (∀ p ∈ s.posters, (Post.since p).nat ≤ s.reports.nat) ∧ TableOk s.posters ∧ a1P s.surplus = true := by
 unfold prV d6P
 simp only [Bool.and_eq_true, List.all_eq_true, decide_eq_true_eq, tabB_t]
theorem b8N (s : PrT) (hl : s.posters.length ≤ 1073741824) : a6D ((s, ()), ()) = some ((prV s, ()), ()) := by
 refine Wp.out (T := fun o => o = _) ?_
 unfold a6D
 simp only [a4W, a4I, a7U, a7Z]
 obtain ⟨l, hl'⟩ : ∃ l, l = s.posters := ⟨_, rfl⟩
 rw [← hl'] at hl
 have e : s.2.2.2.2.2.1 = l := hl'.symm
 simp only [e]
 refine Wp.iter (fun t => ∃ i, t = ((l, (i6 l.length, (i6 i, ()))), (s, ())) ∧ i ≤ l.length ∧ ∀ k, k < i → (Post.since (rdL dP l k)).nat ≤ s.reports.nat) (fun t => l.length - t.1.2.2.1.val.toNat) ?_ ⟨0, rfl, by omega, by intro k hk; omega⟩ ?_
 ·
  rintro t ⟨i, rfl, hi, hinv⟩
  simp only [a5U (show i < 9223372036854775808 by omega) (show l.length < 9223372036854775808 by omega), a3H (show i < 9223372036854775808 by omega), a5W (show i + 1 < 9223372036854775808 by omega)]
  refine Wp.brn (fun hc => ?_) (fun hc => ?_)
  ·
   have hc := of_decide_eq_true hc
   refine Wp.brnT (a3F (by omega) (by omega)) ?_
   simp only [b3A]
   refine Wp.brn (fun h => ?_) (fun h => ?_)
   ·
    have h : s.reports.nat < (Post.since (rdL dP l i)).nat := of_decide_eq_true h
    refine Wp.done ?_
    have : prV s = false := by
     cases hv : prV s with
     | false => rfl
     | true =>
      have := (prV_t.1 hv).1 (rdL dP l i) (by rw [← hl']; exact b9G dP _ i hc)
      omega
    rw [this]
    rfl
   ·
    have h : ¬ s.reports.nat < (Post.since (rdL dP l i)).nat := of_decide_eq_false h
    refine Wp.again ⟨i + 1, rfl, by omega, fun k hk => ?_⟩ (by show l.length - (i6 (i + 1)).val.toNat < l.length - (i6 i).val.toNat; rw [a1D (by omega), a1D (by omega)]; omega)
    by_cases hki : k = i
    ·
     subst hki; omega
    ·
     exact hinv k (by omega)
  ·
   have hc := of_decide_eq_false hc
   have hs : d6P s.posters s.reports = true := by
    unfold d6P
    rw [← hl', List.all_eq_true]
    intro p hp
    obtain ⟨k, hk, rfl⟩ := b9K dP hp
    exact decide_eq_true (hinv k (by omega))
   refine Wp.done (Wp.optF (b5K (l := s.posters) (by rw [← hl']; exact hl)) ?_)
   unfold prV
   rw [hs, Bool.true_and]
   refine Wp.brn (fun h => ?_) (fun h => ?_)
   ·
    have h : b0Q s.posters = true := h
    rw [h]
    exact Wp.optF (a9O s.surplus) rfl
   ·
    have h : b0Q s.posters = false := h
    rw [h]
    rfl
 ·
  rw [a5J]
  show l.length - _ < _
  omega
noncomputable def b0U (p : Post) (c w : U) (since : I .u64) : Post :=
 (p.1, (U.of (p.due.val + (c.val + w.val)), (U.of (p.costs.val + c.val), (U.of (p.rewards.val + w.val), (p.paid, ((if p.due.val = 0 ∧ 0 < p.due.val + (c.val + w.val) then since else p.since), ()))))))
def d5K (p : Post) (c w : U) : Prop := p.due.val + (c.val + w.val) < U.top ∧ p.costs.val + c.val < U.top ∧ p.rewards.val + w.val < U.top
open Classical in
noncomputable def b0A (l : List Post) (a : I .u64) (c w : U) (since : I .u64) : List Post × I .i64 :=
 if d5K (rdL dP l (atN l a)) c w then (setAt l (atN l a) (b0U (rdL dP l (atN l a)) c w since), I.of .i64 0) else ([], I.of .i64 4)
theorem c5S {n : Nat} : I.neb (b4V n).2 (I.of .i64 0) = decide (¬ n < U.top) := by
 by_cases h : n < U.top
 ·
  rw [a9I h, decide_eq_false (by simpa using h)]; rfl
 ·
  rw [b6R (by omega), decide_eq_true h]; rfl
theorem e3M (l : List Post) (a : I .u64) (c w : U) (since : I .u64) (hT : TableOk l) (hf : atN l a < l.length) (hs : since.nat ≠ 0) :
  a8N ((l, (a, (c, (w, (since, ()))))), ()) = some (((b0A l a c w since).1, ((b0A l a c w since).2, ())), ()) := by
 refine Wp.out (T := fun o => o = _) ?_
 have hl := hT.1
 unfold a8N b0A
 have e : atI l a = i6 (atN l a) := if_pos hf
 refine Wp.optF (c3H (l := l) a (by omega)) ?_
 refine Wp.jnI (Wp.jnI ?_)
 refine Wp.optF (b5K (l := l) (by omega)) ?_
 refine Wp.brnF (c4X hT) ?_
 have e0 : I.eqb since (I.of .u64 0) = false := by rw [b4W]; exact decide_eq_false hs
 refine Wp.brnF e0 ?_
 rw [e]
 generalize atN l a = k at hf ⊢
 simp only [a3H (show k < 9223372036854775808 by omega)]
 refine Wp.brnF (by rw [a7U, a5U (by omega) (by omega)]; exact decide_eq_false (by omega)) ?_
 refine Wp.brnT (a3F (by exact hf) (by omega)) ?_
 generalize rdL dP l k = p
 refine Wp.optF (b7Y c w) (Wp.optF (b7Y _ _) (Wp.optF (b7Y _ _) (Wp.optF (b7Y _ _) (Wp.jnI ?_))))
 simp only [c5S]
 refine Wp.brn (fun h => ?_) (fun h => ?_)
 ·
  have h := of_decide_eq_true h
  rw [if_neg (fun hh => by have := hh.1; omega)]
  rfl
 have h := of_decide_eq_false h
 have h1 : c.val + w.val < U.top := by omega
 simp only [a9I h1, U.val_of h1]
 refine Wp.brn (fun h => ?_) (fun h => ?_)
 ·
  have h := of_decide_eq_true h
  rw [if_neg (fun hh => by have := hh.1; exact h this)]
  rfl
 have h := of_decide_eq_false h
 have h2 : p.2.1.val + (c.val + w.val) < U.top := by omega
 simp only [a9I h2]
 refine Wp.brn (fun h => ?_) (fun h => ?_)
 ·
  have h := of_decide_eq_true h
  rw [if_neg (fun hh => by have := hh.2.1; exact h this)]
  rfl
 have h := of_decide_eq_false h
 have h3 : p.2.2.1.val + c.val < U.top := by omega
 simp only [a9I h3]
 refine Wp.brn (fun h => ?_) (fun h => ?_)
 ·
  have h := of_decide_eq_true h
  rw [if_neg (fun hh => by have := hh.2.2; exact h this)]
  rfl
 have h := of_decide_eq_false h
 have h4 : p.2.2.2.1.val + w.val < U.top := by omega
 simp only [a9I h4]
 rw [if_pos ⟨h2, h3, h4⟩]
 refine Wp.jnI (Wp.optF (b0P _) ?_)
 have hq : ∀ (q : Post), Wp (fun o => o = some ((setAt l k q, (I.of .i64 0, ())), ())) (optF none (a0S ((l, ()), ())) fun y8 => brn (inB (i6 k) (a0O y8.2.1)) (some ((a1N y8.2.1 (I.nat (i6 k)) q, (I.of .i64 0, ())), ())) none) := by
  intro q
  refine Wp.optF (c0I l (by omega)) (Wp.brnT (a3F (by exact hf) (by omega)) ?_)
  rw [a3H (by omega)]
  rfl
 have hd : (U.of (p.2.1.val + (c.val + w.val))).val = p.2.1.val + (c.val + w.val) := U.val_of h2
 refine Wp.brn (fun h => ?_) (fun h => ?_)
 ·
  have h : p.2.1.val = 0 := of_decide_eq_true h
  refine Wp.optF (b0P _) ?_
  refine Wp.brn (fun h' => ?_) (fun h' => ?_)
  ·
   have h' := of_decide_eq_false (a7S h')
   rw [hd] at h'
   have e : b0U p c w since = (p.1, (U.of (p.due.val + (c.val + w.val)), (U.of (p.costs.val + c.val), (U.of (p.rewards.val + w.val), (p.paid, (since, ())))))) := by
    unfold b0U; rw [if_pos ⟨h, by show 0 < p.2.1.val + _; omega⟩]
   rw [e]
   have := hq (p.1, (U.of (p.due.val + (c.val + w.val)), (U.of (p.costs.val + c.val), (U.of (p.rewards.val + w.val), (p.paid, (since, ()))))))
   exact this
  ·
   have h' := of_decide_eq_true (a7T h')
   rw [hd] at h'
   have e : b0U p c w since = (p.1, (U.of (p.due.val + (c.val + w.val)), (U.of (p.costs.val + c.val), (U.of (p.rewards.val + w.val), (p.paid, (p.since, ())))))) := by
    unfold b0U; rw [if_neg (fun hh => by have := hh.2; have : 0 < p.2.1.val + (c.val + w.val) := this; omega)]
   rw [e]
   exact hq _
 ·
  have h : ¬ p.2.1.val = 0 := of_decide_eq_false h
  have e : b0U p c w since = (p.1, (U.of (p.due.val + (c.val + w.val)), (U.of (p.costs.val + c.val), (U.of (p.rewards.val + w.val), (p.paid, (p.since, ())))))) := by
   unfold b0U; rw [if_neg (fun hh => h hh.1)]
  rw [e]
  exact hq _
end Sym

/- Pricer: a report. -/
namespace Sym
open Go
abbrev RepT.from' (r : RepT) : I .u64 := r.1
abbrev RepT.upto (r : RepT) : I .u64 := r.2.1
abbrev RepT.cost (r : RepT) : U := r.2.2.1
abbrev b7F : Nat := 340282366920938463463374607431768211456
noncomputable def b4R (s : PrT) (p : Prm) (r : RepT) (now : I .u64) : I .i64 :=
 if prV s = true then
  if a6S p = true then
   if atN s.posters r.from' < s.posters.length then
    if s.last.nat ≤ r.upto.nat ∧ r.upto.nat ≤ now.nat then
     if r.cost.val < b7F then
      if s.reports.nat = 18446744073709551615 then I.of .i64 4 else I.of .i64 0
     else I.of .i64 2
    else I.of .i64 14
   else I.of .i64 8
  else I.of .i64 15
 else I.of .i64 2
theorem e1Q {n k : Nat} (h : Bits n k) (hk : k ≤ 256) : I.ltb (I.of .i64 128) (i6 k) = decide (¬ n < b7F) := by
 have e : I.of .i64 128 = i6 128 := rfl
 rw [e, a5U (by omega) (by omega)]
 have := h 128
 have e2 : (2 : Nat) ^ 128 = b7F := by decide
 rw [e2] at this
 by_cases hc : n < b7F
 ·
  rw [decide_eq_false (by omega), decide_eq_false (by simpa using hc)]
 ·
  rw [decide_eq_true (by omega), decide_eq_true hc]
theorem e4H (s : PrT) (p : Prm) (r : RepT) (now : I .u64) (hl : s.posters.length ≤ 1073741824) :
  a4Y ((s, (p, (r, (now, ())))), ()) = some ((b4R s p r now, ()), ()) := by
 refine Wp.out (T := fun o => o = _) ?_
 unfold a4Y b4R
 refine Wp.optF (b8N s hl) ?_
 refine Wp.brn (fun h => ?_) (fun h => ?_)
 ·
  have h : prV s = false := a7S h
  rw [if_neg (by rw [h]; simp)]; rfl
 have h : prV s = true := a7T h
 rw [if_pos h]
 refine Wp.optF (b9F p) ?_
 refine Wp.brn (fun h => ?_) (fun h => ?_)
 ·
  have h : a6S p = false := a7S h
  rw [if_neg (by rw [h]; simp)]; rfl
 have h : a6S p = true := a7T h
 rw [if_pos h]
 refine Wp.optF (c3H (l := s.posters) r.from' hl) ?_
 rw [show (((atI s.posters r.from', ()), ()) : ((I .i64) × Unit) × Unit).1.1 = atI s.posters r.from' from rfl, b6Q hl]
 refine Wp.brn (fun h => ?_) (fun h => ?_)
 ·
  rw [if_neg (of_decide_eq_true h)]; rfl
 rw [if_pos (by simpa using of_decide_eq_false h)]
 refine Wp.jnI ?_
 simp only [b3A]
 have fin : ∀ b : Bool, b = decide (¬ (s.last.nat ≤ r.upto.nat ∧ r.upto.nat ≤ now.nat)) → Wp (fun o => o = some (((if s.last.nat ≤ r.upto.nat ∧ r.upto.nat ≤ now.nat then if r.cost.val < b7F then if s.reports.nat = 18446744073709551615 then I.of .i64 4 else I.of .i64 0 else I.of .i64 2 else I.of .i64 14), ()), ()))
   (brn b (some ((I.of .i64 14, ()), ())) (optF none (a6G ((r.2.2.1, ()), ())) fun y4 => brn (I.ltb (I.of .i64 128) y4.1.1) (some ((I.of .i64 2, ()), ())) (brn (I.eqb s.2.2.2.1 (I.of .u64 18446744073709551615)) (some ((I.of .i64 4, ()), ())) (some ((I.of .i64 0, ()), ()))))) := by
  intro b hb
  subst hb
  refine Wp.brn (fun h => ?_) (fun h => ?_)
  ·
   rw [if_neg (of_decide_eq_true h)]; rfl
  rw [if_pos (Classical.byContradiction (of_decide_eq_false h))]
  refine Wp.call (d9Y r.cost) ?_
  rintro _ ⟨k, rfl, hB, hk⟩
  rw [show (((i6 k, ()), ()) : ((I .i64) × Unit) × Unit).1.1 = i6 k from rfl, e1Q hB hk]
  refine Wp.brn (fun h => ?_) (fun h => ?_)
  ·
   rw [if_neg (of_decide_eq_true h)]; rfl
  rw [if_pos (Classical.byContradiction (of_decide_eq_false h))]
  simp only [b4W]
  have e0 : (I.of .u64 18446744073709551615).nat = 18446744073709551615 := rfl
  rw [e0]
  refine Wp.brn (fun h => ?_) (fun h => ?_)
  ·
   rw [if_pos (of_decide_eq_true h)]; rfl
  rw [if_neg (of_decide_eq_false h)]; rfl
 refine Wp.brn (fun h => ?_) (fun h => ?_)
 ·
  exact fin true (decide_eq_true (by have : r.upto.nat < s.last.nat := of_decide_eq_true h; omega)).symm
 ·
  refine fin _ ?_
  have : ¬ r.upto.nat < s.last.nat := of_decide_eq_false h
  show decide (now.nat < r.upto.nat) = _
  rw [decide_eq_decide]
  omega
noncomputable abbrev zPr : PrT := (Z_U, ((I.of .u64 0), ((I.of .u64 0), ((I.of .u64 0), (a0P, ([], ()))))))
noncomputable abbrev f3L : f2F := (I.of .u64 0, (Z_U, ([], ())))
def b5I (s : PrT) (r : RepT) (now : I .u64) : Nat := a9K s.units s.last r.upto now
theorem d4T (s : PrT) (p : Prm) (r : RepT) (now : I .u64) (h1 : s.last.nat ≤ r.upto.nat) (h2 : r.upto.nat ≤ now.nat) :
  a6Z ((s, (p, (r, (now, ())))), ()) = some (if p.rpu.val * b5I s r now < U.top then ((I.of .u64 (b5I s r now : Int), (U.of (p.rpu.val * b5I s r now), ([], ()))), (I.of .i64 0, ())) else (f3L, (I.of .i64 4, ())), ()) := by
 have hle := b7A (units := s.units) h1 h2
 have hu := a1Q s.units
 refine Wp.out (T := fun o => o = _) ?_
 unfold a6Z b5I
 refine Wp.optF (e4B s.units s.last r.upto now h1 h2) ?_
 refine Wp.brnF rfl ?_
 refine Wp.optF (a3C _) (Wp.optF (e8K _ _) ?_)
 have e : (b1F (I.of .u64 (a9K s.units s.last r.upto now : Int))).val = a9K s.units s.last r.upto now := by rw [a3I]; exact b4M (by omega)
 simp only [e]
 have e2 : p.2.2.2.2.2.2.2.1 = p.rpu := rfl
 rw [e2, c5S]
 refine Wp.brn (fun h => ?_) (fun h => ?_)
 ·
  rw [if_neg (of_decide_eq_true h)]
  have := of_decide_eq_true h
  rw [b6R (by omega)]
  rfl
 ·
  have h := of_decide_eq_false h
  have h : p.rpu.val * a9K s.units s.last r.upto now < U.top := by omega
  rw [if_pos h, a9I h]
  rfl
noncomputable def b5S (pool : U) (l : List Post) (pay : List Pay) : S := S.of (((pool.val - a6K (pay.map amt) : Nat) : Int) - (a6K (l.map b0D) : Int))
theorem d9N (a b : U) : a8E ((a, (b, ())), ()) = some ((S.of ((a.val : Int) - b.val), ()), ()) := by
 refine Wp.out (T := fun o => o = _) ?_
 unfold a8E
 exact Wp.optF (d4W a b) rfl
open Classical in
noncomputable def b2H (s : PrT) (p : Prm) (pool : U) (t : f2F) : PrT × I .i64 :=
 if a6K (s.posters.map b0D) < U.top then
  if t.1.nat = 0 then (s, I.of .i64 0)
  else if I.neb (b0I s.price (b5S pool s.posters t.2.2.1) s.surplus t.1 p).2 (I.of .i64 0) = true then (zPr, (b0I s.price (b5S pool s.posters t.2.2.1) s.surplus t.1 p).2)
  else (((b0I s.price (b5S pool s.posters t.2.2.1) s.surplus t.1 p).1, (s.units, (s.last, (s.reports, (b5S pool s.posters t.2.2.1, (s.posters, ())))))), I.of .i64 0)
 else (zPr, I.of .i64 4)
theorem e0Z (s : PrT) (p : Prm) (pool : U) (t : f2F) (hT : TableOk s.posters) (hp : t.2.2.1.length ≤ 1073741824) (hs : a6K (t.2.2.1.map amt) < U.top) :
  a8J ((s, (p, (pool, (t, ())))), ()) = some (((b2H s p pool t).1, ((b2H s p pool t).2, ())), ()) := by
 have hl := hT.1
 refine Wp.out (T := fun o => o = _) ?_
 unfold a8J b2H
 refine Wp.optF (f1A hp) ?_
 simp only [a9I hs]
 refine Wp.brnF rfl ?_
 have hd := d4I (l := s.posters) (by omega)
 rw [if_pos (tabB_t.2 hT)] at hd
 refine Wp.optF hd ?_
 simp only [c5S]
 refine Wp.brn (fun h => ?_) (fun h => ?_)
 ·
  have h := of_decide_eq_true h
  rw [if_neg h, b6R (by omega)]
  rfl
 have h := of_decide_eq_false h
 have hsd : a6K (s.posters.map b0D) < U.top := by omega
 rw [if_pos hsd, a9I hsd]
 simp only [b4W]
 have e0 : (I.of .u64 0).nat = 0 := rfl
 rw [e0]
 refine Wp.brn (fun h => ?_) (fun h => ?_)
 ·
  rw [if_pos (of_decide_eq_true h)]; rfl
 rw [if_neg (of_decide_eq_false h)]
 refine Wp.optF (b7P _ _) (Wp.optF (d9N _ _) ?_)
 have e1 : S.of (((U.of (pool.val - (U.of (a6K (t.2.2.1.map amt))).val)).val : Int) - ((U.of (a6K (s.posters.map b0D))).val : Int)) = b5S pool s.posters t.2.2.1 := by
  unfold b5S
  rw [U.val_of hs, U.val_of hsd, U.val_of (by have := pool.lt; omega)]
 simp only [e1]
 refine Wp.optF (f2I _ _ _ _ _) ?_
 refine Wp.brn (fun h => ?_) (fun h => ?_)
 ·
  rw [if_pos h]; rfl
 ·
  rw [if_neg (by rw [show I.neb (b0I s.price (b5S pool s.posters t.2.2.1) s.surplus t.1 p).2 (I.of .i64 0) = false from h]; simp)]; 
  have h := niff_neb.1 h
  have h : (b0I s.price (b5S pool s.posters t.2.2.1) s.surplus t.1 p).2 = I.of .i64 0 := I.ext' h
  rfl
end Sym

/- Pricer: a report as a whole. -/
namespace Sym
open Go
theorem d2E {n o : Int} {u E J : Nat} : ((b6Y n o u E J).2 = I.of .i64 4 ∨ (b6Y n o u E J).2 = I.of .i64 0) ∧ a1P (b6Y n o u E J).1 = true := by
 have h0 : a1P (S.of 0) = true := S.of_valid (by decide)
 unfold b6Y
 split
 ·
  split
  ·
   split
   ·
    rename_i h
    exact ⟨.inr rfl, S.of_valid (Nat.lt_of_le_of_lt (Int.natAbs_ediv_le_natAbs _ _) h)⟩
   ·
    exact ⟨.inl rfl, h0⟩
  ·
   exact ⟨.inl rfl, h0⟩
 ·
  exact ⟨.inl rfl, h0⟩
theorem d8U (n : Nat) : (b4V n).2 = I.of .i64 4 ∨ (b4V n).2 = I.of .i64 0 := by
 unfold b4V; split
 ·
  exact .inr rfl
 ·
  exact .inl rfl
theorem e5A {c : U} {a b : S} {u : I .u64} {p : Prm} (hp : a6S p = true) (ha : a1P a = true) (hb : a1P b = true) : (b0I c a b u p).2 = I.of .i64 4 ∨ (b0I c a b u p).2 = I.of .i64 0 := by
 unfold b0I
 rw [if_pos hp, if_pos ha, if_pos hb]
 split
 ·
  exact .inr rfl
 ·
  rename_i hu
  rw [c9Q hp ha hb hu]
  have ⟨h1, h2⟩ := d2E (n := a.int) (o := b.int) (u := u.nat) (E := (Prm.eq p).nat) (J := (Prm.inertia p).nat)
  split
  ·
   exact h1
  ·
   unfold b6U
   rw [if_pos h2]
   split
   ·
    exact .inr rfl
   ·
    exact d8U _
theorem c1N {l : List Post} {a : I .u64} {c w : U} {since : I .u64} (hT : TableOk l) (hf : atN l a < l.length) (hs : since.nat ≠ 0) :
  ((b0A l a c w since).2 = I.of .i64 4 ∧ (b0A l a c w since).1 = []) ∨
  ((b0A l a c w since).2 = I.of .i64 0 ∧ d5K (rdL dP l (atN l a)) c w ∧ (b0A l a c w since).1 = setAt l (atN l a) (b0U (rdL dP l (atN l a)) c w since) ∧ TableOk (b0A l a c w since).1) := by
 unfold b0A
 split
 ·
  rename_i h
  refine .inr ⟨rfl, h, rfl, ?_⟩
  have hv := a1L since
  refine d7H hT hf ?_ rfl
  refine b8D (hT.2 _ hf).1 c w since (by omega) h.1 h.2.1 h.2.2 _ ?_
  by_cases hd : (Post.due (rdL dP l (atN l a))).val = 0 ∧ 0 < (Post.due (rdL dP l (atN l a))).val + (c.val + w.val)
  ·
   rw [if_pos hd]; exact .inl ⟨rfl, hd.1, hd.2⟩
  ·
   rw [if_neg hd]; exact .inr ⟨rfl, hd⟩
 ·
  exact .inl ⟨rfl, rfl⟩
noncomputable def a9X (s : PrT) (p : Prm) (r : RepT) (now : I .u64) : List Post × I .i64 := b0A s.posters r.from' r.cost (U.of (p.rpu.val * b5I s r now)) (I.add s.reports (I.of .u64 1))
noncomputable def a1M (l : List Post) (pool : U) : List Pay := a7O (ord l) pool.val
noncomputable def b3J (s : PrT) (l : List Post) : PrT := (s.price, (s.units, (s.last, (I.add s.reports (I.of .u64 1), (s.surplus, (l, ()))))))
noncomputable def b1V (s : PrT) (p : Prm) (r : RepT) (now : I .u64) (pay : List Pay) : f2F := (I.of .u64 (b5I s r now : Int), (U.of (p.rpu.val * b5I s r now), (pay, ())))
noncomputable def f6G (s : PrT) (n : Nat) (r : RepT) (q : PrT) : PrT := (q.1, (I.sub q.2.1 (I.of .u64 (n : Int)), (r.upto, q.2.2.2)))
noncomputable def a7Q (s : PrT) (p : Prm) (pool : U) (r : RepT) (now : I .u64) : PrT × f2F × I .i64 :=
 if (b4R s p r now).val = 0 then
  if p.rpu.val * b5I s r now < U.top then
   if (a9X s p r now).2.val = 0 then
    if (a2I (a9X s p r now).1 (a1M (a9X s p r now).1 pool)).2.val = 0 then
     if (b2H (b3J s (a2I (a9X s p r now).1 (a1M (a9X s p r now).1 pool)).1) p pool (b1V s p r now (a1M (a9X s p r now).1 pool))).2.val = 0 then
      (f6G s (b5I s r now) r (b2H (b3J s (a2I (a9X s p r now).1 (a1M (a9X s p r now).1 pool)).1) p pool (b1V s p r now (a1M (a9X s p r now).1 pool))).1, b1V s p r now (a1M (a9X s p r now).1 pool), I.of .i64 0)
     else (zPr, f3L, I.of .i64 4)
    else (zPr, f3L, I.of .i64 4)
   else (zPr, f3L, I.of .i64 4)
  else (zPr, f3L, I.of .i64 4)
 else (zPr, f3L, b4R s p r now)
structure Chk (s : PrT) (p : Prm) (r : RepT) (now : I .u64) : Prop where
 since : ∀ q ∈ s.posters, (Post.since q).nat ≤ s.reports.nat
 tab : TableOk s.posters
 sur : a1P s.surplus = true
 par : a6S p = true
 fnd : atN s.posters r.from' < s.posters.length
 lo : s.last.nat ≤ r.upto.nat
 hi : r.upto.nat ≤ now.nat
 cost : r.cost.val < b7F
 cnt : s.reports.nat < 18446744073709551615
theorem c2C {s : PrT} {p : Prm} {r : RepT} {now : I .u64} (h : (b4R s p r now).val = 0) : Chk s p r now := by
 unfold b4R at h
 split at h
 ·
  rename_i h1
  split at h
  ·
   rename_i h2
   split at h
   ·
    rename_i h3
    split at h
    ·
     rename_i h4
     split at h
     ·
      rename_i h5
      split at h
      ·
       exact absurd h (by decide)
      ·
       rename_i h6
       have ⟨a, b, c⟩ := prV_t.1 h1
       have := a1Q s.reports
       exact ⟨a, b, c, h2, h3, h4.1, h4.2, h5, by omega⟩
     ·
      exact absurd h (by decide)
    ·
     exact absurd h (by decide)
   ·
    exact absurd h (by decide)
  ·
   exact absurd h (by decide)
 ·
  exact absurd h (by decide)
theorem c5Q {s : PrT} {p : Prm} {r : RepT} {now : I .u64} (h : Chk s p r now) : (I.add s.reports (I.of .u64 1)).nat = s.reports.nat + 1 := by
 have := h.cnt
 have := a1L s.reports
 have h1 : (I.of .u64 1).val = 1 := rfl
 have := d4P (a := s.reports) (b := I.of .u64 1) (by omega)
 have := a1L (I.add s.reports (I.of .u64 1))
 omega
theorem c1L (l : List Post) (pool : U) : (a1M l pool).length ≤ l.length := Nat.le_trans (d1Z _ _) (f4A l)
theorem c7B (l : List Post) (pool : U) : a6K ((a1M l pool).map amt) = min pool.val (a6K (l.map b0D)) := by
 unfold a1M
 rw [d5N (ord l) pool.val pool.lt, f1T]
theorem c5K {l : List Post} (hT : TableOk l) (pool : U) :
  (a2I l (a1M l pool)).2 = I.of .i64 4 ∨ ((a2I l (a1M l pool)).2 = I.of .i64 0 ∧ TableOk (a2I l (a1M l pool)).1 ∧ (a2I l (a1M l pool)).1.length = l.length ∧
   (∀ i, Post.addr (rdL dP (a2I l (a1M l pool)).1 i) = Post.addr (rdL dP l i)) ∧ a6K ((a2I l (a1M l pool)).1.map b0D) + a6K ((a1M l pool).map amt) = a6K (l.map b0D)) := by
 rcases c6V (ord l) pool.val l pool.lt hT (fun p hp => f2A hp) (e3W hT) with h | ⟨h1, h2, h3, h4, h5, _, _⟩
 ·
  exact .inl h
 ·
  exact .inr ⟨h1, h2, h3, h4, h5⟩
theorem b0T : (I.of .i64 4).val ≠ 0 := by decide
theorem e3I (s : PrT) (p : Prm) (pool : U) (r : RepT) (now : I .u64) (hl : s.posters.length ≤ 1073741824) :
  a6C ((s, (p, (pool, (r, (now, ()))))), ()) = some (((a7Q s p pool r now).1, ((a7Q s p pool r now).2.1, ((a7Q s p pool r now).2.2, ()))), ()) := by
 refine Wp.out (T := fun o => o = _) ?_
 unfold a6C a7Q
 refine Wp.optF (e4H s p r now hl) ?_
 refine Wp.brn (fun h => ?_) (fun h => ?_)
 ·
  have h : ¬ (b4R s p r now).val = 0 := iff_neb.1 h
  rw [if_neg h]
  rfl
 have h0 : (b4R s p r now).val = 0 := niff_neb.1 h
 rw [if_pos h0]
 have hC := c2C h0
 refine Wp.optF (d4T s p r now hC.lo hC.hi) (Wp.jnI ?_)
 by_cases hw : p.rpu.val * b5I s r now < U.top
 case neg =>
  simp only [if_neg hw]
  exact Wp.brnF rfl (Wp.jnI (Wp.brnF rfl (Wp.jnI (Wp.brnF rfl (Wp.jnI (Wp.brnF rfl (Wp.brnT rfl rfl)))))))
 simp only [if_pos hw]
 refine Wp.brnT rfl ?_
 have hcnt := c5Q hC
 refine Wp.optF (e3M s.posters r.from' r.cost _ _ hC.tab hC.fnd (by rw [hcnt]; omega)) ?_
 have hA := c1N (c := r.cost) (w := U.of (p.rpu.val * b5I s r now)) (since := I.add s.reports (I.of .u64 1)) hC.tab hC.fnd (by rw [hcnt]; omega)
 have hL : b0A s.posters r.from' r.cost (U.of (p.rpu.val * b5I s r now)) (I.add s.reports (I.of .u64 1)) = a9X s p r now := rfl
 rw [hL] at hA ⊢
 rcases hA with ⟨hA, _⟩ | ⟨hA, _, _, hT⟩
 ·
  rw [if_neg (by rw [hA]; exact b0T)]
  simp only [hA]
  exact Wp.jnI (Wp.brnF rfl (Wp.jnI (Wp.brnF rfl (Wp.jnI (Wp.brnF rfl (Wp.brnT rfl rfl))))))
 rw [if_pos (by rw [hA]; rfl)]
 simp only [hA]
 refine Wp.jnI (Wp.brnT rfl ?_)
 generalize (a9X s p r now).1 = l at hT ⊢
 have hl64 := hT.1
 have hP := e5Z l pool (by omega)
 rw [d6V hT pool] at hP
 refine Wp.optF hP (Wp.jnI (Wp.brnT rfl ?_))
 have hpl := c1L l pool
 refine Wp.optF (e3F l (a7O (ord l) pool.val) (by omega) (by show (a1M l pool).length ≤ _; omega)) ?_
 rw [show a7O (ord l) pool.val = a1M l pool from rfl]
 rcases c5K hT pool with hB | ⟨hB, hT2, _, _, _⟩
 ·
  rw [if_neg (by rw [hB]; exact b0T)]
  simp only [hB]
  exact Wp.jnI (Wp.brnF rfl (Wp.brnT rfl rfl))
 rw [if_pos (by rw [hB]; rfl)]
 simp only [hB]
 refine Wp.jnI (Wp.brnT rfl ?_)
 have hsum := c7B l pool
 have hpo := pool.lt
 refine Wp.optF (e0Z (b3J s (a2I l (a1M l pool)).1) p pool (b1V s p r now (a1M l pool)) hT2 (by show (a1M l pool).length ≤ _; omega) (by show a6K ((a1M l pool).map amt) < _; omega)) ?_
 have hE : (b2H (b3J s (a2I l (a1M l pool)).1) p pool (b1V s p r now (a1M l pool))).2 = I.of .i64 4 ∨ (b2H (b3J s (a2I l (a1M l pool)).1) p pool (b1V s p r now (a1M l pool))).2 = I.of .i64 0 := by
  unfold b2H
  split
  ·
   rename_i hd
   split
   ·
    exact .inr rfl
   ·
    split
    ·
     refine e5A hC.par (S.of_valid ?_) hC.sur
     show (((pool.val - a6K ((a1M l pool).map amt) : Nat) : Int) - (a6K ((a2I l (a1M l pool)).1.map b0D) : Int)).natAbs < U.top
     have hd : a6K ((a2I l (a1M l pool)).1.map b0D) < U.top := hd
     omega
    ·
     exact .inr rfl
  ·
   exact .inl rfl
 rcases hE with hE | hE
 ·
  rw [if_neg (by rw [hE]; exact b0T)]
  simp only [hE]
  exact Wp.brnT rfl rfl
 ·
  rw [if_pos (by rw [hE]; rfl)]
  simp only [hE]
  exact Wp.brnF rfl rfl
end Sym

/- Pricer: posters and units added. -/
namespace Sym
open Go
noncomputable def f0G (a : I .u64) : Post := (a, (Z_U, (Z_U, (Z_U, (Z_U, ((I.of .u64 0), ()))))))
noncomputable def c6G : List Post → I .u64 → List Post
 | [], a => [f0G a]
 | p :: r, a => if (Post.addr p).nat < a.nat then p :: c6G r a else f0G a :: p :: r
theorem d1C {l : List Post} {a : I .u64} {i : Nat} (hi : i < l.length) (h : (Post.addr (rdL dP l i)).nat < a.nat) : c6G (l.drop i) a = rdL dP l i :: c6G (l.drop (i + 1)) a := by
 rw [List.drop_eq_getElem_cons hi, ← a3Z dP l i hi]
 exact if_pos h
theorem d2C {l : List Post} {a : I .u64} {i : Nat} (hi : i < l.length) (h : ¬ (Post.addr (rdL dP l i)).nat < a.nat) : c6G (l.drop i) a = f0G a :: l.drop i := by
 rw [List.drop_eq_getElem_cons hi, ← a3Z dP l i hi]
 exact if_neg h
theorem e5G {X : Type} (d : X) {l : List X} {i : Nat} (hi : i < l.length) : l.take (i + 1) = l.take i ++ [rdL d l i] := by
 rw [a3Z d l i hi, List.take_append_getElem]
theorem d7F : ∀ (l : List Post) (a : I .u64), (c6G l a).length = l.length + 1
 | [], a => rfl
 | p :: r, a => by
  unfold c6G
  split
  ·
   simp [d7F r a]
  ·
   rfl
open Classical in
noncomputable def b9H (l : List Post) (a : I .u64) : List Post × I .i64 :=
 if b0Q l = true ∧ a.nat ≠ 0 then
  if atN l a < l.length then ([], I.of .i64 9)
  else if l.length = 64 then ([], I.of .i64 7) else (c6G l a, I.of .i64 0)
 else ([], I.of .i64 2)
theorem e0F {l : List Post} {a : I .u64} (hl : l.length ≤ 1073741824) : I.leb (I.of .i64 0) (atI l a) = decide (atN l a < l.length) := by
 have := b6Q (l := l) (a := a) hl
 by_cases h : atN l a < l.length
 ·
  rw [decide_eq_false (by simpa using h)] at this
  rw [decide_eq_true h]
  exact iff_leb.2 (niff_ltb.1 this)
 ·
  rw [decide_eq_true h] at this
  rw [decide_eq_false h]
  exact niff_leb.2 (iff_ltb.1 this)
theorem f1P (l : List Post) (a : I .u64) (hl : l.length ≤ 1073741824) : b2C ((l, (a, ())), ()) = some (((b9H l a).1, ((b9H l a).2, ())), ()) := by
 refine Wp.out (T := fun o => o = _) ?_
 unfold b2C b9H
 refine Wp.jnI (Wp.jnI (Wp.optF (b5K hl) ?_))
 have e0 : (I.of .u64 0).nat = 0 := rfl
 have fin : ∀ b : Bool, b = decide (¬ (b0Q l = true ∧ a.nat ≠ 0)) → Wp (fun o => o = some (((if b0Q l = true ∧ a.nat ≠ 0 then if atN l a < l.length then (([] : List Post), I.of .i64 9) else if l.length = 64 then ([], I.of .i64 7) else (c6G l a, I.of .i64 0) else ([], I.of .i64 2)).1,
   ((if b0Q l = true ∧ a.nat ≠ 0 then if atN l a < l.length then (([] : List Post), I.of .i64 9) else if l.length = 64 then ([], I.of .i64 7) else (c6G l a, I.of .i64 0) else ([], I.of .i64 2)).2, ())), ()))
   (brn b (some (([], ((I.of .i64 2), ())), ())) (optF none (a6Y ((l, (a, ())), ())) fun y2 => brn (I.leb (I.of .i64 0) y2.1.1) (some (([], ((I.of .i64 9), ())), ())) (brn (I.eqb (I.ofNat .i64 (a0O l)) (I.of .i64 64)) (some (([], ((I.of .i64 7), ())), ()))
    (jn (fun (x1 : (((List a0A) × ((I .u64) × ((I .i64) × Unit))) × Unit)) =>
      optF (none) (a0S ((x1.1.1, ()), ())) fun y2 =>
      optF (none) (b6G ((x1.1.2.2.1, ()), (y2.2.1, (((x1.1.2.1, (Z_U, (Z_U, (Z_U, (Z_U, ((I.of .u64 0), ())))))) :: []), ())))) fun y3 =>
      some ((y3.2.1, ((I.of .i64 0), ())), ())) fun j1 =>
     iter (none) (fun x2 =>
      brn (@I.ltb .i64 x2.1.2.2.1 (I.ofNat .i64 (@a0O a0A x2.1.1)))
      (brn (@inB .i64 x2.1.2.2.1 (@a0O a0A x2.1.1))
       (brn (@I.ltb .u64 (@rdL a0A a0B x2.1.1 (@I.nat .i64 x2.1.2.2.1)).1 x2.1.2.1)
       (.again ((x2.1.1, (x2.1.2.1, ((@I.add .i64 x2.1.2.2.1 (I.of .i64 1)), ()))), ()))
       (.done (j1 ((x2.1.1, (x2.1.2.1, (x2.1.2.2.1, ()))), ()))))
       (.done (none)))
      (.done (j1 ((x2.1.1, (x2.1.2.1, (x2.1.2.2.1, ()))), ()))))
     K0 ((l, (a, ((I.of .i64 0), ()))), ()))))) := by
  intro b hb
  subst hb
  refine Wp.brn (fun h => ?_) (fun h => ?_)
  ·
   have h := of_decide_eq_true h
   simp only [if_neg h]; rfl
  have h := Classical.byContradiction (of_decide_eq_false h)
  simp only [if_pos h]
  refine Wp.optF (c3H (l := l) a hl) ?_
  rw [show (((atI l a, ()), ()) : ((I .i64) × Unit) × Unit).1.1 = atI l a from rfl, e0F hl]
  refine Wp.brn (fun h => ?_) (fun h => ?_)
  ·
   have h := of_decide_eq_true h
   simp only [if_pos h]; rfl
  have hf := of_decide_eq_false h
  simp only [if_neg hf]
  have hlim : l.length ≤ 64 := (tabB_t.1 (by assumption : b0Q l = true ∧ a.nat ≠ 0).1).1
  have e64 : I.of .i64 64 = i6 64 := rfl
  rw [a4I, a4W, e64, e2M (by omega) (by omega)]
  refine Wp.brn (fun h => ?_) (fun h => ?_)
  ·
   have h := of_decide_eq_true h
   simp only [if_pos h]; rfl
  have h64 := of_decide_eq_false h
  simp only [if_neg h64]
  have hT : b0Q l = true ∧ a.nat ≠ 0 := by assumption
  have stop : ∀ i, i ≤ l.length → (c6G l a = l.take i ++ f0G a :: l.drop i) → Wp (fun o => o = some ((c6G l a, (I.of .i64 0, ())), ())) (optF (none) (a0S ((l, ()), ())) fun y2 =>
         optF (none) (b6G ((i6 i, ()), (y2.2.1, (((a, (Z_U, (Z_U, (Z_U, (Z_U, ((I.of .u64 0), ())))))) :: []), ())))) fun y3 =>
         some ((y3.2.1, ((I.of .i64 0), ())), ())) := by
   intro i hi he
   refine Wp.optF (c0I l hl) ?_
   have : b6G ((i6 i, ()), (l, (((a, (Z_U, (Z_U, (Z_U, (Z_U, ((I.of .u64 0), ())))))) :: []), ()))) = some ((), (c6G l a, ())) := by
    refine Wp.out (T := fun o => o = _) ?_
    unfold b6G
    refine Wp.brnT (i6_inB' hi (by omega)) (Wp.brnT rfl (Wp.brnT (a7Y ?_) ?_))
    ·
     show l.length + 1 ≤ _; omega
    ·
     rw [he, a3H (by omega)]
     show some ((), ((l.drop 0).take i ++ [f0G a] ++ (l.drop i).take (l.length - i), ())) = _
     rw [List.drop_zero, List.take_of_length_le (l := l.drop i) (by simp), List.append_assoc]
     rfl
   exact Wp.optF this rfl
  refine Wp.jnI ?_
  refine Wp.iter (fun t => ∃ i, t = ((l, (a, (i6 i, ()))), ()) ∧ i ≤ l.length ∧ c6G l a = l.take i ++ c6G (l.drop i) a) (fun t => l.length - t.1.2.2.1.val.toNat) ?_ ⟨0, rfl, by omega, by simp⟩ ?_
  ·
   rintro t ⟨i, rfl, hi, hI⟩
   simp only [a7Z, a4W, a4I, a5U (show i < 9223372036854775808 by omega) (show l.length < 9223372036854775808 by omega), a3H (show i < 9223372036854775808 by omega), a5W (show i + 1 < 9223372036854775808 by omega), b3A]
   refine Wp.brn (fun hc => ?_) (fun hc => ?_)
   ·
    have hc := of_decide_eq_true hc
    refine Wp.brnT (a3F (by omega) (by omega)) ?_
    refine Wp.brn (fun h => ?_) (fun h => ?_)
    ·
     have h : (Post.addr (rdL dP l i)).nat < a.nat := of_decide_eq_true h
     refine Wp.again ⟨i + 1, rfl, by omega, ?_⟩ (by show l.length - (i6 (i + 1)).val.toNat < l.length - (i6 i).val.toNat; rw [a1D (by omega), a1D (by omega)]; omega)
     rw [hI, d1C hc h, e5G dP hc]
     simp
    ·
     have h : ¬ (Post.addr (rdL dP l i)).nat < a.nat := of_decide_eq_false h
     exact Wp.done (stop i (by omega) (by rw [hI, d2C hc h]))
   ·
    have hc := of_decide_eq_false hc
    refine Wp.done (stop i (by omega) ?_)
    rw [hI, List.drop_eq_nil_of_le (by omega)]
    rfl
  ·
   rw [a5J]
   show l.length - _ < _
   omega
 refine Wp.brn (fun h => ?_) (fun h => ?_)
 ·
  have h : b0Q l = false := a7S h
  exact fin true (decide_eq_true (by rw [h]; simp)).symm
 ·
  have h : b0Q l = true := a7T h
  refine fin _ ?_
  rw [b4W, e0, decide_eq_decide]
  simp [h]
open Classical in
noncomputable def a9Q (s : PrT) (a : I .u64) : PrT × I .i64 :=
 if prV s = true then
  if (b9H s.posters a).2.val = 0 then ((s.price, (s.units, (s.last, (s.reports, (s.surplus, ((b9H s.posters a).1, ())))))), I.of .i64 0)
  else (zPr, (b9H s.posters a).2)
 else (zPr, I.of .i64 2)
theorem d3D (s : PrT) (a : I .u64) (hl : s.posters.length ≤ 1073741824) : a5D ((s, (a, ())), ()) = some (((a9Q s a).1, ((a9Q s a).2, ())), ()) := by
 refine Wp.out (T := fun o => o = _) ?_
 unfold a5D a9Q
 refine Wp.optF (b8N s hl) ?_
 refine Wp.brn (fun h => ?_) (fun h => ?_)
 ·
  have h : prV s = false := a7S h
  rw [if_neg (by rw [h]; simp)]; rfl
 have h : prV s = true := a7T h
 rw [if_pos h]
 refine Wp.optF (f1P s.posters a hl) ?_
 refine Wp.brn (fun h => ?_) (fun h => ?_)
 ·
  have h : ¬ (b9H s.posters a).2.val = 0 := iff_neb.1 h
  rw [if_neg h]; rfl
 ·
  have h : (b9H s.posters a).2.val = 0 := niff_neb.1 h
  rw [if_pos h]; rfl
noncomputable def b1N (s : PrT) (n : I .u64) : PrT × I .i64 :=
 if prV s = true then
  if s.units.nat + n.nat < 18446744073709551616 then ((s.price, (I.of .u64 ((s.units.nat + n.nat : Nat) : Int), s.2.2)), I.of .i64 0)
  else (zPr, I.of .i64 4)
 else (zPr, I.of .i64 2)
theorem d4N (s : PrT) (n : I .u64) (hl : s.posters.length ≤ 1073741824) : a9D ((s, (n, ())), ()) = some (((b1N s n).1, ((b1N s n).2, ())), ()) := by
 refine Wp.out (T := fun o => o = _) ?_
 unfold a9D b1N
 refine Wp.optF (b8N s hl) ?_
 refine Wp.brn (fun h => ?_) (fun h => ?_)
 ·
  have h : prV s = false := a7S h
  rw [if_neg (by rw [h]; simp)]; rfl
 have h : prV s = true := a7T h
 rw [if_pos h]
 obtain ⟨z, q, hz, hv, hq⟩ := b0E s.units n (I.of .u64 0) (by decide)
 have hv : z.nat + 18446744073709551616 * q.nat = s.units.nat + n.nat := hv
 have hzl := a1Q z
 refine Wp.optF hz ?_
 simp only [e6Y]
 refine Wp.brn (fun h => ?_) (fun h => ?_)
 ·
  have h := of_decide_eq_true h
  rw [if_neg (by omega)]; rfl
 ·
  have h := of_decide_eq_false h
  rw [if_pos (by omega)]
  have e : z = I.of .u64 ((s.units.nat + n.nat : Nat) : Int) := by
   have : s.units.nat + n.nat = z.nat := by omega
   rw [this, a1L]
   exact (I.ext' z.ok).symm
  have hc : b1M ((s, ()), ()) = some ((s, ()), ()) := by
   refine Wp.out (T := fun o => o = _) ?_
   unfold b1M
   exact Wp.optF (c0I s.posters hl) rfl
  refine Wp.optF hc ?_
  rw [← e]
  rfl
end Sym

/- Pricer: what an accepted report has done. -/
namespace Sym
open Go
noncomputable def a8S (s : PrT) (p : Prm) (r : RepT) (now : I .u64) : List Post :=
 setAt s.posters (atN s.posters r.from') (b0U (rdL dP s.posters (atN s.posters r.from')) r.cost (U.of (p.rpu.val * b5I s r now)) (I.add s.reports (I.of .u64 1)))
structure RepOk (s : PrT) (p : Prm) (pool : U) (r : RepT) (now : I .u64) (x : PrT) (t : f2F) : Prop where
 chk : Chk s p r now
 w : p.rpu.val * b5I s r now < U.top
 fits : d5K (rdL dP s.posters (atN s.posters r.from')) r.cost (U.of (p.rpu.val * b5I s r now))
 tab1 : TableOk (a8S s p r now)
 ap : (a2I (a8S s p r now) (a1M (a8S s p r now) pool)).2.val = 0
 tab2 : TableOk x.posters
 len : x.posters.length = s.posters.length
 addr : ∀ i, Post.addr (rdL dP x.posters i) = Post.addr (rdL dP s.posters i)
 posters : x.posters = (a2I (a8S s p r now) (a1M (a8S s p r now) pool)).1
 due : a6K (x.posters.map b0D) + a6K ((a1M (a8S s p r now) pool).map amt) = a6K ((a8S s p r now).map b0D)
 total : a6K (x.posters.map b0D) < U.top
 units : x.units = I.sub s.units (I.of .u64 (b5I s r now : Int))
 last : x.last = r.upto
 reports : x.reports = I.add s.reports (I.of .u64 1)
 surplus : x.surplus = (if b5I s r now = 0 then s.surplus else b5S pool x.posters (a1M (a8S s p r now) pool))
 price : x.price = (if b5I s r now = 0 then s.price else (b0I s.price (b5S pool x.posters (a1M (a8S s p r now) pool)) s.surplus (I.of .u64 (b5I s r now : Int)) p).1)
 out : t = b1V s p r now (a1M (a8S s p r now) pool)
theorem d4F {s : PrT} {p : Prm} {r : RepT} {now : I .u64} (h : Chk s p r now) : b5I s r now ≤ s.units.nat ∧ (I.of .u64 (b5I s r now : Int)).nat = b5I s r now := by
 have h1 := b7A (units := s.units) h.lo h.hi
 have h2 := a1Q s.units
 exact ⟨h1, b4M (by unfold b5I; omega)⟩
theorem f8I {s : PrT} {p : Prm} {pool : U} {r : RepT} {now : I .u64} (h : (a7Q s p pool r now).2.2.val = 0) : RepOk s p pool r now (a7Q s p pool r now).1 (a7Q s p pool r now).2.1 := by
 unfold a7Q at h ⊢
 by_cases h0 : (b4R s p r now).val = 0
 case neg => rw [if_neg h0] at h; exact absurd h h0
 rw [if_pos h0] at h ⊢
 have hC := c2C h0
 by_cases hw : p.rpu.val * b5I s r now < U.top
 case neg => rw [if_neg hw] at h; exact absurd h b0T
 rw [if_pos hw] at h ⊢
 have hcnt := c5Q hC
 have ⟨hn1, hn2⟩ := d4F hC
 have hA := c1N (c := r.cost) (w := U.of (p.rpu.val * b5I s r now)) (since := I.add s.reports (I.of .u64 1)) hC.tab hC.fnd (by rw [hcnt]; omega)
 rw [show b0A s.posters r.from' r.cost (U.of (p.rpu.val * b5I s r now)) (I.add s.reports (I.of .u64 1)) = a9X s p r now from rfl] at hA
 rcases hA with ⟨hA, _⟩ | ⟨hA, hfit, hl1, hT⟩
 ·
  rw [if_neg (by rw [hA]; exact b0T)] at h; exact absurd h b0T
 rw [if_pos (by rw [hA]; rfl)] at h ⊢
 have hl1 : (a9X s p r now).1 = a8S s p r now := hl1
 rw [hl1] at h ⊢
 rw [hl1] at hT
 rcases c5K hT pool with hB | ⟨hB, hT2, hlen, hadr, hdue⟩
 ·
  rw [if_neg (by rw [hB]; exact b0T)] at h; exact absurd h b0T
 have hB0 : (a2I (a8S s p r now) (a1M (a8S s p r now) pool)).2.val = 0 := by rw [hB]; rfl
 rw [if_pos hB0] at h ⊢
 have hl0 : (a8S s p r now).length = s.posters.length := by unfold a8S; rw [a2J, List.length_set]
 have ha0 : ∀ i, Post.addr (rdL dP (a8S s p r now) i) = Post.addr (rdL dP s.posters i) := by
  intro i
  unfold a8S
  rw [b4C]
  split
  ·
   rename_i e; rw [e.1]; rfl
  ·
   rfl
 by_cases hD : (b2H (b3J s (a2I (a8S s p r now) (a1M (a8S s p r now) pool)).1) p pool (b1V s p r now (a1M (a8S s p r now) pool))).2.val = 0
 case neg => rw [if_neg hD] at h; exact absurd h b0T
 rw [if_pos hD] at h ⊢
 have key : a6K ((a2I (a8S s p r now) (a1M (a8S s p r now) pool)).1.map b0D) < U.top ∧
   (b2H (b3J s (a2I (a8S s p r now) (a1M (a8S s p r now) pool)).1) p pool (b1V s p r now (a1M (a8S s p r now) pool))).1 =
    ((if b5I s r now = 0 then s.price else (b0I s.price (b5S pool (a2I (a8S s p r now) (a1M (a8S s p r now) pool)).1 (a1M (a8S s p r now) pool)) s.surplus (I.of .u64 (b5I s r now : Int)) p).1),
     (s.units, (s.last, (I.add s.reports (I.of .u64 1), ((if b5I s r now = 0 then s.surplus else b5S pool (a2I (a8S s p r now) (a1M (a8S s p r now) pool)).1 (a1M (a8S s p r now) pool)), ((a2I (a8S s p r now) (a1M (a8S s p r now) pool)).1, ())))))) := by
  unfold b2H at hD ⊢
  have e1 : (b3J s (a2I (a8S s p r now) (a1M (a8S s p r now) pool)).1).posters = (a2I (a8S s p r now) (a1M (a8S s p r now) pool)).1 := rfl
  have e2 : (b1V s p r now (a1M (a8S s p r now) pool)).1.nat = b5I s r now := hn2
  rw [e1] at hD ⊢
  split at hD
  ·
   rename_i hs
   refine ⟨hs, ?_⟩
   rw [if_pos hs]
   rw [e2] at hD ⊢
   split at hD
   ·
    rename_i hz
    rw [if_pos hz, if_pos hz, if_pos hz]
    rfl
   ·
    rename_i hz
    rw [if_neg hz, if_neg hz, if_neg hz]
    split at hD
    ·
     rename_i hN
     exact absurd hD (iff_neb.1 hN)
    ·
     rename_i hN
     rw [if_neg hN]
     rfl
  ·
   exact absurd hD b0T
 rw [key.2]
 exact ⟨hC, hw, hfit, hT, hB0, hT2, hlen.trans hl0, fun i => (hadr i).trans (ha0 i), rfl, hdue, key.1, rfl, rfl, rfl, rfl, rfl, rfl⟩
end Sym

/- The given functions with a counted number of rounds: for running them at given values. -/
namespace Sym
open Go
abbrev o6 (n : Int) : I .u64 := I.of .u64 n
abbrev oi (n : Int) : I .i64 := I.of .i64 n
abbrev K1 : Nat := 2 ^ 64
noncomputable section
def b4Q (x : (⟨[.pl a1C, .pl a1C], []⟩ : Tm).D) : Option (⟨[.pl (.arr 5 (.int .u64))], []⟩ : Tm).D :=
 let a : U := x.1.1
 let b : U := x.1.2.1
 iter none (fun x0 => brn (I.ltb x0.1.2.1 (oi 4)) (brn (inB x0.1.2.1 4) (brn (inB x0.1.2.1 4) (optF (.done none) (b1D (((@Arr.sel (I .u64) (o6 0) 4 x0.2.1 (I.nat x0.1.2.1)),((@Arr.sel (I .u64) (o6 0) 4 x0.2.2.1 (I.nat x0.1.2.1)),(x0.1.1,()))),())) fun y1 => brn (inB x0.1.2.1 5) (.again ((y1.1.2.1,((I.add x0.1.2.1 (oi 1)),())),(x0.2.1,(x0.2.2.1,(x0.2.2.2.1,((@Arr.upd (I .u64) 5 x0.2.2.2.2.1 (I.nat x0.1.2.1) y1.1.1),())))))) (.done none)) (.done none)) (.done none)) (.done (some (((x0.2.2.2.2.1.1,(x0.2.2.2.2.1.2.1,(x0.2.2.2.2.1.2.2.1,(x0.2.2.2.2.1.2.2.2.1,(x0.1.1,()))))),()),())))) K1 ((o6 0,(oi 0,())),(a,(b,((o6 0,Z_U),((o6 0,Z_U),())))))
theorem c5I : b1B = b4Q := by
 funext x
 unfold b1B b4Q
 rw [a5J]
 all_goals kernel_rfl
def a6I (x : (⟨[.pl (.sl a0D)], []⟩ : Tm).D) : Option (⟨[.pl .bool], []⟩ : Tm).D :=
 let a : (List a0A) := x.1.1
 iter none (fun x0 => brn (I.ltb x0.1.2.2.2.1 x0.1.2.2.1) (brn (inB x0.1.2.2.2.1 (@a0O a0A x0.1.2.1)) (jn (fun (x1 : (((List a0A) × ((List a0A) × ((I .i64) × ((I .i64) × ((I .i64) × (Bool × (Bool × (Bool × Unit)))))))) × (a0A × Unit))) => optF (.done none) (b4Q ((x1.2.1.2.1,(x1.2.1.2.2.2.2.1,())),())) fun y2 => optF (.done none) (b4Q ((x1.2.1.2.2.1,(x1.2.1.2.2.2.1,())),())) fun y3 => brn (a2R (Ty.eqb (.arr 5 (.int .u64)) y2.1.1 y3.1.1)) (.done (some ((false,()),()))) (optF (.done none) (a4T ((x1.2.1.2.1,()),())) fun y4 => brn (a2R (Ty.eqb .bool (I.eqb x1.2.1.2.2.2.2.2.1 (o6 0)) y4.1.1)) (.done (some ((false,()),()))) (.again ((x1.1.1,(x1.1.2.1,(x1.1.2.2.1,((I.add x1.1.2.2.2.1 (oi 1)),())))),())))) fun j1 => brn (I.eqb (@rdL a0A a0B x0.1.2.1 (I.nat x0.1.2.2.2.1)).1 (o6 0)) (.done (some ((false,()),()))) (brn (I.ltb (oi 0) x0.1.2.2.2.1) (brn (inB (I.sub x0.1.2.2.2.1 (oi 1)) (@a0O a0A x0.1.1)) (brn (I.leb (@rdL a0A a0B x0.1.2.1 (I.nat x0.1.2.2.2.1)).1 (@rdL a0A a0B x0.1.1 (I.nat (I.sub x0.1.2.2.2.1 (oi 1)))).1) (.done (some ((false,()),()))) (j1 ((x0.1.1,(x0.1.2.1,(x0.1.2.2.1,(x0.1.2.2.2.1,(x0.1.2.2.2.1,((I.ltb (oi 0) x0.1.2.2.2.1),(true,((I.leb (@rdL a0A a0B x0.1.2.1 (I.nat x0.1.2.2.2.1)).1 (@rdL a0A a0B x0.1.1 (I.nat (I.sub x0.1.2.2.2.1 (oi 1)))).1),())))))))),((@rdL a0A a0B x0.1.2.1 (I.nat x0.1.2.2.2.1)),())))) (.done none)) (j1 ((x0.1.1,(x0.1.2.1,(x0.1.2.2.1,(x0.1.2.2.2.1,(x0.1.2.2.2.1,((I.ltb (oi 0) x0.1.2.2.2.1),(false,(false,())))))))),((@rdL a0A a0B x0.1.2.1 (I.nat x0.1.2.2.2.1)),()))))) (.done none)) (.done (some (((I.leb (I.ofNat .i64 (@a0O a0A x0.1.1)) (oi 64)),()),())))) K1 ((a,(a,((I.ofNat .i64 (@a0O a0A a)),(oi 0,())))),())
theorem a6L : a5C = a6I := by
 funext x
 unfold a5C a6I
 rw [a5J, c5I]
 all_goals kernel_rfl
def b2N (x : (⟨[.pl a0E], []⟩ : Tm).D) : Option (⟨[.pl .bool], []⟩ : Tm).D :=
 let a : a0T := x.1.1
 iter none (fun x0 => brn (I.ltb x0.1.2.2.1 x0.1.2.1) (brn (inB x0.1.2.2.1 (@a0O a0A x0.1.1)) (brn (I.ltb x0.2.1.2.2.2.1 (@rdL a0A a0B x0.1.1 (I.nat x0.1.2.2.1)).2.2.2.2.2.1) (.done (some ((false,()),()))) (.again ((x0.1.1,(x0.1.2.1,((I.add x0.1.2.2.1 (oi 1)),()))),(x0.2.1,())))) (.done none)) (.done (optF none (a6I ((x0.2.1.2.2.2.2.2.1,()),())) fun y1 => brn y1.1.1 (optF none (a1Y ((x0.2.1.2.2.2.2.1,()),())) fun y2 => some ((y2.1.1,()),())) (some ((false,()),()))))) K1 ((a.2.2.2.2.2.1,((I.ofNat .i64 (@a0O a0A a.2.2.2.2.2.1)),(oi 0,()))),(a,()))
theorem b5O : a6D = b2N := by
 funext x
 unfold a6D b2N
 rw [a5J, a6L]
 all_goals kernel_rfl
def a9U (x : (⟨[.pl (.sl a0D), .pl (.int .u64)], []⟩ : Tm).D) : Option (⟨[.pl (.int .i64)], []⟩ : Tm).D :=
 let a : (List a0A) := x.1.1
 let b : (I .u64) := x.1.2.1
 iter none (fun x0 => brn (I.ltb x0.1.2.2.2.1 x0.1.2.2.1) (brn (inB x0.1.2.2.2.1 (@a0O a0A x0.1.1)) (brn (I.eqb (@rdL a0A a0B x0.1.1 (I.nat x0.1.2.2.2.1)).1 x0.2.1) (.done (some ((x0.1.2.2.2.1,()),()))) (.again ((x0.1.1,(((),x0.1.2.1.2),(x0.1.2.2.1,((I.add x0.1.2.2.2.1 (oi 1)),())))),(x0.2.1,())))) (.done none)) (.done (some (((oi (-1)),()),())))) K1 ((a,(((),()),((I.ofNat .i64 (@a0O a0A a)),(oi 0,())))),(b,()))
theorem b0O : a6Y = a9U := by
 funext x
 unfold a6Y a9U
 rw [a5J]
 all_goals kernel_rfl
def a2D (x : (⟨[.pl (.sl a0D)], []⟩ : Tm).D) : Option (⟨[.whole 0], [.row a0D]⟩ : Tm).D :=
 let a : List a0A := x.1.1
 brn (a2P (a0O a)) (some ((),(a,()))) none
theorem a2M : a0S = a2D := by
 funext x
 obtain ⟨⟨a, ⟨⟩⟩, ⟨⟩⟩ := x
 cases a with
 | nil => show both _ _ _ = _; exact e1T rfl
 | cons p l => rfl
def b7S (x : (⟨[.pl (.sl a0D), .pl (.int .u64)], []⟩ : Tm).D) : Option (⟨[.pl (.sl a0D), .pl (.int .i64)], []⟩ : Tm).D :=
 let a : (List a0A) := x.1.1
 let b : (I .u64) := x.1.2.1
 jn (fun (x0 : (((List a0A) × ((I .u64) × Unit)) × Unit)) => jn (fun (x1 : (((List a0A) × ((I .u64) × ((I .i64) × Unit))) × Unit)) => optF none (a2D ((x1.1.1,()),())) fun y2 => optF none (b6G ((x1.1.2.2.1,()),(y2.2.1,(((x1.1.2.1,(Z_U,(Z_U,(Z_U,(Z_U,(o6 0,()))))))::[]),())))) fun y3 => some ((y3.2.1,(oi 0,())),())) fun j1 => iter none (fun x2 => brn (I.ltb x2.1.2.2.1 (I.ofNat .i64 (@a0O a0A x2.1.1))) (brn (inB x2.1.2.2.1 (@a0O a0A x2.1.1)) (brn (I.ltb (@rdL a0A a0B x2.1.1 (I.nat x2.1.2.2.1)).1 x2.1.2.1) (.again ((x2.1.1,(x2.1.2.1,((I.add x2.1.2.2.1 (oi 1)),()))),())) (.done (j1 ((x2.1.1,(x2.1.2.1,(x2.1.2.2.1,()))),())))) (.done none)) (.done (j1 ((x2.1.1,(x2.1.2.1,(x2.1.2.2.1,()))),())))) K1 ((x0.1.1,(x0.1.2.1,(oi 0,()))),())) fun j0 => jn (fun (x1 : (((List a0A) × ((I .u64) × (Bool × Unit))) × Unit)) => brn x1.1.2.2.1 (some (([],(oi 2,())),())) (optF none (a9U ((x1.1.1,(x1.1.2.1,())),())) fun y2 => brn (I.leb (oi 0) y2.1.1) (some (([],(oi 9,())),())) (brn (I.eqb (I.ofNat .i64 (@a0O a0A x1.1.1)) (oi 64)) (some (([],(oi 7,())),())) (j0 ((x1.1.1,(x1.1.2.1,())),()))))) fun j1 => optF none (a6I ((a,()),())) fun y2 => brn (a2R y2.1.1) (j1 ((a,(b,(true,()))),())) (j1 ((a,(b,((I.eqb b (o6 0)),()))),()))
theorem c4K : b2C = b7S := by
 funext x
 unfold b2C b7S
 rw [a5J, b0O, a6L, a2M]
 all_goals kernel_rfl
def b1Q (x : (⟨[.pl a0E, .pl (.int .u64)], []⟩ : Tm).D) : Option (⟨[.pl a0E, .pl (.int .i64)], []⟩ : Tm).D :=
 let a : a0T := x.1.1
 let b : (I .u64) := x.1.2.1
 optF none (b2N ((a,()),())) fun y0 => brn (a2R y0.1.1) (some (((Z_U,(o6 0,(o6 0,(o6 0,(a0P,([],())))))),(oi 2,())),())) (optF none (b7S ((a.2.2.2.2.2.1,(b,())),())) fun y1 => brn (I.neb y1.1.2.1 (oi 0)) (some (((Z_U,(o6 0,(o6 0,(o6 0,(a0P,([],())))))),(y1.1.2.1,())),())) (some (((a.1,(a.2.1,(a.2.2.1,(a.2.2.2.1,(a.2.2.2.2.1,(y1.1.1,a.2.2.2.2.2.2)))))),(oi 0,())),())))
theorem b7K : a5D = b1Q := by
 funext x
 unfold a5D b1Q
 rw [b5O, c4K]
 all_goals kernel_rfl
def b3F (x : (⟨[.pl a1C], []⟩ : Tm).D) : Option (⟨[.pl (.int .i64)], []⟩ : Tm).D :=
 let a : U := x.1.1
 iter none (fun x0 => brn (I.leb (oi 0) x0.1.1) (brn (inB x0.1.1 4) (brn (I.neb (@Arr.sel (I .u64) (o6 0) 4 x0.2.1 (I.nat x0.1.1)) (o6 0)) (brn (inB x0.1.1 4) (optF (.done none) (a6V (((@Arr.sel (I .u64) (o6 0) 4 x0.2.1 (I.nat x0.1.1)),()),())) fun y1 => .done (some (((I.add (I.mul (oi 64) x0.1.1) y1.1.1),()),()))) (.done none)) (.again (((I.sub x0.1.1 (oi 1)),()),(x0.2.1,())))) (.done none)) (.done (some ((oi 0,()),())))) K1 ((oi 3,()),(a,()))
theorem b9N : a6G = b3F := by
 funext x
 unfold a6G b3F
 rw [a5J]
 all_goals kernel_rfl
def a9L (x : (⟨[.pl a0I], []⟩ : Tm).D) : Option (⟨[.pl (.int .i64)], []⟩ : Tm).D :=
 let a : a1I := x.1.1
 iter none (fun x0 => brn (I.leb x0.1.1 (oi 12)) (optF (.done none) (b5X ((x0.2.1,(x0.1.1,())),())) fun y1 => optF (.done none) (b1O ((x0.2.1,(x0.1.1,())),())) fun y2 => optF (.done none) (a0M ((y2.1.1,()),())) fun y3 => optF (.done none) (a4N ((y1.1.1,(y3.1.1,())),())) fun y4 => brn (I.ltb y4.1.1 (oi 0)) (.done (some ((x0.1.1,()),()))) (optF (.done none) (a0M ((y2.1.2.1,()),())) fun y5 => optF (.done none) (a4N ((y1.1.1,(y5.1.1,())),())) fun y6 => brn (I.ltb (oi 0) y6.1.1) (.done (some ((x0.1.1,()),()))) (.again (((I.add x0.1.1 (oi 1)),()),(x0.2.1,()))))) (.done (some ((oi 0,()),())))) K1 ((oi 1,()),(a,()))
theorem b5L : a4J = a9L := by
 funext x
 unfold a4J a9L
 rw [a5J]
 all_goals kernel_rfl
def b0L (x : (⟨[.pl a0I], []⟩ : Tm).D) : Option (⟨[.pl .bool], []⟩ : Tm).D :=
 let a : a1I := x.1.1
 optF none (a9L ((a,()),())) fun y0 => some (((I.eqb y0.1.1 (oi 0)),()),())
theorem b2A : a7I = b0L := by
 funext x
 unfold a7I b0L
 rw [b5L]
 all_goals kernel_rfl
def b0C (x : (⟨[.pl a0E, .pl a0I, .pl a0V, .pl (.int .u64)], []⟩ : Tm).D) : Option (⟨[.pl (.int .i64)], []⟩ : Tm).D :=
 let a : a0T := x.1.1
 let b : a1I := x.1.2.1
 let c : a1X := x.1.2.2.1
 let d : (I .u64) := x.1.2.2.2.1
 optF none (b2N ((a,()),())) fun y0 => brn (a2R y0.1.1) (some ((oi 2,()),())) (optF none (b0L ((b,()),())) fun y1 => brn (a2R y1.1.1) (some ((oi 15,()),())) (optF none (a9U ((a.2.2.2.2.2.1,(c.1,())),())) fun y2 => brn (I.ltb y2.1.1 (oi 0)) (some ((oi 8,()),())) (jn (fun (x3 : ((Bool × Unit) × (a0T × (a1X × Unit)))) => brn x3.1.1 (some ((oi 14,()),())) (optF none (b3F ((x3.2.2.1.2.2.1,()),())) fun y4 => brn (I.ltb (oi 128) y4.1.1) (some ((oi 2,()),())) (brn (I.eqb x3.2.1.2.2.2.1 (o6 18446744073709551615)) (some ((oi 4,()),())) (some ((oi 0,()),()))))) fun j3 => brn (I.ltb c.2.1 a.2.2.1) (j3 ((true,()),(a,(c,())))) (j3 (((I.ltb d c.2.1),()),(a,(c,())))))))
theorem b6M : a4Y = b0C := by
 funext x
 unfold a4Y b0C
 rw [b9N, b0O, b5O, b2A]
 all_goals kernel_rfl
def b3O (x : (⟨[.pl a1C, .pl a1C], []⟩ : Tm).D) : Option (⟨[.pl a1C, .pl (.int .i64)], []⟩ : Tm).D :=
 let a : U := x.1.1
 let b : U := x.1.2.1
 iter none (fun x0 => brn (I.ltb x0.1.1 (oi 4)) (iter (.done none) (fun x1 => brn (I.ltb x1.1.2.2.2.1 (oi 4)) (brn (inB x1.1.1 4) (brn (inB x1.1.2.2.2.1 4) (optF (.done (.done none)) (a6O (((@Arr.sel (I .u64) (o6 0) 4 x1.2.1 (I.nat x1.1.1)),((@Arr.sel (I .u64) (o6 0) 4 x1.2.2.1 (I.nat x1.1.2.2.2.1)),())),())) fun y2 => brn (I.ltb (oi 3) (I.add x1.1.1 x1.1.2.2.2.1)) (brn (I.neb (I.or y2.1.1 y2.1.2.1) (o6 0)) (.done (.done (some ((Z_U,(oi 4,())),())))) (.again ((x1.1.1,(x1.1.2.1,(x1.1.2.2.1,((I.add x1.1.2.2.2.1 (oi 1)),())))),(x1.2.1,(x1.2.2.1,(x1.2.2.2.1,(x1.2.2.2.2.1,()))))))) (optF (.done (.done none)) (b1D ((y2.1.2.1,(x1.1.2.1,(o6 0,()))),())) fun y3 => brn (inB (I.add x1.1.1 x1.1.2.2.2.1) 4) (optF (.done (.done none)) (b1D (((@Arr.sel (I .u64) (o6 0) 4 x1.2.2.2.2.1 (I.nat (I.add x1.1.1 x1.1.2.2.2.1))),(y3.1.1,(o6 0,()))),())) fun y4 => brn (inB (I.add x1.1.1 x1.1.2.2.2.1) 4) (.again ((x1.1.1,((I.add (I.add y2.1.1 y3.1.2.1) y4.1.2.1),(x1.1.2.2.1,((I.add x1.1.2.2.2.1 (oi 1)),())))),(x1.2.1,(x1.2.2.1,(x1.2.2.2.1,((@Arr.upd (I .u64) 4 x1.2.2.2.2.1 (I.nat (I.add x1.1.1 x1.1.2.2.2.1)) y4.1.1),())))))) (.done (.done none))) (.done (.done none)))) (.done (.done none))) (.done (.done none))) (.done (brn (I.neb x1.1.2.1 (o6 0)) (.done (some ((Z_U,(oi 4,())),()))) (.again (((I.add x1.1.2.2.1 (oi 1)),()),(x1.2.1,(x1.2.2.1,(x1.2.2.2.1,(x1.2.2.2.2.1,()))))))))) K1 ((x0.1.1,(o6 0,(x0.1.1,(oi 0,())))),(x0.2.1,(x0.2.2.1,(x0.2.2.2.1,(x0.2.2.2.2.1,())))))) (.done (some ((x0.2.2.2.2.1,(oi 0,())),())))) K1 ((oi 0,()),(a,(b,(Z_U,(Z_U,())))))
theorem b6V : a8O = b3O := by
 funext x
 unfold a8O b3O
 rw [a5J]
 all_goals kernel_rfl
def b7D (x : (⟨[.pl a1C, .pl a1C], []⟩ : Tm).D) : Option (⟨[.pl a1C, .pl a1C], []⟩ : Tm).D :=
 let a : U := x.1.1
 let b : U := x.1.2.1
 iter none (fun x0 => brn (I.ltb x0.1.1 (oi 4)) (iter (.done none) (fun x1 => brn (I.ltb x1.1.2.2.2.1 (oi 4)) (brn (inB x1.1.1 4) (brn (inB x1.1.2.2.2.1 4) (optF (.done (.done none)) (a6O (((@Arr.sel (I .u64) (o6 0) 4 x1.2.1 (I.nat x1.1.1)),((@Arr.sel (I .u64) (o6 0) 4 x1.2.2.1 (I.nat x1.1.2.2.2.1)),())),())) fun y2 => optF (.done (.done none)) (b1D ((y2.1.2.1,(x1.1.2.1,(o6 0,()))),())) fun y3 => brn (inB (I.add x1.1.1 x1.1.2.2.2.1) 8) (optF (.done (.done none)) (b1D (((@Arr.sel (I .u64) (o6 0) 8 x1.2.2.2.2.2.1 (I.nat (I.add x1.1.1 x1.1.2.2.2.1))),(y3.1.1,(o6 0,()))),())) fun y4 => brn (inB (I.add x1.1.1 x1.1.2.2.2.1) 8) (.again ((x1.1.1,((I.add (I.add y2.1.1 y3.1.2.1) y4.1.2.1),(x1.1.2.2.1,((I.add x1.1.2.2.2.1 (oi 1)),())))),(x1.2.1,(x1.2.2.1,(x1.2.2.2.1,(x1.2.2.2.2.1,((@Arr.upd (I .u64) 8 x1.2.2.2.2.2.1 (I.nat (I.add x1.1.1 x1.1.2.2.2.1)) y4.1.1),()))))))) (.done (.done none))) (.done (.done none))) (.done (.done none))) (.done (.done none))) (.done (brn (inB (I.add x1.1.1 (oi 4)) 8) (.again (((I.add x1.1.2.2.1 (oi 1)),()),(x1.2.1,(x1.2.2.1,(x1.2.2.2.1,(x1.2.2.2.2.1,((@Arr.upd (I .u64) 8 x1.2.2.2.2.2.1 (I.nat (I.add x1.1.1 (oi 4))) x1.1.2.1),()))))))) (.done none)))) K1 ((x0.1.1,(o6 0,(x0.1.1,(oi 0,())))),(x0.2.1,(x0.2.2.1,(x0.2.2.2.1,(x0.2.2.2.2.1,(x0.2.2.2.2.2.1,()))))))) (.done (some (((@Arr.ofList (I .u64) (o6 0) 4 (@a6E (I .u64) (@Arr.list (I .u64) 8 x0.2.2.2.2.2.1) 0 4)),((@Arr.ofList (I .u64) (o6 0) 4 (@a6E (I .u64) (@Arr.list (I .u64) 8 x0.2.2.2.2.2.1) 4 4)),())),())))) K1 ((oi 0,()),(a,(b,(Z_U,(Z_U,((o6 0,(o6 0,(o6 0,(o6 0,Z_U)))),()))))))
theorem c4G : b0Y = b7D := by
 funext x
 unfold b0Y b7D
 rw [a5J]
 all_goals kernel_rfl
def b1P (x : (⟨[.pl a1C, .pl (.int .u64)], []⟩ : Tm).D) : Option (⟨[.pl a1C, .pl (.int .u64)], []⟩ : Tm).D :=
 let a : U := x.1.1
 let b : (I .u64) := x.1.2.1
 iter none (fun x0 => brn (I.ltb (oi 0) x0.1.2.2.1) (brn (inB x0.1.2.2.1 4) (brn (inB (I.sub x0.1.2.2.1 (oi 1)) 4) (brn (inB x0.1.2.2.1 4) (.again ((x0.1.1,(x0.1.2.1,((I.sub x0.1.2.2.1 (oi 1)),()))),((@Arr.upd (I .u64) 4 x0.2.1 (I.nat x0.1.2.2.1) (I.or (I.shl (@Arr.sel (I .u64) (o6 0) 4 x0.2.1 (I.nat x0.1.2.2.1)) (o6 1)) (I.shr (@Arr.sel (I .u64) (o6 0) 4 x0.2.1 (I.nat (I.sub x0.1.2.2.1 (oi 1)))) (o6 63)))),(x0.2.2.1,())))) (.done none)) (.done none)) (.done none)) (.done (some ((((I.or (I.shl x0.2.1.1 (o6 1)) x0.1.1),(x0.2.1.2.1,(x0.2.1.2.2.1,(x0.2.1.2.2.2.1,())))),(x0.1.2.1,())),())))) K1 ((b,((I.shr a.2.2.2.1 (o6 63)),(oi 3,()))),(a,(Z_U,())))
theorem b7N : a6A = b1P := by
 funext x
 unfold a6A b1P
 rw [a5J]
 all_goals kernel_rfl
def b2Z (x : (⟨[.pl a1C, .pl a1C], []⟩ : Tm).D) : Option (⟨[.pl a1C], []⟩ : Tm).D :=
 let a : U := x.1.1
 let b : U := x.1.2.1
 iter none (fun x0 => brn (I.ltb x0.1.2.1 (oi 4)) (brn (inB x0.1.2.1 4) (brn (inB x0.1.2.1 4) (optF (.done none) (b9D (((@Arr.sel (I .u64) (o6 0) 4 x0.2.1 (I.nat x0.1.2.1)),((@Arr.sel (I .u64) (o6 0) 4 x0.2.2.1 (I.nat x0.1.2.1)),(x0.1.1,()))),())) fun y1 => brn (inB x0.1.2.1 4) (.again ((y1.1.2.1,((I.add x0.1.2.1 (oi 1)),())),((@Arr.upd (I .u64) 4 x0.2.1 (I.nat x0.1.2.1) y1.1.1),(x0.2.2.1,(x0.2.2.2.1,()))))) (.done none)) (.done none)) (.done none)) (.done (some ((x0.2.1,()),())))) K1 ((o6 0,(oi 0,())),(a,(b,(Z_U,()))))
theorem b9L : a6H = b2Z := by
 funext x
 unfold a6H b2Z
 rw [a5J]
 all_goals kernel_rfl
def b1H (x : (⟨[.pl a1C, .pl a1C, .pl a1C], []⟩ : Tm).D) : Option (⟨[.pl a1C, .pl a1C, .pl (.int .i64)], []⟩ : Tm).D :=
 let a : U := x.1.1
 let b : U := x.1.2.1
 let c : U := x.1.2.2.1
 brn (Ty.eqb a1C c Z_U) (some ((Z_U,(Z_U,(oi 5,()))),())) (optF none (a4N ((b,(c,())),())) fun y0 => brn (I.leb (oi 0) y0.1.1) (some ((Z_U,(Z_U,(oi 4,()))),())) (iter none (fun x1 => brn (I.leb (oi 0) x1.1.1) (brn (inB (I.quo x1.1.1 (oi 64)) 4) (brn (I.nn (I.rem x1.1.1 (oi 64))) (optF (.done none) (b1P ((x1.2.2.2.2.1,((I.and (I.shr (@Arr.sel (I .u64) (o6 0) 4 x1.2.1 (I.nat (I.quo x1.1.1 (oi 64)))) (I.rem x1.1.1 (oi 64))) (o6 1)),())),())) fun y2 => jn (fun (x3 : (((I .i64) × (Bool × Unit)) × (U × (U × (U × (U × Unit)))))) => brn x3.1.2.1 (optF (.done none) (b2Z ((x3.2.2.2.2.1,(x3.2.2.1,())),())) fun y4 => brn (inB (I.quo x3.1.1 (oi 64)) 4) (brn (I.nn (I.rem x3.1.1 (oi 64))) (brn (inB (I.quo x3.1.1 (oi 64)) 4) (.again (((I.sub x3.1.1 (oi 1)),()),(x3.2.1,(x3.2.2.1,((@Arr.upd (I .u64) 4 x3.2.2.2.1 (I.nat (I.quo x3.1.1 (oi 64))) (I.or (@Arr.sel (I .u64) (o6 0) 4 x3.2.2.2.1 (I.nat (I.quo x3.1.1 (oi 64)))) (I.shl (o6 1) (I.rem x3.1.1 (oi 64))))),(y4.1.1,())))))) (.done none)) (.done none)) (.done none)) (.again (((I.sub x3.1.1 (oi 1)),()),(x3.2.1,(x3.2.2.1,(x3.2.2.2.1,(x3.2.2.2.2.1,()))))))) fun j3 => brn (I.eqb y2.1.2.1 (o6 1)) (j3 ((x1.1.1,(true,())),(x1.2.1,(x1.2.2.1,(x1.2.2.2.1,(y2.1.1,())))))) (optF (.done none) (a4N ((y2.1.1,(x1.2.2.1,())),())) fun y4 => j3 ((x1.1.1,((I.leb (oi 0) y4.1.1),())),(x1.2.1,(x1.2.2.1,(x1.2.2.2.1,(y2.1.1,()))))))) (.done none)) (.done none)) (.done (some ((x1.2.2.2.1,(x1.2.2.2.2.1,(oi 0,()))),())))) K1 ((oi 255,()),(a,(c,(Z_U,(b,())))))))
theorem b4O : a5N = b1H := by
 funext x
 unfold a5N b1H
 rw [a5J, b7N, b9L]
 all_goals kernel_rfl
def b0B (x : (⟨[.pl a1C, .pl a1C, .pl a1C], []⟩ : Tm).D) : Option (⟨[.pl a1C, .pl (.int .i64)], []⟩ : Tm).D :=
 let a : U := x.1.1
 let b : U := x.1.2.1
 let c : U := x.1.2.2.1
 optF none (b7D ((a,(b,())),())) fun y0 => optF none (b1H ((y0.1.1,(y0.1.2.1,(c,()))),())) fun y1 => some ((y1.1.1,(y1.1.2.2.1,())),())
theorem b6C : a4A = b0B := by
 funext x
 unfold a4A b0B
 rw [c4G, b4O]
 all_goals kernel_rfl
def b3E (x : (⟨[.pl (.int .u64), .pl (.int .u64), .pl (.int .u64), .pl (.int .u64)], []⟩ : Tm).D) : Option (⟨[.pl (.int .u64), .pl (.int .i64)], []⟩ : Tm).D :=
 let a : (I .u64) := x.1.1
 let b : (I .u64) := x.1.2.1
 let c : (I .u64) := x.1.2.2.1
 let d : (I .u64) := x.1.2.2.2.1
 jn (fun (x0 : (U × Unit)) => optF none (a0M ((x0.1.1,()),())) fun y1 => optF none (a0M (((I.sub x0.1.2.2.1 x0.1.2.1),()),())) fun y2 => optF none (a0M (((I.sub x0.1.2.2.2.1 x0.1.2.1),()),())) fun y3 => optF none (b0B ((y1.1.1,(y2.1.1,(y3.1.1,()))),())) fun y4 => some ((y4.1.1.1,(y4.1.2.1,())),())) fun j0 => jn (fun (x1 : (((I .u64) × ((I .u64) × ((I .u64) × ((I .u64) × (Bool × Unit))))) × Unit)) => brn x1.1.2.2.2.2.1 (some ((o6 0,(oi 14,())),())) (brn (I.eqb x1.1.2.2.2.1 x1.1.2.1) (some ((x1.1.1,(oi 0,())),())) (j0 ((x1.1.1,(x1.1.2.1,(x1.1.2.2.1,(x1.1.2.2.2.1,())))),())))) fun j1 => brn (I.ltb c b) (j1 ((a,(b,(c,(d,(true,()))))),())) (j1 ((a,(b,(c,(d,((I.ltb d c),()))))),()))
theorem b9P : a7R = b3E := by
 funext x
 unfold a7R b3E
 rw [b6C]
 all_goals kernel_rfl
def b1W (x : (⟨[.pl a0E, .pl a0I, .pl a0V, .pl (.int .u64)], []⟩ : Tm).D) : Option (⟨[.pl a0Q, .pl (.int .i64)], []⟩ : Tm).D :=
 let a : a0T := x.1.1
 let b : a1I := x.1.2.1
 let c : a1X := x.1.2.2.1
 let d : (I .u64) := x.1.2.2.2.1
 optF none (b3E ((a.2.1,(a.2.2.1,(c.2.1,(d,())))),())) fun y0 => brn (I.neb y0.1.2.1 (oi 0)) (some (((o6 0,(Z_U,([],()))),(y0.1.2.1,())),())) (optF none (a0M ((y0.1.1,()),())) fun y1 => optF none (b3O ((b.2.2.2.2.2.2.2.1,(y1.1.1,())),())) fun y2 => brn (I.neb y2.1.2.1 (oi 0)) (some (((o6 0,(Z_U,([],()))),(y2.1.2.1,())),())) (some (((y0.1.1,(y2.1.1,([],()))),(oi 0,())),())))
theorem b8U : a6Z = b1W := by
 funext x
 unfold a6Z b1W
 rw [b6V, b9P]
 all_goals kernel_rfl
def b4J (x : (⟨[.pl (.sl a0D), .pl (.int .u64), .pl a1C, .pl a1C, .pl (.int .u64)], []⟩ : Tm).D) : Option (⟨[.pl (.sl a0D), .pl (.int .i64)], []⟩ : Tm).D :=
 let a : (List a0A) := x.1.1
 let b : (I .u64) := x.1.2.1
 let c : U := x.1.2.2.1
 let d : U := x.1.2.2.2.1
 let e : (I .u64) := x.1.2.2.2.2.1
 optF none (a9U ((a,(b,())),())) fun y0 => jn (fun (x1 : (((List a0A) × ((I .u64) × ((I .i64) × Unit))) × (U × (U × Unit)))) => brn (inB x1.1.2.2.1 (@a0O a0A x1.1.1)) (optF none (a1Z ((x1.2.1,(x1.2.2.1,())),())) fun y2 => optF none (a1Z (((@rdL a0A a0B x1.1.1 (I.nat x1.1.2.2.1)).2.1,(y2.1.1,())),())) fun y3 => optF none (a1Z (((@rdL a0A a0B x1.1.1 (I.nat x1.1.2.2.1)).2.2.1,(x1.2.1,())),())) fun y4 => optF none (a1Z (((@rdL a0A a0B x1.1.1 (I.nat x1.1.2.2.1)).2.2.2.1,(x1.2.2.1,())),())) fun y5 => jn (fun (x6 : (((List a0A) × ((I .u64) × ((I .i64) × Unit))) × (a0A × (U × (U × (U × Unit)))))) => jn (fun (x7 : (((List a0A) × ((I .i64) × Unit)) × (a0A × (U × (U × (U × Unit)))))) => optF none (a2D ((x7.1.1,()),())) fun y8 => brn (inB x7.1.2.1 (@a0O a0A y8.2.1)) (some (((@a1N a0A y8.2.1 (I.nat x7.1.2.1) (x7.2.1.1,(x7.2.2.1,(x7.2.2.2.1,(x7.2.2.2.2.1,x7.2.1.2.2.2.2))))),(oi 0,())),())) none) fun j7 => optF none (a4T ((x6.2.1.2.1,()),())) fun y8 => brn y8.1.1 (optF none (a4T ((x6.2.2.1,()),())) fun y9 => brn (a2R y9.1.1) (j7 ((x6.1.1,(x6.1.2.2.1,())),((x6.2.1.1,(x6.2.1.2.1,(x6.2.1.2.2.1,(x6.2.1.2.2.2.1,(x6.2.1.2.2.2.2.1,(x6.1.2.1,x6.2.1.2.2.2.2.2.2)))))),(x6.2.2.1,(x6.2.2.2.1,(x6.2.2.2.2.1,())))))) (j7 ((x6.1.1,(x6.1.2.2.1,())),(x6.2.1,(x6.2.2.1,(x6.2.2.2.1,(x6.2.2.2.2.1,()))))))) (j7 ((x6.1.1,(x6.1.2.2.1,())),(x6.2.1,(x6.2.2.1,(x6.2.2.2.1,(x6.2.2.2.2.1,()))))))) fun j6 => brn (I.neb y2.1.2.1 (oi 0)) (some (([],(oi 4,())),())) (brn (I.neb y3.1.2.1 (oi 0)) (some (([],(oi 4,())),())) (brn (I.neb y4.1.2.1 (oi 0)) (some (([],(oi 4,())),())) (brn (I.neb y5.1.2.1 (oi 0)) (some (([],(oi 4,())),())) (j6 ((x1.1.1,(x1.1.2.1,(x1.1.2.2.1,()))),((@rdL a0A a0B x1.1.1 (I.nat x1.1.2.2.1)),(y3.1.1,(y4.1.1,(y5.1.1,())))))))))) none) fun j1 => jn (fun (x2 : (((List a0A) × ((I .u64) × ((I .i64) × (Bool × Unit)))) × (U × (U × Unit)))) => brn x2.1.2.2.2.1 (some (([],(oi 2,())),())) (brn (I.ltb x2.1.2.2.1 (oi 0)) (some (([],(oi 8,())),())) (j1 ((x2.1.1,(x2.1.2.1,(x2.1.2.2.1,()))),(x2.2.1,(x2.2.2.1,())))))) fun j2 => optF none (a6I ((a,()),())) fun y3 => brn (a2R y3.1.1) (j2 ((a,(e,(y0.1.1,(true,())))),(c,(d,())))) (j2 ((a,(e,(y0.1.1,((I.eqb e (o6 0)),())))),(c,(d,()))))
theorem c0U : a8N = b4J := by
 funext x
 unfold a8N b4J
 rw [b0O, a6L, a2M]
 all_goals kernel_rfl
def a9H (x : (⟨[.iface 116 (.ptr 0 [.fld 0]), .iface 118 (.pl a0Z)], [.box a1G (.pair (.whole 1) (.pl .nil)), .row a0Z]⟩ : Tm).D) : Option (⟨[], [.box a1G (.pair (.whole 1) (.pl .nil)), .row a0Z]⟩ : Tm).D :=
 let b : a0C := x.1.2.1
 let h0 : (Unit × Unit) := x.2.1
 let h1 : (List a0C) := x.2.2.1
 brn (a2P (@a0O a0C (@a0G a0C h1 (b::[])))) (optF none (a4L (((@a0G a0C h1 (b::[])),()),())) fun y0 => iter none (fun x1 => brn (I.eqb (I.quo (I.sub x1.1.2.1 (oi 1)) (oi 2)) x1.1.2.1) (.done (some ((),(((),x1.2.1.2),(x1.2.2.1,()))))) (optF (.done none) (a1W ((x1.2.2.1,(x1.1.2.1,((I.quo (I.sub x1.1.2.1 (oi 1)) (oi 2)),()))),())) fun y2 => brn (a2R y2.1.1) (.done (some ((),(((),x1.2.1.2),(x1.2.2.1,()))))) (brn (inB x1.1.2.1 (@a0O a0C x1.2.2.1)) (brn (inB (I.quo (I.sub x1.1.2.1 (oi 1)) (oi 2)) (@a0O a0C x1.2.2.1)) (brn (inB (I.quo (I.sub x1.1.2.1 (oi 1)) (oi 2)) (@a0O a0C x1.2.2.1)) (brn (inB x1.1.2.1 (@a0O a0C (@a1N a0C x1.2.2.1 (I.nat (I.quo (I.sub x1.1.2.1 (oi 1)) (oi 2))) (@rdL a0C a0L x1.2.2.1 (I.nat x1.1.2.1))))) (.again (((),((I.quo (I.sub x1.1.2.1 (oi 1)) (oi 2)),())),(((),x1.2.1.2),((@a1N a0C (@a1N a0C x1.2.2.1 (I.nat (I.quo (I.sub x1.1.2.1 (oi 1)) (oi 2))) (@rdL a0C a0L x1.2.2.1 (I.nat x1.1.2.1))) (I.nat x1.1.2.1) (@rdL a0C a0L x1.2.2.1 (I.nat (I.quo (I.sub x1.1.2.1 (oi 1)) (oi 2))))),())))) (.done none)) (.done none)) (.done none)) (.done none)))) K1 (((),((I.sub y0.1.1 (oi 1)),())),(((),h0.2),((@a0G a0C h1 (b::[])),())))) none
theorem b5R : a4M = a9H := by
 funext x
 unfold a4M a9H
 rw [a5J]
 all_goals kernel_rfl
def b4B (x : (⟨[.pl (.sl a0D)], []⟩ : Tm).D) : Option (⟨[.ptr 0 []], [.box a1G (.pair (.whole 1) (.pl .nil)), .row a0Z]⟩ : Tm).D :=
 let a : (List a0A) := x.1.1
 iter none (fun x0 => brn (I.ltb x0.1.2.2.1 x0.1.2.1) (brn (inB x0.1.2.2.1 (@a0O a0A x0.1.1)) (brn (a2R (Ty.eqb a1C (@rdL a0A a0B x0.1.1 (I.nat x0.1.2.2.1)).2.1 Z_U)) (optF (.done none) (a9H (((),(((@rdL a0A a0B x0.1.1 (I.nat x0.1.2.2.1)),(x0.1.2.2.1,())),())),(((),x0.2.1.2),(x0.2.2.1,())))) fun y1 => .again ((x0.1.1,(x0.1.2.1,((I.add x0.1.2.2.1 (oi 1)),()))),(((),y1.2.1.2),(y1.2.2.1,())))) (.again ((x0.1.1,(x0.1.2.1,((I.add x0.1.2.2.1 (oi 1)),()))),(((),x0.2.1.2),(x0.2.2.1,()))))) (.done none)) (.done (some ((),(((),x0.2.1.2),(x0.2.2.1,())))))) K1 ((a,((I.ofNat .i64 (@a0O a0A a)),(oi 0,()))),(((),()),([],())))
theorem b9Y : a8K = b4B := by
 funext x
 unfold a8K b4B
 rw [a5J, b5R]
 all_goals kernel_rfl
def a7C (x : (⟨[.ptr 0 []], [.box a1G (.pair (.whole 1) (.pl .nil)), .row a0Z]⟩ : Tm).D) : Option (⟨[.pl a0D, .pl .bool], [.box a1G (.pair (.whole 1) (.pl .nil)), .row a0Z]⟩ : Tm).D :=
 let h0 : (Unit × Unit) := x.2.1
 let h1 : (List a0C) := x.2.2.1
 optF none (a5B ((),(((),h0.2),(h1,())))) fun y0 => brn y0.1.2.1 (optF none (a4L ((y0.2.2.1,()),())) fun y1 => brn (inB (I.sub y1.1.1 (oi 1)) (@a0O a0C y0.2.2.1)) (brn (inB (oi 0) (@a0O a0C y0.2.2.1)) (brn (inB (oi 0) (@a0O a0C y0.2.2.1)) (brn (inB (I.sub y1.1.1 (oi 1)) (@a0O a0C (@a1N a0C y0.2.2.1 0 (@rdL a0C a0L y0.2.2.1 (I.nat (I.sub y1.1.1 (oi 1))))))) (iter none (fun x2 => brn (I.leb x2.1.2.2.1 (I.add (I.mul (oi 2) x2.1.2.2.2.1) (oi 1))) (.done (brn (inB (I.sub (I.ofNat .i64 (@a0O a0C x2.2.2.1)) (oi 1)) (@a0O a0C x2.2.2.1)) (brn (inB' (I.sub (I.ofNat .i64 (@a0O a0C x2.2.2.1)) (oi 1)) (@a0O a0C x2.2.2.1)) (some ((x2.2.2.2.2.1,(x2.1.2.2.2.2.2.1,())),(((),x2.2.1.2),((@a6E a0C x2.2.2.1 0 (I.nat (I.sub (I.ofNat .i64 (@a0O a0C x2.2.2.1)) (oi 1)))),())))) none) none)) (brn (I.ltb (I.add (I.mul (oi 2) x2.1.2.2.2.1) (oi 1)) (oi 0)) (.done (brn (inB (I.sub (I.ofNat .i64 (@a0O a0C x2.2.2.1)) (oi 1)) (@a0O a0C x2.2.2.1)) (brn (inB' (I.sub (I.ofNat .i64 (@a0O a0C x2.2.2.1)) (oi 1)) (@a0O a0C x2.2.2.1)) (some ((x2.2.2.2.2.1,(x2.1.2.2.2.2.2.1,())),(((),x2.2.1.2),((@a6E a0C x2.2.2.1 0 (I.nat (I.sub (I.ofNat .i64 (@a0O a0C x2.2.2.1)) (oi 1)))),())))) none) none)) (brn (I.ltb (I.add (I.add (I.mul (oi 2) x2.1.2.2.2.1) (oi 1)) (oi 1)) x2.1.2.2.1) (optF (.done none) (a1W ((x2.2.2.1,((I.add (I.add (I.mul (oi 2) x2.1.2.2.2.1) (oi 1)) (oi 1)),((I.add (I.mul (oi 2) x2.1.2.2.2.1) (oi 1)),()))),())) fun y3 => brn y3.1.1 (optF (.done none) (a1W ((x2.2.2.1,((I.add (I.add (I.mul (oi 2) x2.1.2.2.2.1) (oi 1)) (oi 1)),(x2.1.2.2.2.1,()))),())) fun y4 => brn (a2R y4.1.1) (.done (brn (inB (I.sub (I.ofNat .i64 (@a0O a0C x2.2.2.1)) (oi 1)) (@a0O a0C x2.2.2.1)) (brn (inB' (I.sub (I.ofNat .i64 (@a0O a0C x2.2.2.1)) (oi 1)) (@a0O a0C x2.2.2.1)) (some ((x2.2.2.2.2.1,(x2.1.2.2.2.2.2.1,())),(((),x2.2.1.2),((@a6E a0C x2.2.2.1 0 (I.nat (I.sub (I.ofNat .i64 (@a0O a0C x2.2.2.1)) (oi 1)))),())))) none) none)) (brn (inB (I.add (I.add (I.mul (oi 2) x2.1.2.2.2.1) (oi 1)) (oi 1)) (@a0O a0C x2.2.2.1)) (brn (inB x2.1.2.2.2.1 (@a0O a0C x2.2.2.1)) (brn (inB x2.1.2.2.2.1 (@a0O a0C x2.2.2.1)) (brn (inB (I.add (I.add (I.mul (oi 2) x2.1.2.2.2.1) (oi 1)) (oi 1)) (@a0O a0C (@a1N a0C x2.2.2.1 (I.nat x2.1.2.2.2.1) (@rdL a0C a0L x2.2.2.1 (I.nat (I.add (I.add (I.mul (oi 2) x2.1.2.2.2.1) (oi 1)) (oi 1))))))) (.again (((),(x2.1.2.1,(x2.1.2.2.1,((I.add (I.add (I.mul (oi 2) x2.1.2.2.2.1) (oi 1)) (oi 1)),((),(x2.1.2.2.2.2.2.1,())))))),(((),x2.2.1.2),((@a1N a0C (@a1N a0C x2.2.2.1 (I.nat x2.1.2.2.2.1) (@rdL a0C a0L x2.2.2.1 (I.nat (I.add (I.add (I.mul (oi 2) x2.1.2.2.2.1) (oi 1)) (oi 1))))) (I.nat (I.add (I.add (I.mul (oi 2) x2.1.2.2.2.1) (oi 1)) (oi 1))) (@rdL a0C a0L x2.2.2.1 (I.nat x2.1.2.2.2.1))),(x2.2.2.2.1,(x2.2.2.2.2.1,())))))) (.done none)) (.done none)) (.done none)) (.done none))) (optF (.done none) (a1W ((x2.2.2.1,((I.add (I.mul (oi 2) x2.1.2.2.2.1) (oi 1)),(x2.1.2.2.2.1,()))),())) fun y4 => brn (a2R y4.1.1) (.done (brn (inB (I.sub (I.ofNat .i64 (@a0O a0C x2.2.2.1)) (oi 1)) (@a0O a0C x2.2.2.1)) (brn (inB' (I.sub (I.ofNat .i64 (@a0O a0C x2.2.2.1)) (oi 1)) (@a0O a0C x2.2.2.1)) (some ((x2.2.2.2.2.1,(x2.1.2.2.2.2.2.1,())),(((),x2.2.1.2),((@a6E a0C x2.2.2.1 0 (I.nat (I.sub (I.ofNat .i64 (@a0O a0C x2.2.2.1)) (oi 1)))),())))) none) none)) (brn (inB (I.add (I.mul (oi 2) x2.1.2.2.2.1) (oi 1)) (@a0O a0C x2.2.2.1)) (brn (inB x2.1.2.2.2.1 (@a0O a0C x2.2.2.1)) (brn (inB x2.1.2.2.2.1 (@a0O a0C x2.2.2.1)) (brn (inB (I.add (I.mul (oi 2) x2.1.2.2.2.1) (oi 1)) (@a0O a0C (@a1N a0C x2.2.2.1 (I.nat x2.1.2.2.2.1) (@rdL a0C a0L x2.2.2.1 (I.nat (I.add (I.mul (oi 2) x2.1.2.2.2.1) (oi 1))))))) (.again (((),(x2.1.2.1,(x2.1.2.2.1,((I.add (I.mul (oi 2) x2.1.2.2.2.1) (oi 1)),((),(x2.1.2.2.2.2.2.1,())))))),(((),x2.2.1.2),((@a1N a0C (@a1N a0C x2.2.2.1 (I.nat x2.1.2.2.2.1) (@rdL a0C a0L x2.2.2.1 (I.nat (I.add (I.mul (oi 2) x2.1.2.2.2.1) (oi 1))))) (I.nat (I.add (I.mul (oi 2) x2.1.2.2.2.1) (oi 1))) (@rdL a0C a0L x2.2.2.1 (I.nat x2.1.2.2.2.1))),(x2.2.2.2.1,(x2.2.2.2.2.1,())))))) (.done none)) (.done none)) (.done none)) (.done none)))) (optF (.done none) (a1W ((x2.2.2.1,((I.add (I.mul (oi 2) x2.1.2.2.2.1) (oi 1)),(x2.1.2.2.2.1,()))),())) fun y3 => brn (a2R y3.1.1) (.done (brn (inB (I.sub (I.ofNat .i64 (@a0O a0C x2.2.2.1)) (oi 1)) (@a0O a0C x2.2.2.1)) (brn (inB' (I.sub (I.ofNat .i64 (@a0O a0C x2.2.2.1)) (oi 1)) (@a0O a0C x2.2.2.1)) (some ((x2.2.2.2.2.1,(x2.1.2.2.2.2.2.1,())),(((),x2.2.1.2),((@a6E a0C x2.2.2.1 0 (I.nat (I.sub (I.ofNat .i64 (@a0O a0C x2.2.2.1)) (oi 1)))),())))) none) none)) (brn (inB (I.add (I.mul (oi 2) x2.1.2.2.2.1) (oi 1)) (@a0O a0C x2.2.2.1)) (brn (inB x2.1.2.2.2.1 (@a0O a0C x2.2.2.1)) (brn (inB x2.1.2.2.2.1 (@a0O a0C x2.2.2.1)) (brn (inB (I.add (I.mul (oi 2) x2.1.2.2.2.1) (oi 1)) (@a0O a0C (@a1N a0C x2.2.2.1 (I.nat x2.1.2.2.2.1) (@rdL a0C a0L x2.2.2.1 (I.nat (I.add (I.mul (oi 2) x2.1.2.2.2.1) (oi 1))))))) (.again (((),(x2.1.2.1,(x2.1.2.2.1,((I.add (I.mul (oi 2) x2.1.2.2.2.1) (oi 1)),((),(x2.1.2.2.2.2.2.1,())))))),(((),x2.2.1.2),((@a1N a0C (@a1N a0C x2.2.2.1 (I.nat x2.1.2.2.2.1) (@rdL a0C a0L x2.2.2.1 (I.nat (I.add (I.mul (oi 2) x2.1.2.2.2.1) (oi 1))))) (I.nat (I.add (I.mul (oi 2) x2.1.2.2.2.1) (oi 1))) (@rdL a0C a0L x2.2.2.1 (I.nat x2.1.2.2.2.1))),(x2.2.2.2.1,(x2.2.2.2.2.1,())))))) (.done none)) (.done none)) (.done none)) (.done none)))))) K1 (((),(oi 0,((I.sub y1.1.1 (oi 1)),(oi 0,((),(y0.1.2.1,())))))),(((),y0.2.1.2),((@a1N a0C (@a1N a0C y0.2.2.1 0 (@rdL a0C a0L y0.2.2.1 (I.nat (I.sub y1.1.1 (oi 1))))) (I.nat (I.sub y1.1.1 (oi 1))) (@rdL a0C a0L y0.2.2.1 0)),(a0B,(y0.1.1,())))))) none) none) none) none) (some ((y0.1.1,(y0.1.2.1,())),(((),y0.2.1.2),(y0.2.2.1,()))))
theorem b5N : a2U = a7C := by
 funext x
 unfold a2U a7C
 rw [a5J]
 all_goals kernel_rfl
def b6N (x : (⟨[.pl a1C, .pl (.sl a1C)], []⟩ : Tm).D) : Option (⟨[.pl a1C], []⟩ : Tm).D :=
 let a : U := x.1.1
 let b : (List U) := x.1.2.1
 iter none (fun x0 => brn (I.ltb x0.1.2.2.1 x0.1.2.1) (brn (inB x0.1.2.2.1 (@a0O U x0.1.1)) (optF (.done none) (a4N (((@rdL U Z_U x0.1.1 (I.nat x0.1.2.2.1)),(x0.2.1,())),())) fun y1 => brn (I.ltb y1.1.1 (oi 0)) (.again ((x0.1.1,(x0.1.2.1,((I.add x0.1.2.2.1 (oi 1)),()))),((@rdL U Z_U x0.1.1 (I.nat x0.1.2.2.1)),(x0.2.2.1,())))) (.again ((x0.1.1,(x0.1.2.1,((I.add x0.1.2.2.1 (oi 1)),()))),(x0.2.1,(x0.2.2.1,()))))) (.done none)) (.done (some ((x0.2.1,()),())))) K1 ((b,((I.ofNat .i64 (@a0O U b)),(oi 0,()))),(a,(Z_U,())))
theorem c3B : b0W = b6N := by
 funext x
 unfold b0W b6N
 rw [a5J]
 all_goals kernel_rfl
def b6S (x : (⟨[.pl (.sl a0D), .pl a1C], []⟩ : Tm).D) : Option (⟨[.pl (.sl a1H), .pl (.int .i64)], []⟩ : Tm).D :=
 let a : (List a0A) := x.1.1
 let b : U := x.1.2.1
 optF none (a6I ((a,()),())) fun y0 => brn (a2R y0.1.1) (some (([],(oi 2,())),())) (optF none (b4B ((a,()),())) fun y1 => optF none (a7C ((),(((),y1.2.1.2),(y1.2.2.1,())))) fun y2 => iter none (fun x3 => jn (fun (x4 : ((U × (U × (Bool × Unit))) × (U × ((List a0N) × ((Unit × Unit) × ((List a0C) × (a0A × Unit))))))) => optF (.done none) (b6N ((x4.2.2.2.2.2.1.2.1,((x4.2.1::[]),())),())) fun y5 => optF (.done none) (a2E ((x4.2.1,(y5.1.1,())),())) fun y6 => brn (a2P (@a0O a0N (@a0G a0N x4.2.2.1 ((x4.2.2.2.2.2.1.1,(y5.1.1,()))::[])))) (optF (.done none) (a7C ((),(((),x4.2.2.2.1.2),(x4.2.2.2.2.1,())))) fun y7 => .again ((y7.1.2.1,()),(y6.1.1,((@a0G a0N x4.2.2.1 ((x4.2.2.2.2.2.1.1,(y5.1.1,()))::[])),(((),y7.2.1.2),(y7.2.2.1,(y7.1.1,()))))))) (.done none)) fun j4 => brn x3.1.1 (brn (a2R (Ty.eqb a1C x3.2.1 Z_U)) (j4 ((x3.2.1,(Z_U,((a2R (Ty.eqb a1C x3.2.1 Z_U)),()))),(x3.2.1,(x3.2.2.1,(((),x3.2.2.2.1.2),(x3.2.2.2.2.1,(x3.2.2.2.2.2.1,()))))))) (.done (some ((x3.2.2.1,(oi 0,())),())))) (.done (some ((x3.2.2.1,(oi 0,())),())))) K1 ((y2.1.2.1,()),(b,([],(((),y2.2.1.2),(y2.2.2.1,(y2.1.1,())))))))
theorem c2Z : b0R = b6S := by
 funext x
 unfold b0R b6S
 rw [a5J, a6L, b9Y, b5N, c3B]
 all_goals kernel_rfl
def b4I (x : (⟨[.pl (.sl a0D), .pl (.int .u64), .pl a1C], []⟩ : Tm).D) : Option (⟨[.pl (.sl a0D), .pl (.int .i64)], []⟩ : Tm).D :=
 let a : (List a0A) := x.1.1
 let b : (I .u64) := x.1.2.1
 let c : U := x.1.2.2.1
 optF none (a9U ((a,(b,())),())) fun y0 => optF none (a6I ((a,()),())) fun y1 => brn (a2R y1.1.1) (some (([],(oi 2,())),())) (brn (I.ltb y0.1.1 (oi 0)) (some (([],(oi 8,())),())) (brn (inB y0.1.1 (@a0O a0A a)) (optF none (a9N (((@rdL a0A a0B a (I.nat y0.1.1)).2.1,(c,())),())) fun y2 => brn (I.neb y2.1.2.1 (oi 0)) (some (([],(oi 10,())),())) (optF none (a1Z (((@rdL a0A a0B a (I.nat y0.1.1)).2.2.2.2.1,(c,())),())) fun y3 => brn (I.neb y3.1.2.1 (oi 0)) (some (([],(y3.1.2.1,())),())) (jn (fun (x4 : (((List a0A) × ((I .i64) × Unit)) × (a0A × Unit))) => optF none (a2D ((x4.1.1,()),())) fun y5 => brn (inB x4.1.2.1 (@a0O a0A y5.2.1)) (some (((@a1N a0A y5.2.1 (I.nat x4.1.2.1) x4.2.1),(oi 0,())),())) none) fun j4 => optF none (a4T ((y2.1.1,()),())) fun y5 => brn y5.1.1 (j4 ((a,(y0.1.1,())),(((@rdL a0A a0B a (I.nat y0.1.1)).1,(y2.1.1,((@rdL a0A a0B a (I.nat y0.1.1)).2.2.1,((@rdL a0A a0B a (I.nat y0.1.1)).2.2.2.1,(y3.1.1,(o6 0,(@rdL a0A a0B a (I.nat y0.1.1)).2.2.2.2.2.2)))))),()))) (j4 ((a,(y0.1.1,())),(((@rdL a0A a0B a (I.nat y0.1.1)).1,(y2.1.1,((@rdL a0A a0B a (I.nat y0.1.1)).2.2.1,((@rdL a0A a0B a (I.nat y0.1.1)).2.2.2.1,(y3.1.1,(@rdL a0A a0B a (I.nat y0.1.1)).2.2.2.2.2))))),())))))) none))
theorem c0K : a8L = b4I := by
 funext x
 unfold a8L b4I
 rw [b0O, a6L, a2M]
 all_goals kernel_rfl
def b4Y (x : (⟨[.pl (.sl a0D), .pl (.sl a1H)], []⟩ : Tm).D) : Option (⟨[.pl (.sl a0D), .pl (.int .i64)], []⟩ : Tm).D :=
 let a : (List a0A) := x.1.1
 let b : (List a0N) := x.1.2.1
 optF none (a2D ((a,()),())) fun y0 => iter none (fun x1 => brn (I.ltb x1.1.2.2.2.1 x1.1.2.2.1) (brn (inB x1.1.2.2.2.1 (@a0O a0N x1.1.2.1)) (optF (.done none) (b4I ((x1.1.1,((@rdL a0N a2F x1.1.2.1 (I.nat x1.1.2.2.2.1)).1,((@rdL a0N a2F x1.1.2.1 (I.nat x1.1.2.2.2.1)).2.1,()))),())) fun y2 => brn (I.neb y2.1.2.1 (oi 0)) (.done (some (([],(y2.1.2.1,())),()))) (.again ((y2.1.1,(x1.1.2.1,(x1.1.2.2.1,((I.add x1.1.2.2.2.1 (oi 1)),())))),()))) (.done none)) (.done (some ((x1.1.1,(oi 0,())),())))) K1 ((y0.2.1,(b,((I.ofNat .i64 (@a0O a0N b)),(oi 0,())))),())
theorem c2E : a9G = b4Y := by
 funext x
 unfold a9G b4Y
 rw [a5J, a2M, c0K]
 all_goals kernel_rfl
def b7Q (x : (⟨[.pl (.sl a1H)], []⟩ : Tm).D) : Option (⟨[.pl a1C, .pl (.int .i64)], []⟩ : Tm).D :=
 let a : (List a0N) := x.1.1
 iter none (fun x0 => brn (I.ltb x0.1.2.2.1 x0.1.2.1) (brn (inB x0.1.2.2.1 (@a0O a0N x0.1.1)) (optF (.done none) (a1Z ((x0.2.2.1,((@rdL a0N a2F x0.1.1 (I.nat x0.1.2.2.1)).2.1,())),())) fun y1 => brn (I.neb y1.1.2.1 (oi 0)) (.done (some ((Z_U,(y1.1.2.1,())),()))) (.again ((x0.1.1,(x0.1.2.1,((I.add x0.1.2.2.1 (oi 1)),()))),(x0.2.1,(y1.1.1,()))))) (.done none)) (.done (some ((x0.2.2.1,(oi 0,())),())))) K1 ((a,((I.ofNat .i64 (@a0O a0N a)),(oi 0,()))),(Z_U,(Z_U,())))
theorem c4H : b2D = b7Q := by
 funext x
 unfold b2D b7Q
 rw [a5J]
 all_goals kernel_rfl
def b2G (x : (⟨[.pl (.sl a0D)], []⟩ : Tm).D) : Option (⟨[.pl a1C, .pl (.int .i64)], []⟩ : Tm).D :=
 let a : (List a0A) := x.1.1
 optF none (a6I ((a,()),())) fun y0 => brn (a2R y0.1.1) (some ((Z_U,(oi 2,())),())) (iter none (fun x1 => brn (I.ltb x1.1.2.2.1 x1.1.2.1) (brn (inB x1.1.2.2.1 (@a0O a0A x1.1.1)) (optF (.done none) (a1Z ((x1.2.2.1,((@rdL a0A a0B x1.1.1 (I.nat x1.1.2.2.1)).2.1,())),())) fun y2 => brn (I.neb y2.1.2.1 (oi 0)) (.done (some ((Z_U,(y2.1.2.1,())),()))) (.again ((x1.1.1,(x1.1.2.1,((I.add x1.1.2.2.1 (oi 1)),()))),(x1.2.1,(y2.1.1,()))))) (.done none)) (.done (some ((x1.2.2.1,(oi 0,())),())))) K1 ((a,((I.ofNat .i64 (@a0O a0A a)),(oi 0,()))),(Z_U,(Z_U,()))))
theorem b8S : a6U = b2G := by
 funext x
 unfold a6U b2G
 rw [a5J, a6L]
 all_goals kernel_rfl
def b4D (x : (⟨[.pl a1C, .pl a1C], []⟩ : Tm).D) : Option (⟨[.pl a1C, .pl a1C, .pl (.int .i64)], []⟩ : Tm).D :=
 let a : U := x.1.1
 let b : U := x.1.2.1
 optF none (b1H ((a,(Z_U,(b,()))),())) fun y0 => some ((y0.1.1,(y0.1.2.1,(y0.1.2.2.1,()))),())
theorem c0M : a8H = b4D := by
 funext x
 unfold a8H b4D
 rw [b4O]
 all_goals kernel_rfl
def a7W (x : (⟨[.pl a0F, .pl a1C], []⟩ : Tm).D) : Option (⟨[.pl a0F, .pl (.int .i64)], []⟩ : Tm).D :=
 let a : a2K := x.1.1
 let b : U := x.1.2.1
 optF none (a1Y ((a,()),())) fun y0 => brn (a2R y0.1.1) (some ((a0P,(oi 2,())),())) (optF none (b4D ((a.2.1,(b,())),())) fun y1 => brn (I.neb y1.1.2.2.1 (oi 0)) (some ((a0P,(y1.1.2.2.1,())),())) (jn (fun (x2 : ((Bool × Unit) × (a2K × (a2K × (U × Unit))))) => brn x2.1.1 (optF none (a0M ((o6 1,()),())) fun y3 => optF none (a1Z ((x2.2.2.2.1,(y3.1.1,())),())) fun y4 => optF none (a5I ((x2.2.1.1,(y4.1.1,())),())) fun y5 => some ((y5.1.1,(oi 0,())),())) (optF none (a5I ((x2.2.1.1,(x2.2.2.2.1,())),())) fun y3 => some ((y3.1.1,(oi 0,())),()))) fun j2 => brn a.1 (j2 (((a2R (Ty.eqb a1C y1.1.2.1 Z_U)),()),(a,(a0P,(y1.1.1,()))))) (j2 ((false,()),(a,(a0P,(y1.1.1,())))))))
theorem b8P : a3P = a7W := by
 funext x
 unfold a3P a7W
 rw [c0M]
 all_goals kernel_rfl
def b7J (x : (⟨[.pl a0F, .pl a0F], []⟩ : Tm).D) : Option (⟨[.pl a0F, .pl (.int .i64)], []⟩ : Tm).D :=
 let a : a2K := x.1.1
 let b : a2K := x.1.2.1
 jn (fun (x0 : (Unit × (a2K × (a2K × (a2K × Unit))))) => optF none (b3O ((x0.2.1.2.1,(x0.2.2.1.2.1,())),())) fun y1 => brn (I.neb y1.1.2.1 (oi 0)) (some ((a0P,(y1.1.2.1,())),())) (optF none (a5I (((a2R (Ty.eqb .bool x0.2.1.1 x0.2.2.1.1)),(y1.1.1,())),())) fun y2 => some ((y2.1.1,(oi 0,())),()))) fun j0 => optF none (a1Y ((a,()),())) fun y1 => brn (a2R y1.1.1) (some ((a0P,(oi 2,())),())) (optF none (a1Y ((b,()),())) fun y2 => brn (a2R y2.1.1) (some ((a0P,(oi 2,())),())) (j0 ((),(a,(b,(a0P,()))))))
theorem c6A : a9S = b7J := by
 funext x
 unfold a9S b7J
 rw [b6V]
 all_goals kernel_rfl
def b4H (x : (⟨[.pl a0F, .pl a0F, .pl (.int .u64), .pl a0I], []⟩ : Tm).D) : Option (⟨[.pl a0F, .pl (.int .i64)], []⟩ : Tm).D :=
 let a : a2K := x.1.1
 let b : a2K := x.1.2.1
 let c : (I .u64) := x.1.2.2.1
 let d : a1I := x.1.2.2.2.1
 jn (fun (x0 : (((I .u64) × Unit) × (a2K × (a2K × (a1I × (a2K × Unit)))))) => optF none (b0X ((x0.2.1,()),())) fun y1 => optF none (a0M ((x0.2.2.2.1.2.2.2.2.2.2.2.2.1,()),())) fun y2 => optF none (a7W ((y1.1.1,(y2.1.1,())),())) fun y3 => optF none (a8W ((x0.2.1,(x0.2.2.1,())),())) fun y4 => brn (I.neb y4.1.2.1 (oi 0)) (some ((a0P,(y4.1.2.1,())),())) (optF none (a0M ((x0.1.1,()),())) fun y5 => optF none (a7W ((y4.1.1,(y5.1.1,())),())) fun y6 => optF none (a8W ((y3.1.1,(y6.1.1,())),())) fun y7 => brn (I.neb y7.1.2.1 (oi 0)) (some ((a0P,(y7.1.2.1,())),())) (optF none (a0M ((x0.1.1,()),())) fun y8 => optF none (b7J ((y7.1.1,((false,(y8.1.1,())),())),())) fun y9 => brn (I.neb y9.1.2.1 (oi 0)) (some ((a0P,(y9.1.2.1,())),())) (brn (I.nz x0.2.2.2.1.2.2.2.2.2.2.2.2.2.1) (optF none (a0M (((I.quo x0.2.2.2.1.2.2.2.2.2.2.2.2.1 x0.2.2.2.1.2.2.2.2.2.2.2.2.2.1),()),())) fun y10 => optF none (a0M ((x0.1.1,()),())) fun y11 => optF none (a4O ((y10.1.1,(y11.1.1,())),())) fun y12 => optF none (a7W ((y9.1.1,(y12.1.1,())),())) fun y13 => some ((y13.1.1,(y13.1.2.1,())),())) none)))) fun j0 => optF none (b0L ((d,()),())) fun y1 => brn (a2R y1.1.1) (some ((a0P,(oi 15,())),())) (optF none (a1Y ((a,()),())) fun y2 => brn (a2R y2.1.1) (some ((a0P,(oi 2,())),())) (optF none (a1Y ((b,()),())) fun y3 => brn (a2R y3.1.1) (some ((a0P,(oi 2,())),())) (brn (I.eqb c (o6 0)) (some ((a0P,(oi 2,())),())) (j0 ((c,()),(a,(b,(d,(a0P,())))))))))
theorem c0T : a8M = b4H := by
 funext x
 unfold a8M b4H
 rw [b2A, b8P, c6A]
 all_goals kernel_rfl
def b5C (x : (⟨[.pl a1C, .pl a0F, .pl a0F, .pl (.int .u64), .pl a0I], []⟩ : Tm).D) : Option (⟨[.pl a1C, .pl (.int .i64)], []⟩ : Tm).D :=
 let a : U := x.1.1
 let b : a2K := x.1.2.1
 let c : a2K := x.1.2.2.1
 let d : (I .u64) := x.1.2.2.2.1
 let e : a1I := x.1.2.2.2.2.1
 jn (fun (x0 : (((I .u64) × Unit) × (U × (a2K × (a2K × (a1I × (U × Unit))))))) => optF none (b4H ((x0.2.2.1,(x0.2.2.2.1,(x0.1.1,(x0.2.2.2.2.1,())))),())) fun y1 => brn (I.neb y1.1.2.1 (oi 0)) (some ((Z_U,(y1.1.2.1,())),())) (optF none (a6N ((x0.2.1,(y1.1.1,())),())) fun y2 => some ((y2.1.1,(y2.1.2.1,())),()))) fun j0 => optF none (b0L ((e,()),())) fun y1 => brn (a2R y1.1.1) (some ((Z_U,(oi 15,())),())) (jn (fun (x2 : (((I .u64) × (Bool × Unit)) × (U × (a2K × (a2K × (a1I × (U × Unit))))))) => brn x2.1.2.1 (some ((Z_U,(oi 2,())),())) (brn (I.eqb x2.1.1 (o6 0)) (some ((x2.2.1,(oi 0,())),())) (j0 ((x2.1.1,()),(x2.2.1,(x2.2.2.1,(x2.2.2.2.1,(x2.2.2.2.2.1,(x2.2.2.2.2.2.1,()))))))))) fun j2 => optF none (a1Y ((b,()),())) fun y3 => brn (a2R y3.1.1) (j2 ((d,(true,())),(a,(b,(c,(e,(Z_U,()))))))) (optF none (a1Y ((c,()),())) fun y4 => j2 ((d,((a2R y4.1.1),())),(a,(b,(c,(e,(Z_U,()))))))))
theorem c1Q : a9B = b5C := by
 funext x
 unfold a9B b5C
 rw [b2A, c0T]
 all_goals kernel_rfl
def b4E (x : (⟨[.pl a0E, .pl a0I, .pl a1C, .pl a0Q], []⟩ : Tm).D) : Option (⟨[.pl a0E, .pl (.int .i64)], []⟩ : Tm).D :=
 let a : a0T := x.1.1
 let b : a1I := x.1.2.1
 let c : U := x.1.2.2.1
 let d : a1R := x.1.2.2.2.1
 optF none (b7Q ((d.2.2.1,()),())) fun y0 => brn (I.neb y0.1.2.1 (oi 0)) (some (((Z_U,(o6 0,(o6 0,(o6 0,(a0P,([],())))))),(y0.1.2.1,())),())) (optF none (b2G ((a.2.2.2.2.2.1,()),())) fun y1 => brn (I.neb y1.1.2.1 (oi 0)) (some (((Z_U,(o6 0,(o6 0,(o6 0,(a0P,([],())))))),(y1.1.2.1,())),())) (brn (I.eqb d.1 (o6 0)) (some ((a,(oi 0,())),())) (optF none (a2E ((c,(y0.1.1,())),())) fun y2 => optF none (a8E ((y2.1.1,(y1.1.1,())),())) fun y3 => optF none (b5C ((a.1,(y3.1.1,(a.2.2.2.2.1,(d.1,(b,()))))),())) fun y4 => brn (I.neb y4.1.2.1 (oi 0)) (some (((Z_U,(o6 0,(o6 0,(o6 0,(a0P,([],())))))),(y4.1.2.1,())),())) (some (((y4.1.1,(a.2.1,(a.2.2.1,(a.2.2.2.1,(y3.1.1,a.2.2.2.2.2))))),(oi 0,())),())))))
theorem c0G : a8J = b4E := by
 funext x
 unfold a8J b4E
 rw [c4H, b8S, c1Q]
 all_goals kernel_rfl
def b1G (x : (⟨[.pl a0E, .pl a0I, .pl a1C, .pl a0V, .pl (.int .u64)], []⟩ : Tm).D) : Option (⟨[.pl a0E, .pl a0Q, .pl (.int .i64)], []⟩ : Tm).D :=
 let a : a0T := x.1.1
 let b : a1I := x.1.2.1
 let c : U := x.1.2.2.1
 let d : a1X := x.1.2.2.2.1
 let e : (I .u64) := x.1.2.2.2.2.1
 optF none (b0C ((a,(b,(d,(e,())))),())) fun y0 => brn (I.neb y0.1.1 (oi 0)) (some (((Z_U,(o6 0,(o6 0,(o6 0,(a0P,([],())))))),((o6 0,(Z_U,([],()))),(y0.1.1,()))),())) (optF none (b1W ((a,(b,(d,(e,())))),())) fun y1 => jn (fun (x2 : (((I .i64) × Unit) × (a0T × (a1I × (U × (a1X × (a0T × (a1R × (a1R × Unit))))))))) => jn (fun (x3 : (((I .i64) × Unit) × (a0T × (a1I × (U × (a1X × (a0T × (a1R × (a1R × Unit))))))))) => jn (fun (x4 : (((I .i64) × Unit) × (a0T × (a1I × (U × (a1X × (a0T × (a1R × (a1R × Unit))))))))) => jn (fun (x5 : (((I .i64) × Unit) × (a0T × (a1X × (a0T × (a1R × (a1R × Unit))))))) => brn (I.neb x5.1.1 (oi 0)) (some (((Z_U,(o6 0,(o6 0,(o6 0,(a0P,([],())))))),((o6 0,(Z_U,([],()))),(x5.1.1,()))),())) (some (((x5.2.1.1,((I.sub x5.2.1.2.1 x5.2.2.2.2.2.1.1),(x5.2.2.1.2.1,x5.2.1.2.2.2))),(x5.2.2.2.2.2.1,(oi 0,()))),()))) fun j5 => brn (I.eqb x4.1.1 (oi 0)) (optF none (b4E ((x4.2.1,(x4.2.2.1,(x4.2.2.2.1,(x4.2.2.2.2.2.2.2.1,())))),())) fun y6 => j5 ((y6.1.2.1,()),(y6.1.1,(x4.2.2.2.2.1,(x4.2.2.2.2.2.1,(x4.2.2.2.2.2.2.1,(x4.2.2.2.2.2.2.2.1,()))))))) (j5 ((x4.1.1,()),(x4.2.1,(x4.2.2.2.2.1,(x4.2.2.2.2.2.1,(x4.2.2.2.2.2.2.1,(x4.2.2.2.2.2.2.2.1,())))))))) fun j4 => brn (I.eqb x3.1.1 (oi 0)) (optF none (b4Y ((x3.2.1.2.2.2.2.2.1,(x3.2.2.2.2.2.2.2.1.2.2.1,())),())) fun y5 => j4 ((y5.1.2.1,()),((x3.2.1.1,(x3.2.1.2.1,(x3.2.1.2.2.1,(x3.2.1.2.2.2.1,(x3.2.1.2.2.2.2.1,(y5.1.1,x3.2.1.2.2.2.2.2.2)))))),(x3.2.2.1,(x3.2.2.2.1,(x3.2.2.2.2.1,(x3.2.2.2.2.2.1,(x3.2.2.2.2.2.2.1,(x3.2.2.2.2.2.2.2.1,()))))))))) (j4 ((x3.1.1,()),(x3.2.1,(x3.2.2.1,(x3.2.2.2.1,(x3.2.2.2.2.1,(x3.2.2.2.2.2.1,(x3.2.2.2.2.2.2.1,(x3.2.2.2.2.2.2.2.1,())))))))))) fun j3 => brn (I.eqb x2.1.1 (oi 0)) (optF none (b6S ((x2.2.1.2.2.2.2.2.1,(x2.2.2.2.1,())),())) fun y4 => j3 ((y4.1.2.1,()),(x2.2.1,(x2.2.2.1,(x2.2.2.2.1,(x2.2.2.2.2.1,(x2.2.2.2.2.2.1,(x2.2.2.2.2.2.2.1,((x2.2.2.2.2.2.2.2.1.1,(x2.2.2.2.2.2.2.2.1.2.1,(y4.1.1,x2.2.2.2.2.2.2.2.1.2.2.2))),()))))))))) (j3 ((x2.1.1,()),(x2.2.1,(x2.2.2.1,(x2.2.2.2.1,(x2.2.2.2.2.1,(x2.2.2.2.2.2.1,(x2.2.2.2.2.2.2.1,(x2.2.2.2.2.2.2.2.1,())))))))))) fun j2 => brn (I.eqb y1.1.2.1 (oi 0)) (optF none (b4J ((a.2.2.2.2.2.1,(d.1,(d.2.2.1,(y1.1.1.2.1,((I.add a.2.2.2.1 (o6 1)),()))))),())) fun y3 => j2 ((y3.1.2.1,()),((a.1,(a.2.1,(a.2.2.1,((I.add a.2.2.2.1 (o6 1)),(a.2.2.2.2.1,(y3.1.1,a.2.2.2.2.2.2)))))),(b,(c,(d,((Z_U,(o6 0,(o6 0,(o6 0,(a0P,([],())))))),((o6 0,(Z_U,([],()))),(y1.1.1,()))))))))) (j2 ((y1.1.2.1,()),(a,(b,(c,(d,((Z_U,(o6 0,(o6 0,(o6 0,(a0P,([],())))))),((o6 0,(Z_U,([],()))),(y1.1.1,()))))))))))
theorem c0D : a6C = b1G := by
 funext x
 unfold a6C b1G
 rw [b6M, b8U, c0U, c2Z, c2E, c0G]
 all_goals kernel_rfl
def b3H (x : (⟨[], []⟩ : Tm).D) : Option (⟨[.pl .bool], []⟩ : Tm).D :=
 optF none (b2J ((),())) fun y0 => optF none (b1Q ((y0.1.1,(o6 7,())),())) fun y1 => optF none (a6F ((),())) fun y2 => optF none (b1G ((y1.1.1,(y2.1.1,((o6 20,(o6 0,(o6 0,(o6 0,())))),((o6 7,(o6 0,((o6 50,(o6 0,(o6 0,(o6 0,())))),()))),(o6 0,()))))),())) fun y3 => optF none (a6F ((),())) fun y4 => optF none (b1G ((y1.1.1,(y4.1.1,((o6 20,(o6 0,(o6 0,(o6 0,())))),((o6 8,a2F),(o6 0,()))))),())) fun y5 => brn (I.eqb y1.1.2.1 (oi 0)) (brn (I.eqb y3.1.2.2.1 (oi 0)) (brn (I.eqb y5.1.2.2.1 (oi 8)) (brn (I.eqb (I.ofNat .i64 (@a0O a0N y3.1.2.1.2.2.1)) (oi 1)) (brn (inB (oi 0) (@a0O a0N y3.1.2.1.2.2.1)) (brn (Ty.eqb a1H (@rdL a0N a2F y3.1.2.1.2.2.1 0) (o6 7,((o6 20,(o6 0,(o6 0,(o6 0,())))),()))) (brn (I.eqb (I.ofNat .i64 (@a0O a0A y3.1.1.2.2.2.2.2.1)) (oi 1)) (brn (inB (oi 0) (@a0O a0A y3.1.1.2.2.2.2.2.1)) (some (((Ty.eqb a1C (@rdL a0A a0B y3.1.1.2.2.2.2.2.1 0).2.1 (o6 30,(o6 0,(o6 0,(o6 0,()))))),()),())) none) (some ((false,()),()))) (some ((false,()),()))) none) (some ((false,()),()))) (some ((false,()),()))) (some ((false,()),()))) (some ((false,()),()))
theorem b6J : a4X = b3H := by
 funext x
 unfold a4X b3H
 rw [b7K, c0D]
 all_goals kernel_rfl
theorem d4H : a4X ((), ()) = some ((true, ()), ()) := by
 rw [b6J]
 kernel_rfl
end
end Sym

/- Pricer: the calls that the laws make; a report exhausts the pool. -/
namespace Sym
open Go
end Sym

/- Pricer: no unit is lost; the order of errors. -/
namespace Sym
open Go
end Sym

/- Pricer: when a report is accepted. -/
namespace Sym
open Go
end Sym

/- Pricer: the accounts of reports. -/
namespace Sym
open Go
end Sym

/- Pricer: a report's accounts, the law. -/
namespace Sym
open Go
end Sym

/- Pricer: the reference's parts. -/
namespace Sym
open Go
theorem e4N {n i : Nat} : n % 2 ^ (i + 1) = n % 2 ^ i + 2 ^ i * (n / 2 ^ i % 2) := by
 rw [Nat.pow_succ, Nat.mod_mul]
theorem Bits.top {m i : Nat} (h1 : 2 ^ i ≤ m) (h2 : m < 2 ^ (i + 1)) : Bits m (i + 1) := by
 intro k
 constructor
 ·
  intro h; exact Nat.lt_of_lt_of_le h2 (Nat.pow_le_pow_right (by decide) h)
 ·
  intro h
  refine Classical.byContradiction fun hk => ?_
  have : 2 ^ k ≤ 2 ^ i := Nat.pow_le_pow_right (by decide) (by omega)
  omega
theorem d8K (a : U) : ∃ y, a7F ((a, ()), ()) = some y ∧ ∃ k, y = ((i6 k, ()), ()) ∧ Bits a.val k ∧ k ≤ 256 := by
 refine Wp.out (T := fun o => ∃ y, o = some y ∧ ∃ k, y = ((i6 k, ()), ()) ∧ Bits a.val k ∧ k ≤ 256) ?_
 unfold a7F
 have e256 : I.of .i64 256 = i6 256 := rfl
 have e64 : I.of .i64 64 = i6 64 := rfl
 simp only [a7U, a7Z, e256, e64]
 refine Wp.iter (fun s => ∃ i n, s = ((i6 n, (i6 i, ())), (a, ())) ∧ i ≤ 256 ∧ n ≤ i ∧ Bits (a.val % 2 ^ i) n) (fun s => 256 - s.1.2.1.val.toNat) ?_ ⟨0, 0, rfl, by omega, by omega, by rw [Nat.pow_zero, Nat.mod_one]; exact Bits.zero⟩ (by rw [a5J]; show 256 - _ < _; omega)
 rintro s ⟨i, n, rfl, hi, hn, hB⟩
 simp only [a5U (show i < 9223372036854775808 by omega) (show 256 < 9223372036854775808 by omega), a5W (show i + 1 < 9223372036854775808 by omega)]
 refine Wp.brn (fun hc => ?_) (fun hc => ?_)
 ·
  have hc := of_decide_eq_true hc
  have hm : 256 - (i6 (i + 1)).val.toNat < 256 - (i6 i).val.toNat := by rw [a1D (by omega), a1D (by omega)]; omega
  have hq : I.quo (i6 i) (i6 64) = i6 (i / 64) := by
   apply I.ext'
   rw [c1C (by rw [a1D (by omega)]; omega) (by rw [a1D (by omega)]; omega), a1D (by omega), a1D (by omega), a1D (by omega)]
   omega
  have hr : I.rem (i6 i) (i6 64) = i6 (i % 64) := by
   apply I.ext'
   rw [c5L (by rw [a1D (by omega)]; omega) (by rw [a1D (by omega)]; omega), a1D (by omega), a1D (by omega), a1D (by omega)]
   omega
  have hcv : (I.conv (k := .i64) .u64 (i6 (i % 64))).val = ((i % 64 : Nat) : Int) := by
   show (I.of .u64 (i6 (i % 64)).val).val = _
   rw [a1D (by omega), b1K (by omega)]
  have hcn : (I.conv (k := .i64) .u64 (i6 (i % 64))).nat = i % 64 := by
   have := a1L (I.conv (k := .i64) .u64 (i6 (i % 64)))
   omega
  simp only [hq, hr, a3H (show i / 64 < 9223372036854775808 by omega)]
  refine Wp.brnT (a3F (by omega) (by omega)) (Wp.brnT (iff_nn.2 (by rw [hcv]; omega)) ?_)
  have hsh : (I.shr (Arr.sel (I.of .u64 0) 4 a (i / 64)) (I.conv (k := .i64) .u64 (i6 (i % 64)))).nat = limb' a (i / 64) / 2 ^ (i % 64) := by
   have h := d4X (Arr.sel (I.of .u64 0) 4 a (i / 64)) (I.conv (k := .i64) .u64 (i6 (i % 64))) (by rw [hcn]; omega)
   rw [hcn] at h
   exact h
  have hb : (I.and (I.shr (Arr.sel (I.of .u64 0) 4 a (i / 64)) (I.conv (k := .i64) .u64 (i6 (i % 64)))) (I.of .u64 1)).nat = a.val / 2 ^ i % 2 := by
   rw [d4J _ 1 _ (by decide) (by rfl), hsh, e8Z a i (by omega)]
  have hs := e4N (n := a.val) (i := i)
  have hlt : a.val % 2 ^ i < 2 ^ i := Nat.mod_lt _ (Nat.pow_pos (by decide))
  rw [b4W, hb, show (I.of .u64 1).nat = 1 from rfl]
  refine Wp.brn (fun h => ?_) (fun h => ?_)
  ·
   have h := of_decide_eq_true h
   rw [h, Nat.mul_one] at hs
   refine Wp.again ⟨i + 1, i + 1, rfl, by omega, by omega, ?_⟩ hm
   exact Bits.top (by rw [hs]; omega) (by rw [hs, Nat.pow_succ]; omega)
  ·
   have h := of_decide_eq_false h
   have h0 : a.val / 2 ^ i % 2 = 0 := by omega
   rw [h0, Nat.mul_zero, Nat.add_zero] at hs
   exact Wp.again ⟨i + 1, n, rfl, by omega, by omega, by rw [hs]; exact hB⟩ hm
 ·
  have hc := of_decide_eq_false hc
  have hi' : i = 256 := by omega
  subst hi'
  have ha := a.lt
  rw [d3J] at ha
  rw [Nat.mod_eq_of_lt ha] at hB
  exact Wp.done ⟨_, rfl, n, rfl, hB, hn⟩
theorem d8Y (a b : U) : a7J ((a, (b, ())), ()) = some (((b4V (a.val * b.val)).1, ((b4V (a.val * b.val)).2, ())), ()) := by
 refine Wp.out (T := fun o => o = _) ?_
 unfold a7J
 refine Wp.call (a6B a) ?_
 rintro _ ⟨x, rfl, hx⟩
 refine Wp.call (a6B b) ?_
 rintro _ ⟨y, rfl, hy⟩
 obtain ⟨z, hz, hz2⟩ := d5F hx hy (b1R hx) (b1R hy)
 refine Wp.optF hz (Wp.optF (Checked_ok' hz2 ?_) rfl)
 refine a5G hz2 64 ?_ (by decide)
 have h1 := a.lt
 have h2 := b.lt
 have h3 : a.val * b.val < U.top * U.top := Nat.mul_lt_mul_of_lt_of_le h1 (Nat.le_of_lt h2) (by decide)
 exact Nat.lt_trans h3 (by decide)
theorem e0R (units last upto now : I .u64) (h1 : last.nat ≤ upto.nat) (h2 : upto.nat ≤ now.nat) :
  a5P ((units, (last, (upto, (now, ())))), ()) = some ((I.of .u64 (a9K units last upto now : Int), (I.of .i64 0, ())), ()) := by
 have hle := b7A (units := units) h1 h2
 have hu := a1Q units
 refine Wp.out (T := fun o => o = _) ?_
 unfold a5P
 refine Wp.jnI ?_
 simp only [b3A]
 refine Wp.brnF (decide_eq_false (by omega)) (Wp.brnF (decide_eq_false (by omega)) ?_)
 simp only [b4W]
 refine Wp.brn (fun h => ?_) (fun h => ?_)
 ·
  have h := of_decide_eq_true h
  have : I.of .u64 (a9K units last upto now : Int) = units := by
   unfold a9K
   rw [if_pos h, a1L]
   exact I.ext' units.ok
  rw [this]
  rfl
 ·
  have h := of_decide_eq_false h
  have d1 := sub_nat_le' upto last h1
  have d2 := sub_nat_le' now last (by omega)
  obtain ⟨x, gx, hx⟩ := a7E units
  obtain ⟨y, gy, hy⟩ := a7E (I.sub upto last)
  obtain ⟨z, gz, hz⟩ := a7E (I.sub now last)
  obtain ⟨m, gm, hm⟩ := d5F hx hy (Nat.le_trans (d4C hx) (by decide)) (Nat.le_trans (d4C hy) (by decide))
  have hml : m.length ≤ 1000000 := by
   refine a5G hm 64 ?_ (by decide)
   have := a1Q (I.sub upto last)
   exact Nat.lt_trans (Nat.mul_lt_mul_of_lt_of_le hu (Nat.le_of_lt this) (by decide)) (by decide)
  obtain ⟨q, r, gq, hq, _⟩ := d4E hm hz (by omega) hml (Nat.le_trans (d4C hz) (by decide))
  have e : a9K units last upto now = units.nat * (upto.nat - last.nat) / (now.nat - last.nat) := if_neg h
  rw [d1, d2, ← e] at hq
  refine Wp.optF gx (Wp.optF gy (Wp.optF gm (Wp.optF gz (Wp.optF gq (Wp.optF (a2H hq (Nat.lt_trans (Nat.lt_of_le_of_lt hle hu) (by decide))) ?_)))))
  show some (((U.of (a9K units last upto now)).1, (I.of .i64 0, ())), ()) = _
  rw [e7R (by omega)]
theorem d0Z {l : List Post} (hl : l.length ≤ 1073741824) (hT : TableOk l) : a5V ((l, ()), ()) = some (((b4V (a6K (l.map b0D))).1, ((b4V (a6K (l.map b0D))).2, ())), ()) := by
 refine Wp.out (T := fun o => o = _) ?_
 unfold a5V
 simp only [a4W, a4I, a7U, a7Z]
 refine Wp.optF (b2V hl) (Wp.brnF (c4X hT) ?_)
 have h64 := hT.1
 have hb : ∀ i, a6K ((l.take i).map b0D) ≤ 64 * U.top := fun i => by
  have h1 := c2I b0D U.top (fun p => U.lt _) (l.take i)
  have h2 : (l.take i).length * U.top ≤ 64 * U.top := Nat.mul_le_mul_right _ (by rw [List.length_take]; omega)
  omega
 have hbig : 64 * U.top < 65536 ^ 64 := by decide
 refine Wp.iter (fun s => ∃ i b, s = ((l, (b, (i6 i, ()))), (Z_U, ())) ∧ i ≤ l.length ∧ IsB b (a6K ((l.take i).map b0D))) (fun s => l.length - s.1.2.2.1.val.toNat) ?_ ⟨0, [], rfl, by omega, c3S⟩ (by rw [a5J]; show l.length - _ < _; omega)
 rintro s ⟨i, b, rfl, hi, hB⟩
 simp only [a5U (show i < 9223372036854775808 by omega) (show l.length < 9223372036854775808 by omega), a3H (show i < 9223372036854775808 by omega), a5W (show i + 1 < 9223372036854775808 by omega)]
 have hbl : b.length ≤ 1000000 := a5G hB 64 (by have := hb i; omega) (by decide)
 refine Wp.brn (fun hc => ?_) (fun hc => ?_)
 ·
  have hc := of_decide_eq_true hc
  refine Wp.brnT (a3F (by omega) (by omega)) ?_
  refine Wp.call (a6B (Post.due (rdL dP l i))) ?_
  rintro _ ⟨x, rfl, hx⟩
  obtain ⟨z, gz, hz⟩ := b3I hB hx hbl (b1R hx)
  refine Wp.optF gz ?_
  exact Wp.again ⟨i + 1, z, rfl, by omega, by rw [c1A dP b0D hc]; exact hz⟩ (by show l.length - (i6 (i + 1)).val.toNat < l.length - (i6 i).val.toNat; rw [a1D (by omega), a1D (by omega)]; omega)
 ·
  have hc := of_decide_eq_false hc
  rw [List.take_of_length_le (by omega)] at hB
  exact Wp.done (Wp.optF (Checked_ok' hB hbl) rfl)
end Sym

/- Pricer: the reference computes the same. -/
namespace Sym
open Go
theorem d9Q (l : List Post) (a : I .u64) (c w : U) (since : I .u64) (h : TableOk l) (hf : atN l a < l.length) (hs : since.nat ≠ 0) :
  a3N ((l, (a, (c, (w, (since, ()))))), ()) = some (((b0A l a c w since).1, ((b0A l a c w since).2, ())), ()) := by
 refine Wp.out (T := fun o => o = _) ?_
 have hl := h.1
 unfold a3N b0A
 refine Wp.jnI (Wp.optF (b2V (l := l) (by omega)) (Wp.brnF (c4X h) (Wp.brnF (by rw [b4W]; exact decide_eq_false hs) ?_)))
 refine Wp.optF (b6B (l := l) a (by omega)) ?_
 have e : atI l a = i6 (atN l a) := if_pos hf
 rw [e]
 have hE := (h.2 _ hf).1
 generalize atN l a = k at hf hE ⊢
 refine Wp.brnF (by rw [a7U, a5U (by omega) (by omega)]; exact decide_eq_false (by omega)) ?_
 have en : a0G ([] : List Post) l = l := rfl
 simp only [a3H (show k < 9223372036854775808 by omega), b9R, b4C, en]
 simp only [true_and, hf, if_true]
 have bi : inB (i6 k) l.length = true := a3F hf (by omega)
 generalize rdL dP l k = p at *
 refine Wp.brnT (a7Y (by show l.length ≤ _; omega)) (Wp.brnT bi ?_)
 refine Wp.call (a6B (Post.due p)) ?_
 rintro _ ⟨d1, rfl, b1⟩
 refine Wp.call (a6B c) ?_
 rintro _ ⟨d2, rfl, b2⟩
 refine Wp.call (a6B w) ?_
 rintro _ ⟨d3, rfl, b3⟩
 have t1 := U.lt (Post.due p)
 have t2 := c.lt
 have t3 := w.lt
 have t4 := U.lt (Post.costs p)
 have t5 := U.lt (Post.rewards p)
 have hp : U.top + U.top + U.top ≤ 65536 ^ 17 := by decide
 obtain ⟨d4, g4, b4⟩ := b3I b2 b3 (b1R b2) (b1R b3)
 refine Wp.optF g4 ?_
 obtain ⟨d5, g5, b5⟩ := b3I b1 b4 (b1R b1) (a5G b4 17 (by omega) (by decide))
 refine Wp.optF g5 ?_
 refine Wp.call (a6B (Post.costs p)) ?_
 rintro _ ⟨d6, rfl, b6⟩
 refine Wp.call (a6B c) ?_
 rintro _ ⟨d7, rfl, b7⟩
 obtain ⟨d8, g8, b8⟩ := b3I b6 b7 (b1R b6) (b1R b7)
 refine Wp.optF g8 ?_
 refine Wp.call (a6B (Post.rewards p)) ?_
 rintro _ ⟨d9, rfl, b9⟩
 refine Wp.call (a6B w) ?_
 rintro _ ⟨d10, rfl, b10⟩
 obtain ⟨d11, g11, b11⟩ := b3I b9 b10 (b1R b9) (b1R b10)
 refine Wp.optF g11 ?_
 have l5 := a5G b5 17 (by omega) (by decide)
 have l8 := a5G b8 17 (by omega) (by decide)
 have l11 := a5G b11 17 (by omega) (by decide)
 refine Wp.optF (c6Z b5 l5) ?_
 refine Wp.brn (fun f1 => ?_) (fun f1 => ?_)
 ·
  have f1 := of_decide_eq_false (a7S f1)
  rw [if_neg (fun hh => f1 hh.1)]; rfl
 have f1 := of_decide_eq_true (a7T f1)
 refine Wp.optF (c6Z b8 l8) ?_
 refine Wp.brn (fun f2 => ?_) (fun f2 => ?_)
 ·
  have f2 := of_decide_eq_false (a7S f2)
  rw [if_neg (fun hh => f2 hh.2.1)]; rfl
 have f2 := of_decide_eq_true (a7T f2)
 refine Wp.optF (c6Z b11 l11) ?_
 refine Wp.brn (fun f3 => ?_) (fun f3 => ?_)
 ·
  have f3 := of_decide_eq_false (a7S f3)
  rw [if_neg (fun hh => f3 hh.2.2)]; rfl
 have f3 := of_decide_eq_true (a7T f3)
 rw [if_pos ⟨f1, f2, f3⟩]
 refine Wp.optF (b8G (Post.due p)) ?_
 have hpos := e3E b5 l5
 refine Wp.brn (fun z => ?_) (fun z => ?_)
 ·
  have z := of_decide_eq_true z
  refine Wp.brn (fun y => ?_) (fun y => ?_)
  ·
   have y := of_decide_eq_true (hpos.symm.trans y)
   refine Wp.optF (a2H b5 f1) (Wp.optF (a2H b8 f2) (Wp.optF (a2H b11 f3) ?_))
   have e : b0U p c w since = (p.1, (U.of (p.due.val + (c.val + w.val)), (U.of (p.costs.val + c.val), (U.of (p.rewards.val + w.val), (p.paid, (since, ())))))) := by unfold b0U; rw [if_pos ⟨z, y⟩]
   rw [e]; rfl
  ·
   have y := of_decide_eq_false (hpos.symm.trans y)
   refine Wp.optF (a2H b5 f1) (Wp.optF (a2H b8 f2) (Wp.optF (a2H b11 f3) ?_))
   have e : b0U p c w since = (p.1, (U.of (p.due.val + (c.val + w.val)), (U.of (p.costs.val + c.val), (U.of (p.rewards.val + w.val), (p.paid, (p.since, ())))))) := by unfold b0U; rw [if_neg (fun hh => y hh.2)]
   rw [e]; rfl
 ·
  have z := of_decide_eq_false z
  refine Wp.optF (a2H b5 f1) (Wp.optF (a2H b8 f2) (Wp.optF (a2H b11 f3) ?_))
  have e : b0U p c w since = (p.1, (U.of (p.due.val + (c.val + w.val)), (U.of (p.costs.val + c.val), (U.of (p.rewards.val + w.val), (p.paid, (p.since, ())))))) := by unfold b0U; rw [if_neg (fun hh => z hh.1)]
  rw [e]; rfl
theorem e4K (l : List Post) (a : I .u64) (hl : l.length ≤ 1073741824) : a4G ((l, (a, ())), ()) = some (((b9H l a).1, ((b9H l a).2, ())), ()) := by
 refine Wp.out (T := fun o => o = _) ?_
 unfold a4G b9H
 refine Wp.jnI (Wp.optF (b2V hl) ?_)
 have e0 : (I.of .u64 0).nat = 0 := rfl
 refine Wp.brn (fun h => ?_) (fun h => ?_)
 ·
  have h : b0Q l = false := a7S h
  simp only [if_neg (show ¬ (b0Q l = true ∧ a.nat ≠ 0) by rw [h]; simp)]; rfl
 have hT : b0Q l = true := a7T h
 rw [b4W, e0]
 refine Wp.brn (fun h => ?_) (fun h => ?_)
 ·
  have h : a.nat = 0 := of_decide_eq_true h
  simp only [if_neg (show ¬ (b0Q l = true ∧ a.nat ≠ 0) from fun hh => hh.2 h)]; rfl
 have ha : a.nat ≠ 0 := of_decide_eq_false h
 simp only [if_pos (show b0Q l = true ∧ a.nat ≠ 0 from ⟨hT, ha⟩)]
 refine Wp.optF (b6B (l := l) a hl) ?_
 rw [show (((atI l a, ()), ()) : ((I .i64) × Unit) × Unit).1.1 = atI l a from rfl, e0F hl]
 refine Wp.brn (fun h => ?_) (fun h => ?_)
 ·
  have h := of_decide_eq_true h
  simp only [if_pos h]; rfl
 have hf := of_decide_eq_false h
 simp only [if_neg hf]
 have hne := d6C hf
 have hlim : l.length ≤ 64 := (tabB_t.1 hT).1
 have e64 : I.of .i64 64 = i6 64 := rfl
 simp only [a4W, a4I, a7U, a7Z, e64, e7V (show 64 < 9223372036854775808 by omega) (show l.length < 9223372036854775808 by omega)]
 refine Wp.brn (fun h => ?_) (fun h => ?_)
 ·
  have h := of_decide_eq_true h
  simp only [if_pos (show l.length = 64 by omega)]; rfl
 have h64 := of_decide_eq_false h
 simp only [if_neg (show ¬ l.length = 64 by omega)]
 have hva := a1L a
 refine Wp.iter (fun s => ∃ i put out, s = ((l, (a, (put, (i6 i, ())))), (out, ())) ∧ i ≤ l.length ∧ out.length ≤ i + (if put = true then 1 else 0) ∧
   ((put = false ∧ out ++ c6G (l.drop i) a = c6G l a) ∨ (put = true ∧ out ++ l.drop i = c6G l a)))
  (fun s => l.length - s.1.2.2.2.1.val.toNat) ?_ ⟨0, false, [], rfl, by omega, by simp, .inl ⟨rfl, rfl⟩⟩ (by rw [a5J]; show l.length - _ < _; omega)
 rintro s ⟨i, put, out, rfl, hi, hol0, hcase⟩
 have hol : out.length ≤ i + 1 := by revert hol0; split <;> omega
 simp only [a5U (show i < 9223372036854775808 by omega) (show l.length < 9223372036854775808 by omega), a3H (show i < 9223372036854775808 by omega)]
 refine Wp.brn (fun hc => ?_) (fun hc => ?_)
 ·
  have hc := of_decide_eq_true hc
  have hm : l.length - (i6 (i + 1)).val.toNat < l.length - (i6 i).val.toNat := by rw [a1D (by omega), a1D (by omega)]; omega
  have bi : inB (i6 i) l.length = true := a3F (by omega) (by omega)
  have hdr : l.drop i = rdL dP l i :: l.drop (i + 1) := by rw [List.drop_eq_getElem_cons hc, a3Z dP l i hc]
  have hvi := a1L (Post.addr (rdL dP l i))
  have hnei := hne i hc
  refine Wp.jnI ?_
  have place : put = false → a.nat < (Post.addr (rdL dP l i)).nat → out ++ f0G a :: rdL dP l i :: l.drop (i + 1) = c6G l a := by
   intro hp hlt
   rcases hcase with ⟨_, h⟩ | ⟨h, _⟩
   ·
    rw [d2C hc (by omega), hdr] at h; exact h
   ·
    rw [hp] at h; cases h
  have keep : put = false → ¬ a.nat < (Post.addr (rdL dP l i)).nat → (out ++ [rdL dP l i]) ++ c6G (l.drop (i + 1)) a = c6G l a := by
   intro hp hlt
   rcases hcase with ⟨_, h⟩ | ⟨h, _⟩
   ·
    rw [d1C hc (by omega)] at h; rw [← h]; simp
   ·
    rw [hp] at h; cases h
  have keep2 : put = true → (out ++ [rdL dP l i]) ++ l.drop (i + 1) = c6G l a := by
   intro hp
   rcases hcase with ⟨h, _⟩ | ⟨_, h⟩
   ·
    rw [hp] at h; cases h
   ·
    rw [hdr] at h; rw [← h]; simp
  have hfit : a2P (a0O (a0G out [rdL dP l i])) = true := a7Y (by show (out ++ [_]).length ≤ _; simp; omega)
  refine Wp.brn (fun hp => ?_) (fun hp => ?_)
  ·
   have hp : put = false := a7S hp
   refine Wp.brnT bi ?_
   rw [b3A]
   simp only [a3H (show i < 9223372036854775808 by omega), a5W (show i + 1 < 9223372036854775808 by omega)]
   refine Wp.brn (fun hlt => ?_) (fun hlt => ?_)
   ·
    have hlt : a.nat < (Post.addr (rdL dP l i)).nat := of_decide_eq_true hlt
    refine Wp.brnT (a7Y (by show (out ++ [_]).length ≤ _; simp; omega)) (Wp.brnT bi (Wp.brnT (a7Y (by show (out ++ [_] ++ [_]).length ≤ _; simp; omega)) ?_))
    refine Wp.again ⟨i + 1, true, _, rfl, by omega, ?_, .inr ⟨rfl, ?_⟩⟩ hm
    ·
     rw [hp] at hol0
     simp [a0G] at hol0 ⊢
     omega
    ·
     rw [← place hp hlt]; simp [a0G, f0G]
   ·
    have hlt : ¬ a.nat < (Post.addr (rdL dP l i)).nat := of_decide_eq_false hlt
    exact Wp.brnT bi (Wp.brnT hfit (Wp.again ⟨i + 1, put, _, rfl, by omega, by rw [hp] at hol0 ⊢; simp [a0G] at hol0 ⊢; omega, .inl ⟨hp, keep hp hlt⟩⟩ hm))
  ·
   have hp : put = true := a7T hp
   simp only [a3H (show i < 9223372036854775808 by omega), a5W (show i + 1 < 9223372036854775808 by omega)]
   exact Wp.brnF rfl (Wp.brnT bi (Wp.brnT hfit (Wp.again ⟨i + 1, put, _, rfl, by omega, by rw [hp] at hol0 ⊢; simp [a0G] at hol0 ⊢; omega, .inr ⟨hp, keep2 hp⟩⟩ hm)))
 ·
  have hc := of_decide_eq_false hc
  have hi' : i = l.length := by omega
  subst hi'
  refine Wp.done ?_
  rcases hcase with ⟨rfl, h⟩ | ⟨rfl, h⟩
  ·
   rw [List.drop_length] at h
   refine Wp.brnT rfl (Wp.brnT (a7Y (by show (out ++ [_]).length ≤ _; simp; omega)) ?_)
   show some ((out ++ [f0G a], (I.of .i64 0, ())), ()) = _
   rw [← h]; rfl
  ·
   rw [List.drop_length, List.append_nil] at h
   refine Wp.brnF rfl ?_
   rw [h]; rfl
end Sym

/- Pricer: the reference's report. -/
namespace Sym
open Go
theorem b6O (s : PrT) (hl : s.posters.length ≤ 1073741824) : a3W ((s, ()), ()) = some ((prV s, ()), ()) := by
 refine Wp.out (T := fun o => o = _) ?_
 unfold a3W
 refine Wp.jnI (Wp.optF (b2V (l := s.posters) hl) ?_)
 refine Wp.brn (fun h => ?_) (fun h => ?_)
 ·
  have h : b0Q s.posters = false := a7S h
  unfold prV; rw [h, Bool.false_and, Bool.and_false]; rfl
 have hT : b0Q s.posters = true := a7T h
 refine Wp.optF (b3R s.surplus) ?_
 refine Wp.brn (fun h => ?_) (fun h => ?_)
 ·
  have h : a1P s.surplus = false := a7S h
  unfold prV; rw [h, Bool.and_false, Bool.and_false]; rfl
 have hS : a1P s.surplus = true := a7T h
 simp only [a4W, a4I, a7U, a7Z]
 obtain ⟨l, hl'⟩ : ∃ l, l = s.posters := ⟨_, rfl⟩
 rw [← hl'] at hl
 refine Wp.iter (fun t => ∃ i, t = ((i6 i, ()), (s, ())) ∧ i ≤ l.length ∧ ∀ k, k < i → (Post.since (rdL dP l k)).nat ≤ s.reports.nat) (fun t => l.length - t.1.1.val.toNat) ?_ ⟨0, rfl, by omega, by intro k hk; omega⟩ (by rw [a5J]; show l.length - _ < _; omega)
 rintro t ⟨i, rfl, hi, hinv⟩
 have e : s.2.2.2.2.2.1 = l := hl'.symm
 simp only [e, a5U (show i < 9223372036854775808 by omega) (show l.length < 9223372036854775808 by omega), a3H (show i < 9223372036854775808 by omega), a5W (show i + 1 < 9223372036854775808 by omega)]
 refine Wp.brn (fun hc => ?_) (fun hc => ?_)
 ·
  have hc := of_decide_eq_true hc
  refine Wp.brnT (a3F (by omega) (by omega)) ?_
  simp only [b3A]
  refine Wp.brn (fun h => ?_) (fun h => ?_)
  ·
   have h : s.reports.nat < (Post.since (rdL dP l i)).nat := of_decide_eq_true h
   refine Wp.done ?_
   have : prV s = false := by
    cases hv : prV s with
    | false => rfl
    | true =>
     have := (prV_t.1 hv).1 (rdL dP l i) (by rw [← hl']; exact b9G dP _ i hc)
     omega
   rw [this]
   rfl
  ·
   have h : ¬ s.reports.nat < (Post.since (rdL dP l i)).nat := of_decide_eq_false h
   refine Wp.again ⟨i + 1, rfl, by omega, fun k hk => ?_⟩ (by show l.length - (i6 (i + 1)).val.toNat < l.length - (i6 i).val.toNat; rw [a1D (by omega), a1D (by omega)]; omega)
   by_cases hki : k = i
   ·
    subst hki; omega
   ·
    exact hinv k (by omega)
 ·
  have hc := of_decide_eq_false hc
  refine Wp.done ?_
  have : prV s = true := by
   refine prV_t.2 ⟨fun p hp => ?_, tabB_t.1 hT, hS⟩
   rw [← hl'] at hp
   obtain ⟨k, hk, rfl⟩ := b9K dP hp
   exact hinv k (by omega)
  rw [this]
  rfl
theorem d0N (s : PrT) (a : I .u64) (hl : s.posters.length ≤ 1073741824) : a5F ((s, (a, ())), ()) = some (((a9Q s a).1, ((a9Q s a).2, ())), ()) := by
 refine Wp.out (T := fun o => o = _) ?_
 unfold a5F a9Q
 refine Wp.optF (b6O s hl) ?_
 refine Wp.brn (fun h => ?_) (fun h => ?_)
 ·
  have h : prV s = false := a7S h
  rw [if_neg (by rw [h]; simp)]; rfl
 have h : prV s = true := a7T h
 rw [if_pos h]
 refine Wp.optF (e4K s.posters a hl) ?_
 refine Wp.brn (fun h => ?_) (fun h => ?_)
 ·
  have h : ¬ (b9H s.posters a).2.val = 0 := iff_neb.1 h
  rw [if_neg h]; rfl
 ·
  have h : (b9H s.posters a).2.val = 0 := niff_neb.1 h
  rw [if_pos h]; rfl
theorem c1P (a b : I .u64) : I.add a b = I.of .u64 ((a.nat + b.nat : Nat) : Int) := by
 unfold I.add
 rw [← a1L a, ← a1L b]
 rfl
theorem d1G (s : PrT) (n : I .u64) (hl : s.posters.length ≤ 1073741824) : a5T ((s, (n, ())), ()) = some (((b1N s n).1, ((b1N s n).2, ())), ()) := by
 refine Wp.out (T := fun o => o = _) ?_
 unfold a5T b1N
 refine Wp.optF (b6O s hl) ?_
 refine Wp.brn (fun h => ?_) (fun h => ?_)
 ·
  have h : prV s = false := a7S h
  rw [if_neg (by rw [h]; simp)]; rfl
 have h : prV s = true := a7T h
 rw [if_pos h]
 have hu := a1Q s.units
 have hn := a1Q n
 have hw : (I.add s.units n).nat = (s.units.nat + n.nat) % 18446744073709551616 := by
  rw [c1P]
  have h1 : (I.of .u64 ((s.units.nat + n.nat : Nat) : Int)).val = ((s.units.nat + n.nat : Nat) : Int) % 18446744073709551616 := rfl
  have := a1L (I.of .u64 ((s.units.nat + n.nat : Nat) : Int))
  omega
 refine Wp.brn (fun h => ?_) (fun h => ?_)
 ·
  rw [b3A] at h
  have h : (I.add s.units n).nat < n.nat := of_decide_eq_true h
  rw [if_neg (by omega)]; rfl
 ·
  rw [b3A] at h
  have h : ¬ (I.add s.units n).nat < n.nat := of_decide_eq_false h
  rw [if_pos (by omega)]
  refine Wp.brnT (a7Y hl) ?_
  rw [← c1P]
  rfl
noncomputable def b8V (s : PrT) (p : Prm) (r : RepT) (now : I .u64) : I .i64 :=
 if prV s = true then
  if a6S p = true then
   if atN s.posters r.from' < s.posters.length then
    if s.last.nat ≤ r.upto.nat ∧ r.upto.nat ≤ now.nat then
     if r.cost.val < b7F then I.of .i64 0
     else I.of .i64 2
    else I.of .i64 14
   else I.of .i64 8
  else I.of .i64 15
 else I.of .i64 2
theorem d5D (s : PrT) (p : Prm) (r : RepT) (now : I .u64) :
  ((b8V s p r now).val = 0 ∧ ((b4R s p r now).val = 0 ∨ (s.reports.nat = 18446744073709551615 ∧ b4R s p r now = I.of .i64 4))) ∨ ((b8V s p r now).val ≠ 0 ∧ b4R s p r now = b8V s p r now) := by
 unfold b8V b4R
 split
 ·
  split
  ·
   split
   ·
    split
    ·
     split
     ·
      left
      refine ⟨rfl, ?_⟩
      split
      ·
       rename_i h; exact .inr ⟨h, rfl⟩
      ·
       exact .inl rfl
     ·
      exact .inr ⟨by decide, rfl⟩
    ·
     exact .inr ⟨by decide, rfl⟩
   ·
    exact .inr ⟨by decide, rfl⟩
  ·
   exact .inr ⟨by decide, rfl⟩
 ·
  exact .inr ⟨by decide, rfl⟩
theorem d0Y {s : PrT} {p : Prm} {r : RepT} {now : I .u64} (h : (b8V s p r now).val = 0) : prV s = true ∧ a6S p = true ∧ atN s.posters r.from' < s.posters.length ∧ (s.last.nat ≤ r.upto.nat ∧ r.upto.nat ≤ now.nat) ∧ r.cost.val < b7F := by
 unfold b8V at h
 split at h
 ·
  rename_i h1
  split at h
  ·
   rename_i h2
   split at h
   ·
    rename_i h3
    split at h
    ·
     rename_i h4
     split at h
     ·
      rename_i h5; exact ⟨h1, h2, h3, h4, h5⟩
     ·
      exact absurd h (by decide)
    ·
     exact absurd h (by decide)
   ·
    exact absurd h (by decide)
  ·
   exact absurd h (by decide)
 ·
  exact absurd h (by decide)
theorem e1S (s : PrT) (p : Prm) (r : RepT) (now : I .u64) (hl : s.posters.length ≤ 1073741824) :
  a7N ((s, (p, (r, (now, ())))), ()) = some ((b8V s p r now, ()), ()) := by
 refine Wp.out (T := fun o => o = _) ?_
 unfold a7N b8V
 refine Wp.optF (b6O s hl) ?_
 refine Wp.brn (fun h => ?_) (fun h => ?_)
 ·
  have h : prV s = false := a7S h
  rw [if_neg (by rw [h]; simp)]; rfl
 have h : prV s = true := a7T h
 rw [if_pos h]
 refine Wp.optF (c1E p) ?_
 refine Wp.brn (fun h => ?_) (fun h => ?_)
 ·
  have h : a6S p = false := a7S h
  rw [if_neg (by rw [h]; simp)]; rfl
 have h : a6S p = true := a7T h
 rw [if_pos h]
 refine Wp.optF (b6B (l := s.posters) r.from' hl) ?_
 rw [show (((atI s.posters r.from', ()), ()) : ((I .i64) × Unit) × Unit).1.1 = atI s.posters r.from' from rfl, b6Q hl]
 refine Wp.brn (fun h => ?_) (fun h => ?_)
 ·
  rw [if_neg (of_decide_eq_true h)]; rfl
 rw [if_pos (by simpa using of_decide_eq_false h)]
 refine Wp.jnI ?_
 simp only [b3A]
 refine Wp.brn (fun h => ?_) (fun h => ?_)
 ·
  have h : r.upto.nat < s.last.nat := of_decide_eq_true h
  rw [if_neg (by omega)]; rfl
 have h1 : ¬ r.upto.nat < s.last.nat := of_decide_eq_false h
 refine Wp.brn (fun h => ?_) (fun h => ?_)
 ·
  have h : now.nat < r.upto.nat := of_decide_eq_true h
  rw [if_neg (by omega)]; rfl
 have h2 : ¬ now.nat < r.upto.nat := of_decide_eq_false h
 rw [if_pos (by omega)]
 refine Wp.call (d8K r.cost) ?_
 rintro _ ⟨k, rfl, hB, hk⟩
 rw [show (((i6 k, ()), ()) : ((I .i64) × Unit) × Unit).1.1 = i6 k from rfl, e1Q hB hk]
 refine Wp.brn (fun h => ?_) (fun h => ?_)
 ·
  rw [if_neg (of_decide_eq_true h)]; rfl
 rw [if_pos (Classical.byContradiction (of_decide_eq_false h))]
 rfl
theorem d9P (s : PrT) (p : Prm) (pool : U) (r : RepT) (now : I .u64) (hl : s.posters.length ≤ 1073741824) :
  a6R ((s, (p, (pool, (r, (now, ()))))), ()) = some (((a7Q s p pool r now).1, ((a7Q s p pool r now).2.1, ((a7Q s p pool r now).2.2, ()))), ()) := by
 refine Wp.out (T := fun o => o = _) ?_
 unfold a6R a7Q
 refine Wp.optF (e1S s p r now hl) ?_
 have hcc := d5D s p r now
 refine Wp.brn (fun h => ?_) (fun h => ?_)
 ·
  have h : ¬ (b8V s p r now).val = 0 := iff_neb.1 h
  rcases hcc with ⟨h', _⟩ | ⟨_, h'⟩
  ·
   exact absurd h' h
  rw [h', if_neg h]
  rfl
 have h0 : (b8V s p r now).val = 0 := niff_neb.1 h
 have ⟨f1, f2, f3, f4, f5⟩ := d0Y h0
 refine Wp.optF (e0R s.units s.last r.upto now f4.1 f4.2) ?_
 have hle := b7A (units := s.units) f4.1 f4.2
 have hu := a1Q s.units
 have hnv : (I.of .u64 (a9K s.units s.last r.upto now : Int)).nat = a9K s.units s.last r.upto now := b4M (by omega)
 have e : U.val (I.of .u64 (a9K s.units s.last r.upto now : Int), (I.of .u64 0, (I.of .u64 0, (I.of .u64 0, ())))) = b5I s r now := (a3I _).trans hnv
 have hM := d8Y p.rpu (I.of .u64 (a9K s.units s.last r.upto now : Int), (I.of .u64 0, (I.of .u64 0, (I.of .u64 0, ()))))
 rw [e] at hM
 refine Wp.optF hM (Wp.jnI ?_)
 rcases hcc with ⟨_, hcs⟩ | ⟨h', _⟩
 case inr => exact absurd h0 h'
 simp only [c5S]
 refine Wp.brn (fun hw => ?_) (fun hw => ?_)
 ·
  have hw : ¬ p.rpu.val * b5I s r now < U.top := of_decide_eq_true hw
  rcases hcs with hcs | ⟨_, hcs⟩
  ·
   rw [if_pos hcs, if_neg hw]; rfl
  ·
   rw [hcs, if_neg b0T]; rfl
 have hw := of_decide_eq_false hw
 have hw : p.rpu.val * b5I s r now < U.top := by omega
 rw [a9I hw]
 rcases hcs with hcs | ⟨hmax, hcs⟩
 case inr =>
  refine Wp.brnT ?_ ?_
  ·
   have hv := a1L s.reports
   rw [c1P, hmax]
   rfl
  ·
   rw [hcs, if_neg b0T]; rfl
 have hC := c2C hcs
 have hcnt := c5Q hC
 rw [if_pos hcs, if_pos hw]
 refine Wp.brnF (by rw [b4W]; exact decide_eq_false (by show ¬ (I.add s.reports (I.of .u64 1)).nat = 0; rw [hcnt]; omega)) ?_
 refine Wp.optF (d9Q s.posters r.from' r.cost (U.of (p.rpu.val * b5I s r now)) (I.add s.reports (I.of .u64 1)) hC.tab hC.fnd (by rw [hcnt]; omega)) ?_
 have hA := c1N (c := r.cost) (w := U.of (p.rpu.val * b5I s r now)) (since := I.add s.reports (I.of .u64 1)) hC.tab hC.fnd (by rw [hcnt]; omega)
 have hL : b0A s.posters r.from' r.cost (U.of (p.rpu.val * b5I s r now)) (I.add s.reports (I.of .u64 1)) = a9X s p r now := rfl
 rw [hL] at hA ⊢
 rcases hA with ⟨hA, _⟩ | ⟨hA, _, _, hT⟩
 ·
  rw [if_neg (by rw [hA]; exact b0T)]
  simp only [hA]
  exact Wp.brnT rfl rfl
 rw [if_pos (by rw [hA]; rfl)]
 simp only [hA]
 refine Wp.brnF rfl ?_
 generalize (a9X s p r now).1 = l at hT ⊢
 have hl64 := hT.1
 have hP := e5C l pool (by omega)
 rw [d6V hT pool] at hP
 refine Wp.optF hP ?_
 have hpl := c1L l pool
 refine Wp.optF (e1K l (a7O (ord l) pool.val) (by omega) (by show (a1M l pool).length ≤ _; omega)) ?_
 rw [show a7O (ord l) pool.val = a1M l pool from rfl]
 rcases c5K hT pool with hB | ⟨hB, hT2, _, _, hdu⟩
 ·
  rw [if_neg (by rw [hB]; exact b0T)]
  simp only [hB]
  exact Wp.brnT rfl rfl
 rw [if_pos (by rw [hB]; rfl)]
 simp only [hB]
 refine Wp.brnF rfl ?_
 have hsum := c7B l pool
 have hpo := pool.lt
 have hps : a6K ((a1M l pool).map amt) < U.top := by omega
 refine Wp.optF (f1I (l := a1M l pool) (by omega)) ?_
 rw [a9I hps]
 refine Wp.optF (c8H pool _) ?_
 have hsv : (U.of (a6K ((a1M l pool).map amt))).val = a6K ((a1M l pool).map amt) := U.val_of hps
 have hsub : (d7O pool (U.of (a6K ((a1M l pool).map amt)))).1 = U.of (pool.val - a6K ((a1M l pool).map amt)) := by
  unfold d7O
  rw [hsv, if_pos (by omega)]
 refine Wp.optF (d0Z (by have := hT2.1; omega) hT2) ?_
 unfold b2H
 have e1 : (b3J s (a2I l (a1M l pool)).1).posters = (a2I l (a1M l pool)).1 := rfl
 rw [e1]
 simp only [c5S]
 refine Wp.brn (fun hd => ?_) (fun hd => ?_)
 ·
  have hd := of_decide_eq_true hd
  simp only [if_neg hd]
  rw [if_neg b0T]; rfl
 have hd := of_decide_eq_false hd
 have hd : a6K ((a2I l (a1M l pool)).1.map b0D) < U.top := by omega
 simp only [if_pos hd, hsub]
 rw [a9I hd]
 refine Wp.optF (e5Q _ _) (Wp.jnI ?_)
 have hz : S.of (((U.of (pool.val - a6K ((a1M l pool).map amt))).val : Int) - ((U.of (a6K ((a2I l (a1M l pool)).1.map b0D))).val : Int)) = b5S pool (a2I l (a1M l pool)).1 (a1M l pool) := by
  unfold b5S
  rw [U.val_of hd, U.val_of (by omega)]
 simp only [hz]
 have hn1 : (b1V s p r now (a1M l pool)).1.nat = b5I s r now := hnv
 rw [hn1]
 have e0 : (I.of .u64 0).nat = 0 := rfl
 simp only [b3A]
 rw [e0, show (I.of .u64 (a9K s.units s.last r.upto now : Int)).nat = b5I s r now from hnv]
 refine Wp.brn (fun hp => ?_) (fun hp => ?_)
 ·
  have hp := of_decide_eq_true hp
  simp only [if_neg (show ¬ b5I s r now = 0 by omega)]
  refine Wp.optF (e6C _ _ _ _ _) ?_
  refine Wp.brn (fun hN => ?_) (fun hN => ?_)
  ·
   have hN : I.neb (b0I s.price (b5S pool (a2I l (a1M l pool)).1 (a1M l pool)) s.surplus (I.of .u64 (a9K s.units s.last r.upto now : Int)) p).2 (I.of .i64 0) = true := hN
   have hN2 : I.neb (b0I (b3J s (a2I l (a1M l pool)).1).price (b5S pool (a2I l (a1M l pool)).1 (b1V s p r now (a1M l pool)).2.2.1) (b3J s (a2I l (a1M l pool)).1).surplus (b1V s p r now (a1M l pool)).1 p).2 (I.of .i64 0) = true := hN
   simp only [if_pos hN2]
   have : ¬ (b0I (b3J s (a2I l (a1M l pool)).1).price (b5S pool (a2I l (a1M l pool)).1 (b1V s p r now (a1M l pool)).2.2.1) (b3J s (a2I l (a1M l pool)).1).surplus (b1V s p r now (a1M l pool)).1 p).2.val = 0 := iff_neb.1 hN2
   rw [if_neg this]; rfl
  ·
   have hN : I.neb (b0I s.price (b5S pool (a2I l (a1M l pool)).1 (a1M l pool)) s.surplus (I.of .u64 (a9K s.units s.last r.upto now : Int)) p).2 (I.of .i64 0) = false := hN
   have hN2 : ¬ I.neb (b0I (b3J s (a2I l (a1M l pool)).1).price (b5S pool (a2I l (a1M l pool)).1 (b1V s p r now (a1M l pool)).2.2.1) (b3J s (a2I l (a1M l pool)).1).surplus (b1V s p r now (a1M l pool)).1 p).2 (I.of .i64 0) = true := fun h => by
    have h : I.neb (b0I s.price (b5S pool (a2I l (a1M l pool)).1 (a1M l pool)) s.surplus (I.of .u64 (a9K s.units s.last r.upto now : Int)) p).2 (I.of .i64 0) = true := h
    rw [hN] at h; cases h
   simp only [if_neg hN2]
   rw [if_pos (show (I.of .i64 0).val = 0 from rfl)]; rfl
 ·
  have hp := of_decide_eq_false hp
  have hp0 : b5I s r now = 0 := by omega
  simp only [if_pos hp0]
  rw [if_pos (show (I.of .i64 0).val = 0 from rfl)]; rfl
end Sym

/- Pricer: the laws that compare with the reference. -/
namespace Sym
open Go
theorem e2G {s : PrT} {p : Prm} {pool : U} {r : RepT} {now : I .u64} (h : ¬ (a7Q s p pool r now).2.2.val = 0) : (a7Q s p pool r now).1 = zPr ∧ (a7Q s p pool r now).2.1 = f3L := by
 unfold a7Q at h ⊢
 by_cases h1 : (b4R s p r now).val = 0
 ·
  rw [if_pos h1] at h ⊢
  by_cases h2 : p.rpu.val * b5I s r now < U.top
  ·
   rw [if_pos h2] at h ⊢
   by_cases h3 : (a9X s p r now).2.val = 0
   ·
    rw [if_pos h3] at h ⊢
    by_cases h4 : (a2I (a9X s p r now).1 (a1M (a9X s p r now).1 pool)).2.val = 0
    ·
     rw [if_pos h4] at h ⊢
     by_cases h5 : (b2H (b3J s (a2I (a9X s p r now).1 (a1M (a9X s p r now).1 pool)).1) p pool (b1V s p r now (a1M (a9X s p r now).1 pool))).2.val = 0
     ·
      rw [if_pos h5] at h
      exact absurd rfl h
     ·
      rw [if_neg h5]; exact ⟨rfl, rfl⟩
    ·
     rw [if_neg h4]; exact ⟨rfl, rfl⟩
   ·
    rw [if_neg h3]; exact ⟨rfl, rfl⟩
  ·
   rw [if_neg h2]; exact ⟨rfl, rfl⟩
 ·
  rw [if_neg h1]; exact ⟨rfl, rfl⟩
theorem f3A (s : PrT) (p : Prm) (pool : U) (r : RepT) (now : I .u64) : (a7Q s p pool r now).1.posters.length ≤ 64 ∧ (a7Q s p pool r now).2.1.2.2.1.length ≤ 64 := by
 by_cases h : (a7Q s p pool r now).2.2.val = 0
 ·
  have hR := f8I h
  refine ⟨hR.tab2.1, ?_⟩
  rw [hR.out]
  exact Nat.le_trans (c1L _ _) hR.tab1.1
 ·
  rw [(e2G h).1, (e2G h).2]
  exact ⟨Nat.zero_le _, Nat.zero_le _⟩
theorem e4Y (l : List Post) (a : I .u64) : (b9H l a).1.length ≤ l.length + 1 := by
 unfold b9H
 split
 ·
  split
  ·
   exact Nat.zero_le _
  ·
   split
   ·
    exact Nat.zero_le _
   ·
    exact Nat.le_of_eq (d7F l a)
 ·
  exact Nat.zero_le _
theorem c9B (s : PrT) (a : I .u64) : (a9Q s a).1.posters.length ≤ s.posters.length + 1 := by
 unfold a9Q
 split
 ·
  split
  ·
   exact e4Y _ _
  ·
   exact Nat.zero_le _
 ·
  exact Nat.zero_le _
theorem d1F (s : PrT) (n : I .u64) : (b1N s n).1.posters.length ≤ s.posters.length := by
 unfold b1N
 split
 ·
  split
  ·
   exact Nat.le_refl _
  ·
   exact Nat.zero_le _
 ·
  exact Nat.zero_le _
theorem b3C (s : PrT) (hl : s.posters.length ≤ 1073741824) : a3B ((s, (s, ())), ()) = some ((true, ()), ()) := by
 refine Wp.out (T := fun o => o = _) ?_
 unfold a3B
 have e : ∀ x : I .u64, I.eqb x x = true := fun x => iff_eqb.2 rfl
 refine Wp.brnT (d6L _) (Wp.brnT (e _) (Wp.brnT (e _) (Wp.brnT (e _) (Wp.brnT (e0K _) ?_))))
 exact Wp.optF (c2D s.posters hl) rfl
theorem d8O (t : f2F) (hl : t.2.2.1.length ≤ 1073741824) : a7K ((t, (t, ())), ()) = some ((true, ()), ()) := by
 refine Wp.out (T := fun o => o = _) ?_
 unfold a7K
 exact Wp.brnT (iff_eqb.2 rfl) (Wp.brnT (d6L _) (Wp.optF (c0S t.2.2.1 hl) rfl))
theorem c9R {k : IntKind} (a : I k) : I.neb a a = false := niff_neb.2 rfl
theorem h4V {X : Type} (d a b : X) {i : Nat} (h : i < 2) {P : X → Prop} (ha : P a) (hb : P b) : P (Arr.sel d 2 (a, (b, ())) i) := by
 match i, h with
 | 0, _ => exact ha
 | 1, _ => exact hb
theorem c4Y (s : PrT) (p : Prm) (v : V8) (pool : U) (r : RepT) (now : I .u64) (d : List Call) (units : I .u64) (hs : s.posters.length ≤ LIM) (hd : d.length ≤ LIM) :
  a2Q ((s, (p, (v, (pool, (r, (now, (d, (units, ())))))))), ()) = some ((true, ()), ()) := by
 refine Wp.out (T := fun o => o = some ((true, ()), ())) ?_
 unfold a2Q
 refine Wp.jnI (Wp.jnI ?_)
 refine Wp.brn (fun _ => Wp.brnT rfl (Wp.optF d4H rfl)) (fun hc => ?_)
 have hs := e1L (n := 20) hs (by omega) hc
 refine Wp.brn (fun _ => Wp.optF d4H rfl) (fun hc => ?_)
 have hd := e1L (n := 30) hd (by omega) hc
 refine Wp.call (d5E d (by omega)) ?_
 rintro _ ⟨g, rfl, hg⟩
 have hg64 := hg.1
 obtain ⟨q, hq, hqv⟩ := c6F v
 have r2 : I.of .i64 2 = i6 2 := rfl
 refine Wp.jn (fun x => ∃ t : PrT, x = ((now, (units, ())), (s, (p, (v, (pool, (r, (t, ()))))))) ∧ t.posters = g) ?_ ?_
 case refine_2 =>
  intro j hj
  exact Wp.brn (fun _ => hj _ ⟨_, rfl, rfl⟩) (fun _ => hj _ ⟨_, rfl, rfl⟩)
 rintro x ⟨t, rfl, ht⟩
 have ht64 : t.posters.length ≤ 64 := by rw [ht]; exact hg64
 simp only [a7Z, a7U, r2]
 obtain ⟨r', hr'⟩ : ∃ r' : RepT, r' = (I.rem r.1 (I.of .u64 7), r.2) := ⟨_, rfl⟩
 have hr2 : ((I.rem r.1 (I.of .u64 7), r.2) : RepT) = r' := hr'.symm
 refine Wp.iter (fun x => ∃ i, x = ((now, (units, ((s, (t, ())), (i6 i, ())))), (p, (v, (pool, (r', ()))))) ∧ i ≤ 2) (fun x => 2 - x.1.2.2.2.1.val.toNat) ?_ ⟨0, by rw [hr']; rfl, by omega⟩ (by rw [a5J]; show 2 - _ < _; omega)
 rintro x ⟨i, rfl, hi⟩
 simp only [a5U (show i < 9223372036854775808 by omega) (show 2 < 9223372036854775808 by omega), a3H (show i < 9223372036854775808 by omega), a5W (show i + 1 < 9223372036854775808 by omega)]
 refine Wp.brn (fun hc => ?_) (fun _ => Wp.done (Wp.optF d4H rfl))
 have hc := of_decide_eq_true hc
 have hmi : 2 - (i6 (i + 1)).val.toNat < 2 - (i6 i).val.toNat := by rw [a1D (by omega), a1D (by omega)]; omega
 refine Wp.brnT (a3F hc (by omega)) (Wp.optF hq ?_)
 have hx64 : (Arr.sel zPr 2 (s, (t, ())) i).posters.length ≤ 64 := h4V zPr s t (P := fun z : PrT => z.posters.length ≤ 64) hc (by omega) ht64
 obtain ⟨z, hz⟩ : ∃ z, z = Arr.sel zPr 2 (s, (t, ())) i := ⟨_, rfl⟩
 rw [← hz] at hx64
 refine Wp.iter (fun x => ∃ k, x = ((now, (units, ((s, (t, ())), (i6 i, ((p, (q, ())), (i6 k, ())))))), (p, (v, (pool, (r', (z, ())))))) ∧ k ≤ 2) (fun x => 2 - x.1.2.2.2.2.2.1.val.toNat) ?_ ⟨0, by rw [hz]; rfl, by omega⟩ (by rw [a5J]; show 2 - _ < _; omega)
 rintro x ⟨k, rfl, hk⟩
 simp only [a5U (show k < 9223372036854775808 by omega) (show 2 < 9223372036854775808 by omega), a3H (show k < 9223372036854775808 by omega), a5W (show k + 1 < 9223372036854775808 by omega), a5W (show i + 1 < 9223372036854775808 by omega)]
 refine Wp.brn (fun hc2 => ?_) (fun _ => Wp.done ?_)
 ·
  have hc2 := of_decide_eq_true hc2
  have hmk : 2 - (i6 (k + 1)).val.toNat < 2 - (i6 k).val.toNat := by rw [a1D (by omega), a1D (by omega)]; omega
  refine Wp.brnT (a3F hc2 (by omega)) ?_
  obtain ⟨w, hw⟩ : ∃ w : Prm, w = Arr.sel b5E 2 (p, (q, ())) k := ⟨_, rfl⟩
  have hrl := f3A z w pool r' now
  refine Wp.optF (by have := e3I z w pool r' now (by omega); rw [hw] at this; exact this) (Wp.optF (by have := d9P z w pool r' now (by omega); rw [hw] at this; exact this) ?_)
  rw [← hw]
  refine Wp.brnF (c9R _) (Wp.optF (b3C (a7Q z w pool r' now).1 (by have := hrl.1; omega)) (Wp.brnF rfl (Wp.optF (d8O (a7Q z w pool r' now).2.1 (by have := hrl.2; omega)) (Wp.brnF rfl ?_))))
  exact Wp.again ⟨k + 1, rfl, by omega⟩ hmk
 ·
  refine Wp.optF (d4N z units (by omega)) (Wp.optF (d1G z units (by omega)) (Wp.optF (d3D z r'.1 (by omega)) (Wp.optF (d0N z r'.1 (by omega)) (Wp.optF (b8N z (by omega)) (Wp.optF (b6O z (by omega)) ?_)))))
  have eb : a2R (Ty.eqb .bool (prV z) (prV z)) = false := by cases prV z <;> rfl
  have h1 := d1F z units
  have h2 := c9B z r'.1
  refine Wp.brnF eb (Wp.brnF (c9R _) (Wp.brnF (c9R _) (Wp.optF (b3C (b1N z units).1 (by omega)) (Wp.brnF rfl (Wp.optF (b3C (a9Q z r'.1).1 (by omega)) (Wp.brnF rfl ?_))))))
  exact Wp.again ⟨i + 1, rfl, by omega⟩ hmi
end Sym

/- From what a row reads of the arguments to plain values, and from a contract to the row's answer. -/
namespace Sym
open Go
mutual
def e0O (P : Program) : Ty → TypeId → Bool
 | .cons a b, id => match P.underlying id with
  | some (.struct fs) => (match fs.toList with
   | f :: r => e0O P a f.type && e4I P b r
   | [] => false)
  | _ => false
 | .arr _ t, id => match P.underlying id with
  | some (.array _ e) => e0O P t e
  | _ => false
 | .sl t, id => match P.underlying id with
  | some (.slice e) => Nat.ble 1 t.sz && (Nat.ble 1 (P.bytesOf e) && e0O P t e)
  | _ => false
 | .opq, _ => false
 | _, _ => true
def e4I (P : Program) : Ty → List Field → Bool
 | .cons a b, f :: r => e0O P a f.type && e4I P b r
 | _, _ => true
end
theorem mapM_some {X Y : Type} {f : X → Option Y} : ∀ {l : List X} {r : List Y}, l.mapM f = some r → r.length = l.length ∧ ∀ (i : Nat) (a : X), l[i]? = some a → ∃ b, r[i]? = some b ∧ f a = some b
 | [], r, h => by
  simp only [List.mapM_nil, Option.pure_def, Option.some.injEq] at h
  subst h
  exact ⟨rfl, fun i a h => by simp at h⟩
 | a :: l, r, h => by
  simp only [List.mapM_cons, Option.bind_eq_bind, Option.bind_eq_some_iff, Option.pure_def, Option.some.injEq] at h
  obtain ⟨b, hb, s, hs, rfl⟩ := h
  obtain ⟨h1, h2⟩ := mapM_some hs
  refine ⟨by simp [h1], fun i x hx => ?_⟩
  cases i with
  | zero =>
   simp only [List.getElem?_cons_zero, Option.some.injEq] at hx
   subst hx
   exact ⟨b, by simp, hb⟩
  | succ i =>
   simp only [List.getElem?_cons_succ] at hx
   obtain ⟨y, h3, h4⟩ := h2 i x hx
   exact ⟨y, by simp [h3], h4⟩
theorem d9I {Y : Type} {f : Nat → Option Y} {n : Nat} {r : List Y} (h : (List.range n).mapM f = some r) : r.length = n ∧ ∀ i, i < n → ∃ b, r[i]? = some b ∧ f i = some b := by
 obtain ⟨h1, h2⟩ := mapM_some h
 refine ⟨by simpa using h1, fun i hi => h2 i i (by simp [hi])⟩
theorem c4E {X : Type} : ∀ (n : Nat) (R : Nat → X → Prop), (∀ i, i < n → ∃ x, R i x) → ∃ l : List X, l.length = n ∧ ∀ i x, l[i]? = some x → R i x
 | 0, _, _ => ⟨[], rfl, fun i x h => by simp at h⟩
 | n + 1, R, h => by
  obtain ⟨x, hx⟩ := h 0 (by omega)
  obtain ⟨l, h1, h2⟩ := c4E n (fun i x => R (i + 1) x) fun i hi => h (i + 1) (by omega)
  refine ⟨x :: l, by simp [h1], fun i y hy => ?_⟩
  cases i with
  | zero => simp only [List.getElem?_cons_zero, Option.some.injEq] at hy; subst hy; exact hx
  | succ i => exact h2 i y (by simpa using hy)
theorem c7N {X : Type} {E : X → List Value → Prop} {s : Nat} : ∀ (n : Nat) (cs : List Value), cs.length = n * s → (∀ i, i < n → ∃ x, E x ((cs.drop (i * s)).take s)) → ∃ x, b0H E n x cs
 | 0, cs, hl, _ => ⟨(), by simp at hl; exact hl⟩
 | n + 1, cs, hl, h => by
  obtain ⟨x, hx⟩ := h 0 (by omega)
  simp only [Nat.zero_mul, List.drop_zero] at hx
  obtain ⟨y, hy⟩ := c7N (E := E) (s := s) n (cs.drop s) (by rw [List.length_drop, hl, Nat.succ_mul]; omega) fun i hi => by
   obtain ⟨z, hz⟩ := h (i + 1) (by omega)
   refine ⟨z, ?_⟩
   rw [List.drop_drop, show s + i * s = (i + 1) * s by rw [Nat.succ_mul]; omega]
   exact hz
  exact ⟨(x, y), cs.take s, cs.drop s, (List.take_append_drop s cs).symm, hx, hy⟩
theorem b4T {H : Type} {P : Program} {e : TypeId} : ∀ {ds : List (DataW H)} {i : Nat} {d : DataW H}, ds[i]? = some d → ∀ n ∈ d.weights P e, n ∈ DataW.weightsAll P e ds
 | d0 :: ds, 0, d, hd, n, hn => by
  simp only [List.getElem?_cons_zero, Option.some.injEq] at hd
  subst hd
  simp only [DataW.weightsAll, List.mem_append]
  exact .inl hn
 | d0 :: ds, i + 1, d, hd, n, hn => by
  simp only [List.getElem?_cons_succ] at hd
  simp only [DataW.weightsAll, List.mem_append]
  exact .inr (b4T hd n hn)
def strOf (s : ByteArray) : List (I .u8) := s.data.toList.map fun b => I.of .u8 b.toNat
theorem c9G (s : ByteArray) : bytesOf (strOf s) = s := by
 unfold bytesOf strOf
 cases s with | mk a =>
 congr 1
 rw [List.map_map]
 have : ((fun c : I .u8 => UInt8.ofNat c.val.toNat) ∘ fun b : UInt8 => I.of .u8 b.toNat) = id := by
  funext b
  simp only [Function.comp, id, I.of, IntKind.wrap, IntKind.bits, IntKind.signed, Bool.false_and, Bool.false_eq_true, if_false]
  have := b.toNat_lt
  rw [show ((b.toNat : Int) % 2 ^ 8) = (b.toNat : Int) by omega, Int.toNat_natCast]
  exact UInt8.ofNat_toNat
 rw [this, List.map_id, Array.toArray_toList]
section
variable {H : Type} {enc : TypeId × Value → H} {P : Program} {W : World} {base : Nat} {spare : Nat → Bool} {held : Bool}
abbrev GW (W : World) : Nat → Prop := fun r => r < W.heap.size
theorem f3M {a : Addr} {v : Value} (h : W.cell? a = some v) : a.spot = none ∧ a.block < W.heap.size := by
 unfold World.cell? at h
 split at h
 ·
  rename_i c _ _ hc
  split at h
  ·
   cases h
  ·
   rename_i hs
   refine ⟨by simpa using hs, ?_⟩
   rw [Array.getElem?_eq_some_iff] at hc
   exact hc.1
 ·
  cases h
theorem e2D {base : Nat} {a : Addr} {n : Nat} {ds : List Value} (h : W.cells? base a n = some ds) : ds.length = n ∧ ∀ j d, ds[j]? = some d → W.cell? (a.add j) = some d := by
 unfold World.cells? at h
 split at h
 ·
  obtain ⟨h1, h2⟩ := d9I h
  refine ⟨h1, fun j d hd => ?_⟩
  obtain ⟨b, h3, h4⟩ := h2 j (by rw [← h1]; exact (List.getElem?_eq_some_iff.1 hd).1)
  rw [h3] at hd
  rw [h4, hd]
 ·
  cases h
theorem addr_add {a : Addr} (hs : a.spot = none) (n : Nat) : a.add n = ⟨a.block, a.off + n, none⟩ := by
 unfold Addr.add
 cases a
 simp only at hs
 subst hs
 split
 ·
  rename_i h; subst h; rfl
 ·
  rfl
theorem d3Z : ∀ (t : Ty),
  (∀ fuel id cs (d : DataW H) (p : List MemPlace), TOk P t id → e0O P t id = true → DataW.trod enc P W base spare held fuel id cs = some (d, p) → (∀ n ∈ d.weights P id, n ≤ reachBytes) → ∃ x, Enc W (GW W) t x cs) ∧
  (∀ fuel (r : List Field) (o : Nat) (cs : List Value) (xs : List (DataW H × List MemPlace)), FOk P t r o → e4I P t r = true → xs.length = r.length →
   (∀ (i : Nat) (f : Field), r[i]? = some f → DataW.trod enc P W base spare held fuel f.type ((cs.drop f.offset).take (P.cellsOf f.type)) = xs[i]?) →
   (∀ n ∈ DataW.weightsEach P (r.map (·.type)) (xs.map (·.1)), n ≤ reachBytes) → cs.length = o + t.sz → ∃ x, Enc W (GW W) t x (cs.drop o)) := by
 intro t
 have nofld : ∀ t, (∀ a b, t ≠ .cons a b) → t ≠ .nil → ∀ (r : List Field) (o : Nat), ¬ FOk P t r o := by
  intro t h1 h2 r o h
  cases t <;> first | exact h1 _ _ rfl | exact h2 rfl | (cases r <;> exact h.elim)
 induction t with
 | int k =>
  refine ⟨fun fuel id cs d p hT _ h _ => ?_, fun fuel r o cs xs h => (nofld _ (by simp) (by simp) _ _ h).elim⟩
  obtain ⟨n, hcs, _, hw⟩ := DataW.trod_int hT.2 h
  simp only [Lit.wf, Bool.and_eq_true, decide_eq_true_eq] at hw
  exact ⟨(⟨n, a5Z hw⟩ : I k), hcs⟩
 | bool =>
  refine ⟨fun fuel id cs d p hT _ h _ => ?_, fun fuel r o cs xs h => (nofld _ (by simp) (by simp) _ _ h).elim⟩
  obtain ⟨n, hcs, _⟩ := DataW.trod_bool hT.2 h
  exact ⟨n, hcs⟩
 | str =>
  refine ⟨fun fuel id cs d p hT _ h hw => ?_, fun fuel r o cs xs h => (nofld _ (by simp) (by simp) _ _ h).elim⟩
  obtain ⟨s, hcs, hx, _⟩ := DataW.trod_string hT.2 h
  simp only [Prod.mk.injEq] at hx
  obtain ⟨rfl, rfl⟩ := hx
  refine ⟨strOf s, ?_, ?_⟩
  ·
   rw [c9G]; exact hcs
  ·
   have := hw s.data.toList.length (by simp [DataW.weights])
   have h2 : (strOf s).length = s.data.toList.length := List.length_map _
   show (strOf s).length ≤ LIM
   rw [h2]
   simp only [reachBytes, LIM] at *
   omega
 | nil =>
  refine ⟨fun fuel id cs d p hT _ h hw => ?_, fun fuel r o cs xs h _ _ _ _ hl => ⟨(), ?_⟩⟩
  ·
   obtain ⟨xs, n, _, _, hl, _⟩ := DataW.trod_struct hT.2 h
   rw [hT.1] at hl
   exact ⟨(), List.eq_nil_of_length_eq_zero hl⟩
  ·
   show cs.drop o = []
   simp only [Ty.sz, Nat.add_zero] at hl
   rw [List.drop_eq_nil_iff]; omega
 | cons a b iha ihb =>
  refine ⟨fun fuel id cs d p hT hA h hw => ?_, fun fuel r o cs xs hF hA hlen hf hw hl => ?_⟩
  ·
   obtain ⟨hsz, fs, f, r, hu, hfs, hf0, hTa, hFb⟩ := hT
   obtain ⟨xs, n, _, hx, hl, hlen, hfx⟩ := DataW.trod_struct hu h
   simp only [Prod.mk.injEq] at hx
   obtain ⟨rfl, rfl⟩ := hx
   simp only [e0O, hu, hfs, Bool.and_eq_true] at hA
   have hfl : ∀ (i : Nat) (g : Field), (f :: r)[i]? = some g → DataW.trod enc P W base spare held n g.type ((cs.drop g.offset).take (P.cellsOf g.type)) = xs[i]? := by
    intro i g hg
    refine hfx i g ?_
    rw [← Array.getElem?_toList, hfs]
    exact hg
   have hlen' : xs.length = r.length + 1 := by rw [hlen, ← Array.length_toList, hfs]; rfl
   match xs, hlen' with
   | y :: ys, hlen' =>
    simp only [DataW.weights, hu, hfs, List.map_cons, DataW.weightsEach, List.mem_append] at hw
    have h0 := hfl 0 f rfl
    simp only [List.getElem?_cons_zero] at h0
    rw [hf0, hTa.size, List.drop_zero] at h0
    obtain ⟨x, hx⟩ := iha.1 n f.type _ y.1 y.2 hTa hA.1 h0 (fun m hm => hw m (.inl hm))
    obtain ⟨z, hz⟩ := ihb.2 n r a.sz cs ys hFb hA.2 (by simpa using hlen') (fun i g hg => by simpa using hfl (i + 1) g hg) (fun m hm => hw m (.inr hm)) (by rw [hl, hsz])
    exact ⟨(x, z), _, _, (List.take_append_drop a.sz cs).symm, hx, hz⟩
  ·
   cases r with
   | nil => exact hF.elim
   | cons f r =>
    obtain ⟨hf0, hTa, hFb⟩ := hF
    simp only [e4I, Bool.and_eq_true] at hA
    match xs, hlen with
    | y :: ys, hlen =>
     simp only [List.map_cons, DataW.weightsEach, List.mem_append] at hw
     have h0 := hf 0 f rfl
     simp only [List.getElem?_cons_zero] at h0
     rw [hf0, hTa.size] at h0
     simp only [Ty.sz] at hl
     obtain ⟨x, hx⟩ := iha.1 fuel f.type _ y.1 y.2 hTa hA.1 h0 (fun m hm => hw m (.inl hm))
     obtain ⟨z, hz⟩ := ihb.2 fuel r (o + a.sz) cs ys hFb hA.2 (by simpa using hlen) (fun i g hg => by simpa using hf (i + 1) g hg) (fun m hm => hw m (.inr hm)) (by omega)
     refine ⟨(x, z), _, _, (List.take_append_drop a.sz (cs.drop o)).symm, hx, ?_⟩
     rw [List.drop_drop]
     exact hz
 | arr n t ih =>
  refine ⟨fun fuel id cs d p hT hA h hw => ?_, fun fuel r o cs xs h => (nofld _ (by simp) (by simp) _ _ h).elim⟩
  obtain ⟨hsz, e, hu, hTe⟩ := hT
  obtain ⟨xs, m, _, hx, hl, hlen, hfx⟩ := DataW.trod_array hu h
  simp only [Prod.mk.injEq] at hx
  obtain ⟨rfl, rfl⟩ := hx
  simp only [e0O, hu] at hA
  simp only [DataW.weights, hu] at hw
  refine c7N n cs (by rw [hl, hsz]) fun i hi => ?_
  have h0 := hfx i hi
  rw [hTe.size, List.getElem?_eq_getElem (by omega)] at h0
  refine ih.1 m e _ (xs[i]'(by omega)).1 (xs[i]'(by omega)).2 hTe hA h0 fun k hk => hw k (b4T (i := i) ?_ k hk)
  rw [List.getElem?_map, List.getElem?_eq_getElem (by omega)]; rfl
 | sl t ih =>
  refine ⟨fun fuel id cs d p hT hA h hw => ?_, fun fuel r o cs xs h => (nofld _ (by simp) (by simp) _ _ h).elim⟩
  obtain ⟨hsz, e, hu, hTe⟩ := hT
  simp only [e0O, hu, Bool.and_eq_true] at hA
  obtain ⟨hA1, hA2, hA⟩ := hA
  have hA1 := Nat.le_of_ble_eq_true hA1
  have hA2 := Nat.le_of_ble_eq_true hA2
  rcases DataW.trod_slice hu h with ⟨rfl, _⟩ | ⟨a, len, cap, elems, rest, m, _, rfl, hx, _, hlc, _, hel, hfx, _, _⟩
  ·
   refine ⟨([] : List t.D), none, 0, rfl, Nat.le_refl _, by simp, .inl rfl⟩
  ·
   simp only [Prod.mk.injEq] at hx
   obtain ⟨rfl, rfl⟩ := hx
   simp only [DataW.weights, hu, List.mem_cons, List.mem_append] at hw
   have hb := hw _ (.inl rfl)
   have hlim : len ≤ LIM := by
    have h1 : len ≤ (elems.length + rest.length) * P.bytesOf e := by
     rw [← hel]
     refine Nat.le_trans ?_ (Nat.mul_le_mul_left _ hA2)
     omega
    simp only [List.length_map] at hb
    simp only [reachBytes, LIM] at *
    omega
   have key : ∀ i, i < len → a.spot = none ∧ a.block < W.heap.size ∧ ∃ x ds, Enc W (GW W) t x ds ∧ b5G W a.block (a.off + i * t.sz) ds := by
    have one : ∀ i, i < len → ∃ (ds : List Value) (x : t.D), ds.length = t.sz ∧ Enc W (GW W) t x ds ∧ ∀ j d, ds[j]? = some d → W.cell? ((a.add (i * t.sz)).add j) = some d := by
     intro i hi
     have h0 := hfx i hi
     rw [List.getElem?_eq_getElem (by omega)] at h0
     simp only [Option.bind_eq_some_iff] at h0
     obtain ⟨ds, h1, h2⟩ := h0
     obtain ⟨h3, h4⟩ := e2D h1
     rw [hTe.size] at h3 h4
     obtain ⟨x, hx⟩ := ih.1 m e ds (elems[i]'(by omega)).1 (elems[i]'(by omega)).2 hTe hA h2 fun k hk => hw k (.inr (.inl (b4T (i := i) (by rw [List.getElem?_map, List.getElem?_eq_getElem (by omega)]; rfl) k hk)))
     exact ⟨ds, x, h3, hx, h4⟩
    intro i hi
    obtain ⟨ds, x, h1, h2, h3⟩ := one i hi
    obtain ⟨ds0, _, g1, _, g3⟩ := one 0 (by omega)
    have c0 := g3 0 (ds0[0]'(by omega)) (List.getElem?_eq_getElem _)
    simp only [Nat.zero_mul] at c0
    have e0 : (a.add 0).add 0 = a := by simp [Addr.add]
    rw [e0] at c0
    obtain ⟨hs, hlt⟩ := f3M c0
    refine ⟨hs, hlt, x, ds, h2, fun j d hd => ?_⟩
    have := h3 j d hd
    rw [addr_add hs, addr_add rfl] at this
    exact this
   obtain ⟨l, hl1, hl2⟩ := c4E len (fun i x => ∃ ds, Enc W (GW W) t x ds ∧ b5G W a.block (a.off + i * t.sz) ds) fun i hi => (key i hi).2.2
   refine ⟨l, some a, cap, ?_, ?_, ?_, ?_⟩
   ·
    show [Value.slice (some a) len cap] = [Value.slice (some a) l.length cap]; rw [hl1]
   ·
    show l.length ≤ cap; omega
   ·
    show l.length ≤ LIM; omega
   ·
    by_cases h0 : len = 0
    ·
     left; show l = []; exact List.eq_nil_of_length_eq_zero (by omega)
    ·
     obtain ⟨h1, h2, _⟩ := key 0 (by omega)
     exact .inr ⟨a, rfl, h1, h2, hl2⟩
 | opq => exact ⟨fun fuel id cs d p hT hA => by simp [e0O] at hA, fun fuel r o cs xs h => (nofld _ (by simp) (by simp) _ _ h).elim⟩
end
theorem e0V {P : Program} {W : World} {rr : Reach} {base : Nat} {id : TypeId} {v : Value} {t : Ty} (hT : TOk P t id) (hne : t ≠ .opq) (h : Value.okWide P W rr base id v) : v = mkV t.isAgg v.cells.toList := by
 have agg : (∃ cs, v = .agg cs) → v = mkV true v.cells.toList := by
  rintro ⟨cs, rfl⟩
  show Value.agg cs = .agg _
  congr 1
 cases t with
 | int k => obtain ⟨n, rfl⟩ := Go.WideShapes.okWide_int hT.2 h; rfl
 | bool => obtain ⟨n, rfl⟩ := Go.WideShapes.okWide_bool hT.2 h; rfl
 | str => obtain ⟨n, rfl⟩ := Go.WideShapes.okWide_string hT.2 h; rfl
 | sl t => obtain ⟨_, e, hu, _⟩ := hT; obtain ⟨a, l, c, rfl⟩ := Go.WideShapes.okWide_slice hu h; rfl
 | opq => exact (hne rfl).elim
 | nil => obtain ⟨_, hu⟩ := hT; simp only [Value.okWide, hu] at h; exact agg ⟨_, h.choose_spec.1⟩
 | cons a b => obtain ⟨_, fs, f, r, hu, _⟩ := hT; simp only [Value.okWide, hu] at h; exact agg ⟨_, h.choose_spec.1⟩
 | arr n t => obtain ⟨_, e, hu, _⟩ := hT; simp only [Value.okWide, hu] at h; exact agg ⟨_, h.choose_spec.1⟩
def Arr.all {X : Type} (p : X → Prop) : (n : Nat) → Arr X n → Prop
 | 0, _ => True
 | n + 1, x => p x.1 ∧ Arr.all p n x.2
def Ty.bd : (t : Ty) → t.D → Prop
 | .str, x => (show List (I .u8) from x).length ≤ LIM
 | .cons a b, x => a.bd x.1 ∧ b.bd x.2
 | .arr n t, x => Arr.all t.bd n x
 | .sl t, x => (show List t.D from x).length ≤ LIM ∧ ∀ (i : Nat) (y : t.D), (show List t.D from x)[i]? = some y → t.bd y
 | .int _, _ => True
 | .bool, _ => True
 | .nil, _ => True
 | .opq, _ => True
theorem c7U {X : Type} {E : X → List Value → Prop} {p : X → Prop} (h : ∀ x cs, E x cs → p x) : ∀ (n : Nat) (x : Arr X n) (cs : List Value), b0H E n x cs → Arr.all p n x
 | 0, _, _, _ => trivial
 | n + 1, x, cs, he => by
  obtain ⟨c1, c2, _, h1, h2⟩ := he
  exact ⟨h _ _ h1, c7U h n x.2 c2 h2⟩
theorem f9R {W : World} {G : Nat → Prop} : ∀ (t : Ty) (x : t.D) (cs : List Value), Enc W G t x cs → t.bd x := by
 intro t
 induction t with
 | int k => intro x cs _; trivial
 | bool => intro x cs _; trivial
 | nil => intro x cs _; trivial
 | opq => intro x cs _; trivial
 | str => intro x cs h; exact h.2
 | cons a b iha ihb => intro x cs h; obtain ⟨c1, c2, _, h1, h2⟩ := h; exact ⟨iha _ _ h1, ihb _ _ h2⟩
 | arr n t ih => intro x cs h; exact c7U (fun x cs => ih x cs) n x cs h
 | sl t ih =>
  intro x cs h
  obtain ⟨a, c, _, _, hl, hx⟩ := h
  refine ⟨hl, fun i y hy => ?_⟩
  rcases hx with hx | ⟨ad, _, _, _, hr⟩
  ·
   rw [hx] at hy; simp at hy
  ·
   obtain ⟨ds, h1, _⟩ := hr i y hy
   exact ih y ds h1
def f2P : (ts : List Ty) → ShD (ts.map .pl) → Prop
 | [], _ => True
 | t :: ts, x => t.bd x.1 ∧ f2P ts x.2
def d8T (P : Program) : List Ty → List TypeId → Bool
 | [], [] => true
 | t :: ts, id :: ids => d3R P t id && (e0O P t id && (P.readableRec id && (Nat.blt id P.types.size && d8T P ts ids)))
 | _, _ => false
section
variable {H : Type} {enc : TypeId × Value → H} {P : Program} {W : World}
def cx0 (W : World) : Cx := ⟨W, GW W, fun _ => .bool false, []⟩
theorem d6K {rr : Reach} {base : Nat} : ∀ (ts : List Ty) (ids : List TypeId) (vs : List Value) (ds : List (DataW H)) (ps : List MemPlace), d8T P ts ids = true →
  DataW.TrodAll enc P W 0 (fun _ => true) true ids vs ds ps → (∀ (j : Nat) t v, ids[j]? = some t → vs[j]? = some v → Value.okWide P W rr base t v) →
  (∀ n ∈ DataW.weightsEach P ids ds, n ≤ reachBytes) → ds.length = ts.length ∧ ∃ x : ShD (ts.map .pl), f2P ts x ∧ All2 (VOk (cx0 W)) (a1O (ts.map .pl) x) vs
 | [], [], vs, ds, ps, _, hA, _, _ => by
  obtain ⟨rfl, rfl, rfl⟩ := Go.ChangeShapes.trodAll_nil hA
  exact ⟨rfl, (), trivial, trivial⟩
 | [], _ :: _, _, _, _, h, _, _, _ => by cases h
 | _ :: _, [], _, _, _, h, _, _, _ => by cases h
 | t :: ts, id :: ids, vs, ds, ps, h, hA, hv, hw => by
  simp only [d8T, Bool.and_eq_true] at h
  obtain ⟨h1, h2, _, _, h5⟩ := h
  obtain ⟨v, vs', d, ds', p, q, rfl, rfl, rfl, ⟨fuel, hd⟩, hrest⟩ := Go.ChangeShapes.trodAll_cons hA
  simp only [DataW.weightsEach, List.mem_append] at hw
  have hT := (d6Y P t).1 id h1
  obtain ⟨x, hx⟩ := (d3Z t).1 fuel id _ d p hT h2 hd fun n hn => hw n (.inl hn)
  obtain ⟨hl, y, hbd, hy⟩ := d6K ts ids vs' ds' q h5 hrest (fun j t v ht hv' => hv (j + 1) t v (by simpa using ht) (by simpa using hv')) fun n hn => hw n (.inr hn)
  refine ⟨by simp [hl], (x, y), ⟨f9R t x _ hx, hbd⟩, ?_, hy⟩
  refine ⟨_, hx, ?_⟩
  exact e0V hT (by rintro rfl; simp [e0O] at h2) (hv 0 id v rfl rfl)
theorem c0E (hl : laidOutB P = true) {W' : World} (hb : Go.RowKit.Below W.heap.size W W') : ∀ (ts : List Ty) (ids : List TypeId) (vs : List Value) (ds : List (DataW H)) (ps : List MemPlace), d8T P ts ids = true →
  DataW.TrodAll enc P W 0 (fun _ => true) true ids vs ds ps → (∀ x ∈ ps, x.block < W.heap.size) → DataW.TrodAll enc P W' 0 (fun b => decide (b < W.heap.size)) true ids vs ds ps
 | [], [], vs, ds, ps, _, hA, _ => by
  obtain ⟨rfl, rfl, rfl⟩ := Go.ChangeShapes.trodAll_nil hA
  exact Go.ChangeShapes.trodAll_mk0
 | [], _ :: _, _, _, _, h, _, _ => by cases h
 | _ :: _, [], _, _, _, h, _, _ => by cases h
 | t :: ts, id :: ids, vs, ds, ps, h, hA, hlt => by
  simp only [d8T, Bool.and_eq_true] at h
  obtain ⟨_, _, h3, h4, h5⟩ := h
  obtain ⟨v, vs', d, ds', p, q, rfl, rfl, rfl, hd, hrest⟩ := Go.ChangeShapes.trodAll_cons hA
  refine ⟨p, q, Go.RowKit.Below.trod hl h3 (Nat.lt_of_succ_le (Nat.le_of_ble_eq_true h4)) hd hb fun x hx => hlt x (by simp [hx]), ?_, rfl⟩
  exact c0E hl hb ts ids vs' ds' q h5 hrest fun x hx => hlt x (by simp [hx])
theorem g0Y : Start (cx0 W) := by
 have hu : ∀ b, a0J (cx0 W).H b = .unborn := fun b => by simp [cx0, a0J]
 refine ⟨fun b => ?_, fun b b' r h => ?_, fun r hr => ⟨hr, fun b h => ?_⟩⟩
 ·
  unfold BlkOk; rw [hu]; trivial
 ·
  rw [hu] at h; cases h
 ·
  rw [hu] at h; cases h
theorem d9F {C : Checked} {f : FuncId} {fn : Func} {s : ChangeSpec} {ts : List Ty} {bt : TypeId} {F : (⟨ts.map .pl, []⟩ : Tm).D → Option (⟨[.pl .bool], []⟩ : Tm).D}
  (hl : laidOutB C.prog = true) (hfn : C.prog.funcs[f]? = some fn) (hbody : fn.body.isSome = true) (hname : (fn.name == "runtime.NumGoroutine") = false)
  (hargs : d8T C.prog ts fn.params.toList = true) (hres : fn.resultTypes = #[bt]) (hbt : C.prog.underlying bt = some .bool) (hvars : s.vars = [])
  (hs : ∀ ds : List (DataW H), ds.length = ts.length → s.fn H ds = { results := [.lit (.bool true)], args := ds })
  (hcon : a1K C.prog f ⟨⟨ts.map .pl, []⟩, ⟨[.pl .bool], []⟩, F⟩) (hF : ∀ x, f2P ts x → F (x, ()) = some ((true, ()), ()))
  (base : Nat) (args : Array Value) (ds gs : List (DataW H)) (before : List MemPlace)
  (hval : ∀ (j : Nat) t v, fn.params[j]? = some t → args[j]? = some v → Value.okWide C.prog W .any base t v)
  (hW : DataW.Whole enc C.prog fn.params.toList s.vars false W args.toList ds gs before)
  (hsz : (DataW.weightsEach C.prog (fn.params.toList ++ s.plain.varTypes C.prog) (ds ++ gs)).all (· ≤ reachBytes) = true) :
  Calls C.prog f args W fun e W' => ∃ v, e = .returned v ∧ s.post enc C.prog fn false true false false W args v W' := by
 have hW' := hW
 obtain ⟨p, q, hA, hV, rfl, hfz, hnd⟩ := hW
 rw [hvars] at hV
 obtain ⟨rfl, rfl⟩ := Go.ChangeShapes.trodVars_none hV
 have hvt : s.plain.varTypes C.prog = [] := by simp [DataSpec.varTypes, ChangeSpec.plain, hvars]
 rw [hvt, List.append_nil, List.append_nil, List.all_eq_true] at hsz
 obtain ⟨hlen, x, hbd, hx⟩ := d6K (P := C.prog) ts fn.params.toList args.toList ds p hargs hA
  (fun j t v h1 h2 => hval j t v (by rw [← Array.getElem?_toList]; exact h1) (by rw [← Array.getElem?_toList]; exact h2)) fun n hn => of_decide_eq_true (hsz n hn)
 have key := hcon (x, ()) ((true, ()), ()) (hF x hbd) (cx0 W) args.toList g0Y rfl hx
 rw [Array.toArray_toList] at key
 obtain ⟨b, hb⟩ := Option.isSome_iff_exists.1 hbody
 have hent := b2W (args := args) (w := W) hfn hb hname
 rcases key with ⟨v, w', h1, _⟩ | ⟨_, h⟩
 ·
  change (callFunc f args).run C.prog W = _ at h1
  rw [hent] at h1
  cases h1
 ·
  refine h.mono fun e w' hr => ?_
  obtain ⟨v, he, c', hw, hH, hv, hM, _⟩ := hr
  subst he hw
  refine ⟨v, rfl, ?_⟩
  have hown : ∀ r, ¬ c0Q (cx0 W) r := by
   rintro r ⟨b, hb, _⟩
   simp [cx0, a0J, live] at hb
  have bel : Go.RowKit.Below W.heap.size W c'.w := ⟨hM.os, hM.tape, hM.output, hM.size, fun k hk => hM.frame k hk (hown k)⟩
  obtain ⟨cs, hcs, hv⟩ := hv
  have hcs : cs = [.bool true] := hcs
  subst hcs
  have hv : v = .bool true := hv
  subst hv
  have hfnH := hs ds hlen
  refine ⟨ds, [], _, [], p, [], hW', ?_, ?_, ?_, bel.frame _, fun h => by cases h⟩
  ·
   rw [List.append_nil, hfnH, hres]
   exact Go.ChangeShapes.trodAll_mk1 (Go.RowKit.shut_bool hbt _)
  ·
   rw [List.append_nil, hfnH]
   refine c0E hl bel ts _ _ _ _ hargs hA fun x hx => ?_
   exact DataW.TrodAll.lt hA x hx
  ·
   rw [List.append_nil, hfnH, hvars]
   rfl
end
end Sym
