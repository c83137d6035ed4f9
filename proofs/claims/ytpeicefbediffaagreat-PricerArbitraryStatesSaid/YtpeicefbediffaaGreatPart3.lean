/- Every operation that the evaluator answers is answered by the machine. -/
import Derived.Laws.Sem
import Derived.Test.YtpeicefbediffaaGreatPart2
import Derived.Test.YtpeicefbediffaaGreatPart1
namespace Sym
open Go
structure EnvOk (E : Env) : Prop where
 ty : ∀ id t, E.ty id = some t → TI E.P id t
 eqT : ∀ id t, E.eqT id = some t → EqI E.P id t
 con : ∀ f C, E.how f = some (.con C) → a1K E.P f C
 fresh : ∀ f C, E.how f = some (.fresh C) → b8I E.P f C
 mixed : E.P.follows .mixedOrders = true
 meth : ∀ t name f d, E.meth t name = some (f, d) → c2W E.P t name f d
def g5Q (E : Env) (o : Oper) (args : List PV) (rd : List Nat) (H : List Blk) (nb : Nat) (pv : PV) (δ : List (Nat × Blk)) : Prop :=
 ∀ (base : World) (G0 own0 : Nat → Prop) (a : Act) (c : Cx), Mem base G0 own0 c → Ag H c.H rd → All2 (VOk c) args (o.op.operands.toList.map a.eval) →
  (∀ p ∈ δ, nb ≤ p.1 → a0J c.H p.1 = .unborn) → (∀ p ∈ δ, p.1 < nb → a0J c.H p.1 = a0J H p.1) → a4B E.P base G0 own0 o a c pv δ
section
variable {E : Env} {R : Type} {T : R → Prop} {fail : R} {o : Oper} {args : List PV} {H : List Blk} {nb : Nat} {K : PV → List (Nat × Blk) → R}
abbrev d8F (E : Env) (T : R → Prop) (o : Oper) (args : List PV) (rd : List Nat) (H : List Blk) (nb : Nat) (K : PV → List (Nat × Blk) → R) : Prop := ∃ pv δ, T (K pv δ) ∧ g5Q E o args rd H nb pv δ
abbrev c3A (E : Env) (T : R → Prop) (o : Oper) (args : List PV) (H : List Blk) (nb : Nat) (K : PV → List (Nat × Blk) → R) : Prop := d8F E T o args (a8T args) H nb K
theorem b2P (hf : ¬ T fail) {b : Bool} {r : R} (h : T (obl fail b r)) : b = true ∧ T r := by
 cases b
 ·
  exact absurd h hf
 ·
  exact ⟨rfl, h⟩
theorem f7B (hf : ¬ T fail) {x : Operand} (ho : o.op = .move x) (h : T (b0K E fail o args H nb K)) : d8F E T o args [] H nb K := by
 simp only [b0K, ho] at h
 split at h
 ·
  refine ⟨_, _, h, fun base G0 own0 a c hM hag ha hn _ => c7L hM (.inl ho) ?_⟩
  rw [ho] at ha; exact ha.1
 ·
  exact absurd h hf
theorem e4R (hf : ¬ T fail) {x : Operand} (ho : o.op = .assign x) (h : T (b0K E fail o args H nb K)) : d8F E T o args [] H nb K := by
 simp only [b0K, ho] at h
 split at h
 ·
  rename_i t h1 h2
  have hx : x = .const (.slice none 0 0) := by
   unfold isNil at h1
   split at h1
   ·
    rfl
   ·
    cases h1
  subst hx
  exact ⟨_, _, h, fun base G0 own0 a c hM hag ha hn _ => c6U hM (hn (nb, .row t []) (by simp) (Nat.le_refl _)) t ho⟩
 ·
  split at h
  ·
   refine ⟨_, _, h, fun base G0 own0 a c hM hag ha hn _ => c7L hM (.inr ho) ?_⟩
   rw [ho] at ha; exact ha.1
  ·
   exact absurd h hf
theorem f9K (hf : ¬ T fail) {x y z : Operand} (ho : o.op = .pick x y z) (h : T (b0K E fail o args H nb K)) : c3A E T o args H nb K := by
 simp only [b0K, ho] at h
 split at h
 ·
  refine ⟨_, _, h, fun base G0 own0 a c hM hag ha hn _ => ?_⟩
  rw [ho] at ha
  exact c9P hM ho ha.1 ha.2.1 ha.2.2.1
 ·
  rename_i p u v _
  cases hp : (show Bool from p) with
  | true =>
   simp only [hp, brn, cond_true] at h
   refine ⟨_, _, h, fun base G0 own0 a c hM hag ha hn _ => ?_⟩
   rw [ho] at ha
   exact d5O hM ho ha.1 (fun _ => ha.2.1) (fun h => by cases h)
  | false =>
   simp only [hp, brn, cond_false] at h
   refine ⟨_, _, h, fun base G0 own0 a c hM hag ha hn _ => ?_⟩
   rw [ho] at ha
   exact d5O hM ho ha.1 (fun h => by cases h) (fun _ => ha.2.2.1)
 ·
  exact absurd h hf
theorem f3T (hE : EnvOk E) (hf : ¬ T fail) {id : TypeId} (ho : o.op = .alloc id) (h : T (b0K E fail o args H nb K)) : c3A E T o args H nb K := by
 simp only [b0K, ho] at h
 split at h
 ·
  rename_i t ht
  split at h
  ·
   rename_i hz
   simp only [Bool.and_eq_true, Bool.not_eq_true'] at hz
   split at h
   ·
    refine ⟨_, _, h, fun base G0 own0 a c hM hag ha hn _ => e2B hM ho (hE.ty _ _ ht) hz.1 ?_ (hn _ (List.mem_singleton.2 rfl) (Nat.le_refl _))⟩
    rintro rfl; exact absurd hz.2 (by simp [Ty.isOpq])
   ·
    refine ⟨_, _, h, fun base G0 own0 a c hM hag ha hn _ => c9C hM ho (hE.ty _ _ ht) hz.1 ?_ (fun p hp => ?_) ?_⟩
    ·
     rintro rfl; exact absurd hz.2 (by simp [Ty.isOpq])
    ·
     exact hn p (List.mem_append_left _ hp) (c0Z _ _ _ p hp).1
    ·
     exact hn _ (List.mem_append_right _ (List.mem_singleton.2 rfl)) (Nat.le_add_right _ _)
  ·
   exact absurd h hf
 ·
  exact absurd h hf
theorem c5H (hE : EnvOk E) (hf : ¬ T fail) {id : TypeId} {x : Operand} (ho : o.op = .makeInterface id x) (h : T (b0K E fail o args H nb K)) : d8F E T o args [] H nb K := by
 simp only [b0K, ho] at h
 split at h
 ·
  rename_i t v ht
  split at h
  ·
   rename_i hp
   refine ⟨_, _, h, fun base G0 own0 a c hM hag ha hn _ => ?_⟩
   rw [ho] at ha
   exact c1R hM ho (hE.ty _ _ ht).ok hp ha.1
  ·
   exact absurd h hf
 ·
  exact absurd h hf
theorem d1P (hE : EnvOk E) (hf : ¬ T fail) {x : Operand} {xt id : TypeId} {ok : Bool} (ho : o.op = .typeAssert x xt id ok) (h : T (b0K E fail o args H nb K)) : c3A E T o args H nb K := by
 simp only [b0K, ho] at h
 split at h
 ·
  rename_i t u v ht
  split at h
  ·
   rename_i hb
   have hb := Nat.eq_of_beq_eq_true hb
   subst hb
   cases ok with
   | true =>
    refine ⟨_, _, h, fun base G0 own0 a c hM hag ha hn _ => ?_⟩
    rw [ho] at ha
    exact b9C hM ho (hE.ty _ _ ht).ok ha.1
   | false =>
    refine ⟨_, _, h, fun base G0 own0 a c hM hag ha hn _ => ?_⟩
    rw [ho] at ha
    exact b9C hM ho (hE.ty _ _ ht).ok ha.1
  ·
   exact absurd h hf
 ·
  exact absurd h hf
theorem d9J (hf : ¬ T fail) {fn : Fn} {first caps : Array Operand} (ho : o.op = .makeFunc fn first caps) (h : T (b0K E fail o args H nb K)) : c3A E T o args H nb K := by
 cases fn with
 | func f =>
  simp only [b0K, ho] at h
  split at h
  ·
   rename_i hc
   simp only [Bool.and_eq_true] at hc
   refine ⟨_, _, h, fun base G0 own0 a c hM hag ha hn _ => ?_⟩
   rw [ho] at ha
   exact d1U hM ho (Nat.eq_of_beq_eq_true hc.1) hc.2 ha
  ·
   exact absurd h hf
 | _ => simp only [b0K, ho] at h; exact absurd h hf
theorem g7C (hf : ¬ T fail) {id : TypeId} {x : Operand} (ho : o.op = .box id x) (h : T (b0K E fail o args H nb K)) : c3A E T o args H nb K := by
 simp only [b0K, ho] at h
 split at h
 ·
  rename_i t v ht
  split at h
  ·
   rename_i hz
   refine ⟨_, _, h, fun base G0 own0 a c hM hag ha hn _ => ?_⟩
   rw [ho] at ha
   exact f1Z hM ho ha.1 hz (hn _ (List.mem_singleton.2 rfl) (Nat.le_refl _))
  ·
   exact absurd h hf
 ·
  exact absurd h hf
theorem f1U (hE : EnvOk E) (hf : ¬ T fail) {id : TypeId} {ps : Array (Nat × Operand)} (ho : o.op = .build id ps) (h : T (b0K E fail o args H nb K)) : c3A E T o args H nb K := by
 simp only [b0K, ho] at h
 split at h
 ·
  rename_i t ht
  split at h
  ·
   rename_i hz
   simp only [Bool.and_eq_true] at hz
   split at h
   ·
    rename_i v hv
    split at h
    ·
     refine ⟨_, _, h, fun base G0 own0 a c hM hag ha hn _ => ?_⟩
     rw [ho] at ha
     exact d2G hM ho (hE.ty _ _ ht) hz.1 hz.2 (by simpa [Op.operands, List.map_map, Function.comp_def] using ha) hv
    ·
     refine ⟨_, _, h, fun base G0 own0 a c hM hag ha hn _ => ?_⟩
     rw [ho] at ha
     have hb := d2G hM ho (hE.ty _ _ ht) hz.1 hz.2 (by simpa [Op.operands, List.map_map, Function.comp_def] using ha) hv
     cases hpl : b5Z v with
     | true => exact e0I t hpl (fun p hp => hn p hp (c0Z t v nb p hp).1) hb
     | false =>
      have hno : (a3A t v nb) = (v, []) := by
       cases v with
       | tup a => cases t <;> rfl
       | undef => cases t <;> rfl
       | _ => cases hpl
      rw [hno]; exact hb
   ·
    exact absurd h hf
  ·
   split at h
   ·
    rename_i n u _
    split at h
    ·
     rename_i hq
     split at h
     ·
      rename_i x lent hv
      refine ⟨_, _, h, fun base G0 own0 a c hM hag ha hn _ => ?_⟩
      rw [ho] at ha
      have hv := (c7A (H := H) (H' := c.H) u _ _ (e1I _ args hag)).trans hv
      exact d2K hM ho (hE.ty _ _ ht) hq (by simpa [Op.operands, List.map_map, Function.comp_def] using ha) hv
     ·
      exact absurd h hf
    ·
     exact absurd h hf
   ·
    exact absurd h hf
 ·
  exact absurd h hf
theorem d1J (hE : EnvOk E) (hf : ¬ T fail) {id : TypeId} {n : Nat} {ps : Array (Nat × Operand)} (ho : o.op = .buildSlice id n ps) (h : T (b0K E fail o args H nb K)) : c3A E T o args H nb K := by
 simp only [b0K, ho] at h
 split at h
 ·
  rename_i t ht
  split at h
  ·
   rename_i hz
   simp only [Bool.and_eq_true] at hz
   split at h
   ·
    rename_i l lent hv
    obtain ⟨hb, h⟩ := b2P hf h
    refine ⟨_, _, h, fun base G0 own0 a c hM hag ha hn _ => ?_⟩
    rw [ho] at ha
    rw [← c7E t _ _ (e1I _ args hag)] at hv
    exact c6L hM ho (hE.ty _ _ ht) hz.1 (Nat.le_of_ble_eq_true hz.2) (by simpa [Op.operands, List.map_map, Function.comp_def] using ha) hv hb (hn (nb, .row t l) (by simp) (Nat.le_refl _))
   ·
    exact absurd h hf
  ·
   exact absurd h hf
 ·
  exact absurd h hf
theorem f4U (hE : EnvOk E) (hf : ¬ T fail) {id : TypeId} {x : Operand} (ho : o.op = .load id x) (h : T (b0K E fail o args H nb K)) : c3A E T o args H nb K := by
 simp only [b0K, ho] at h
 split at h
 ·
  rename_i t b p ht
  split at h
  ·
   rename_i s v hb
   split at h
   ·
    rename_i hti
    split at h
    ·
     rename_i u hu
     refine ⟨_, _, h, fun base G0 own0 a c hM hag ha hn _ => ?_⟩
     rw [ho] at ha
     have hag : a0J c.H b = a0J H b := hag b (by simp [a8T, b5T])
     exact d1Q hM ho (hE.ty _ _ ht).ok ha.1 (hag.trans hb) hti hu
    ·
     exact absurd h hf
   ·
    exact absurd h hf
  ·
   rename_i s l hb
   split at h
   ·
    rename_i i p
    split at h
    ·
     rename_i hti
     split at h
     ·
      rename_i u hu
      refine ⟨_, _, h, fun base G0 own0 a c hM hag ha hn _ => ?_⟩
      rw [ho] at ha
      have hag : a0J c.H b = a0J H b := hag b (by simp [a8T, b5T])
      exact d2R hM ho (hE.ty _ _ ht).ok ha.1 (hag.trans hb) hti hu
     ·
      exact absurd h hf
    ·
     exact absurd h hf
   ·
    exact absurd h hf
  ·
   exact absurd h hf
 ·
  rename_i t u y ht
  split at h
  ·
   rename_i hb
   have := Ty.beq_eq hb
   subst this
   refine ⟨_, _, h, fun base G0 own0 a c hM hag ha hn _ => ?_⟩
   rw [ho] at ha
   exact c9L hM ho (hE.ty _ _ ht).ok ha.1
  ·
   exact absurd h hf
 ·
  exact absurd h hf
theorem f2T (hE : EnvOk E) (hf : ¬ T fail) {id : TypeId} {x y : Operand} (ho : o.op = .store id x y) (h : T (b0K E fail o args H nb K)) : c3A E T o args H nb K := by
 simp only [b0K, ho] at h
 split at h
 ·
  rename_i t b p v ht
  split at h
  ·
   rename_i hfit
   split at h
   ·
    rename_i s u hb
    split at h
    ·
     rename_i hti
     split at h
     ·
      rename_i u' hu
      refine ⟨_, _, h, fun base G0 own0 a c hM hag ha hn _ => ?_⟩
      rw [ho] at ha
      have hag : a0J c.H b = a0J H b := hag b (by simp [a8T, b5T])
      exact c8V hM ho (hE.ty _ _ ht).ok ha.1 ha.2.1 hfit (hag.trans hb) hti hu
     ·
      exact absurd h hf
    ·
     exact absurd h hf
   ·
    rename_i s l hb
    split at h
    ·
     rename_i i p
     split at h
     ·
      rename_i hti
      split at h
      ·
       rename_i yv lent hv
       split at h
       ·
        rename_i z hz hnl
        refine ⟨_, _, h, fun base G0 own0 a c hM hag ha hn _ => ?_⟩
        rw [ho] at ha
        have hag1 : a0J c.H b = a0J H b := hag b (by simp [a8T, b5T])
        rw [← b3M (H' := c.H) t v (fun i hi => hag i (by simp [a8T, hi]))] at hv
        refine d0L hM ho (hE.ty _ _ ht).ok ha.1 ha.2.1 hfit (hag1.trans hb) hti hv (fun hm => ?_) hz
        rw [List.any_eq_false] at hnl
        exact hnl b hm (Nat.beq_refl b)
       ·
        exact absurd h hf
      ·
       exact absurd h hf
     ·
      exact absurd h hf
    ·
     exact absurd h hf
   ·
    exact absurd h hf
  ·
   exact absurd h hf
 ·
  exact absurd h hf
theorem d9E (hf : ¬ T fail) {x : Operand} (ho : o.op = .nilCheck x) (h : T (b0K E fail o args H nb K)) : c3A E T o args H nb K := by
 simp only [b0K, ho] at h
 split at h
 ·
  split at h
  ·
   exact absurd h hf
  ·
   rename_i hn
   refine ⟨_, _, h, fun base G0 own0 a c hM hag ha _ _ => ?_⟩
   rw [ho] at ha
   exact d1E hM ho hn ha.1
 ·
  exact absurd h hf
theorem e0T (hE : EnvOk E) (hf : ¬ T fail) {s d : TypeId} {x : Operand} (ho : o.op = .convert s d x) (h : T (b0K E fail o args H nb K)) : c3A E T o args H nb K := by
 simp only [b0K, ho] at h
 split at h
 ·
  rename_i k0 l k i hs hd
  refine ⟨_, _, h, fun base G0 own0 a c hM hag ha _ _ => ?_⟩
  rw [ho] at ha
  exact d4M hM ho (hE.ty _ _ hs).ok (hE.ty _ _ hd).ok ha.1
 ·
  rename_i y hs hd
  refine ⟨_, _, h, fun base G0 own0 a c hM hag ha _ _ => ?_⟩
  rw [ho] at ha
  exact d3C hM ho (hE.ty _ _ hs).ok (hE.ty _ _ hd).ok ha.1
 ·
  rename_i y hs hd
  split at h
  ·
   rename_i l lent hv
   refine ⟨_, _, h, fun base G0 own0 a c hM hag ha _ _ => ?_⟩
   rw [ho] at ha
   exact c6P hM ho (hE.ty _ _ hs).ok (hE.ty _ _ hd).ok ((b3M _ _ hag.left).trans hv) ha.1
  ·
   exact absurd h hf
 ·
  exact absurd h hf
theorem e2U (hf : ¬ T fail) {x : Operand} {i : Nat} (ho : o.op = .extract x i) (h : T (b0K E fail o args H nb K)) : d8F E T o args [] H nb K := by
 simp only [b0K, ho] at h
 split at h
 ·
  split at h
  ·
   rename_i hu
   refine ⟨_, _, h, fun base G0 own0 a c hM hag ha _ _ => ?_⟩
   rw [ho] at ha
   exact d3M hM ho ha.1 hu
  ·
   exact absurd h hf
 ·
  exact absurd h hf
theorem d3W (hE : EnvOk E) (hf : ¬ T fail) {id : TypeId} {x y : Operand} (ho : o.op = .makeSlice id x y) (h : T (b0K E fail o args H nb K)) : c3A E T o args H nb K := by
 simp only [b0K, ho] at h
 split at h
 ·
  rename_i t k n l m ht
  split at h
  ·
   rename_i hq
   obtain ⟨h1, h⟩ := b2P hf h
   obtain ⟨h2, h⟩ := b2P hf h
   refine ⟨_, _, h, fun base G0 own0 a c hM hag ha hn _ => ?_⟩
   rw [ho] at ha
   exact c9X hM ho (hE.ty _ _ ht) hq h1 h2 ha.1 ha.2.1 (hn _ (List.mem_singleton.2 rfl) (Nat.le_refl _))
  ·
   exact absurd h hf
 ·
  exact absurd h hf
theorem f2G (hE : EnvOk E) (hf : ¬ T fail) {op : BinOp} {id yt : TypeId} {x y : Operand} (ho : o.op = .binOp op id x y yt) (h : T (b0K E fail o args H nb K)) : c3A E T o args H nb K := by
 simp only [b0K, ho] at h
 split at h
 ·
  rename_i u v
  obtain ⟨pv, h1, h2⟩ := e4W (P := E.P) (fun r => T r) hf (K := fun v => K v []) h id (fun t ht => hE.eqT _ _ ht) x y
  refine ⟨pv, [], h1, fun base G0 own0 a c hM hag ha _ _ => ?_⟩
  rw [ho] at ha
  obtain ⟨r, h3, h4⟩ := h2 c.w c _ _ ha.1 ha.2.1
  refine a1F hM (v := r) ?_ h3
  simp only [execOp, ho]
  rw [Sem.run_bind, h4]
  rfl
 ·
  exact absurd h hf
theorem d3H (hE : EnvOk E) (hf : ¬ T fail) {id : TypeId} {x : Operand} {f : Nat} (ho : o.op = .fieldAddr id x f) (h : T (b0K E fail o args H nb K)) : c3A E T o args H nb K := by
 simp only [b0K, ho] at h
 split at h
 ·
  rename_i t b p ht
  split at h
  ·
   rename_i off u hoff
   split at h
   ·
    rename_i hc
    simp only [Bool.and_eq_true] at hc
    refine ⟨_, _, h, fun base G0 own0 a c hM hag ha _ _ => ?_⟩
    rw [ho] at ha
    have hag : a0J c.H b = a0J H b := hag b (by simp [a8T, b5T])
    exact c9H hM ho (hE.ty _ _ ht).ok hoff (Nat.le_of_ble_eq_true hc.2) (by rw [d0D hag]; exact hc.1) ha.1
   ·
    exact absurd h hf
  ·
   exact absurd h hf
 ·
  rename_i t v y ht
  split at h
  ·
   rename_i z off u hz hoff
   split at h
   ·
    rename_i w q hs hg
    obtain ⟨e, rfl⟩ := a6P hz
    refine ⟨_, _, h, fun base G0 own0 a c hM hag ha _ _ => ?_⟩
    rw [ho] at ha
    subst e
    exact c5J hM ho (hE.ty _ _ ht).ok hoff (Nat.le_of_ble_eq_true hs) hg ha.1
   ·
    exact absurd h hf
  ·
   exact absurd h hf
 ·
  exact absurd h hf
theorem f3D (hE : EnvOk E) (hf : ¬ T fail) {id : TypeId} {x : Operand} {f : Nat} (ho : o.op = .field id x f) (h : T (b0K E fail o args H nb K)) : c3A E T o args H nb K := by
 simp only [b0K, ho] at h
 split at h
 ·
  rename_i t v ht
  split at h
  ·
   rename_i q u hfit hoff hg
   refine ⟨_, _, h, fun base G0 own0 a c hM hag ha _ _ => ?_⟩
   rw [ho] at ha
   exact e0B hM ho (hE.ty _ _ ht).ok (off := q.1) (u := q.2) hoff hfit hg ha.1
  ·
   exact absurd h hf
 ·
  exact absurd h hf
theorem d4K (hE : EnvOk E) (hf : ¬ T fail) {id : TypeId} {x y : Operand} (ho : o.op = .indexAddr id x y) (h : T (b0K E fail o args H nb K)) : c3A E T o args H nb K := by
 simp only [b0K, ho] at h
 split at h
 ·
  rename_i n u b p k i ht
  split at h
  ·
   rename_i hp
   obtain ⟨hi, h⟩ := b2P hf h
   refine ⟨_, _, h, fun base G0 own0 a c hM hag ha _ _ => ?_⟩
   rw [ho] at ha
   have hag : a0J c.H b = a0J H b := hag b (by simp [a8T, b5T])
   exact c1O hM ho (hE.ty _ _ ht).ok hi (by rw [d0D hag]; exact hp) ha.1 ha.2.1
  ·
   exact absurd h hf
 ·
  rename_i n u v z k i ht
  split at h
  ·
   rename_i z' hz
   obtain ⟨hi, h⟩ := b2P hf h
   obtain ⟨e, rfl⟩ := a6P hz
   refine ⟨_, _, h, fun base G0 own0 a c hM hag ha _ _ => ?_⟩
   rw [ho] at ha
   subst e
   exact c0A hM ho (hE.ty _ _ ht).ok hi ha.1 ha.2.1
  ·
   exact absurd h hf
 ·
  rename_i u b k i ht
  split at h
  ·
   rename_i s l hb
   split at h
   ·
    rename_i hs
    have := Ty.beq_eq hs
    subst this
    obtain ⟨hi, h⟩ := b2P hf h
    refine ⟨_, _, h, fun base G0 own0 a c hM hag ha _ _ => ?_⟩
    rw [ho] at ha
    have hag : a0J c.H b = a0J H b := hag b (by simp [a8T, b5T])
    exact b9J hM ho (hE.ty _ _ ht).ok (hag.trans hb) hi ha.1 ha.2.1
   ·
    exact absurd h hf
  ·
   exact absurd h hf
 ·
  rename_i u b lo n k i ht
  split at h
  ·
   rename_i s l hb
   split at h
   ·
    rename_i hs
    have := Ty.beq_eq hs
    subst this
    obtain ⟨hi, h⟩ := b2P hf h
    refine ⟨_, _, h, fun base G0 own0 a c hM hag ha _ _ => ?_⟩
    rw [ho] at ha
    have hag : a0J c.H b = a0J H b := hag b (by simp [a8T, b5T])
    exact c2A hM ho (hE.ty _ _ ht).ok (hag.trans hb) hi ha.1 ha.2.1
   ·
    exact absurd h hf
  ·
   exact absurd h hf
 ·
  rename_i u v z k i ht
  split at h
  ·
   rename_i z' hz
   obtain ⟨hi, h⟩ := b2P hf h
   obtain ⟨e, rfl⟩ := a6P hz
   refine ⟨_, _, h, fun base G0 own0 a c hM hag ha _ _ => ?_⟩
   rw [ho] at ha
   subst e
   exact c2B hM ho (hE.ty _ _ ht).ok hi ha.1 ha.2.1
  ·
   exact absurd h hf
 ·
  exact absurd h hf
theorem f2H (hE : EnvOk E) (hf : ¬ T fail) {id : TypeId} {x y : Operand} (ho : o.op = .index id x y) (h : T (b0K E fail o args H nb K)) : c3A E T o args H nb K := by
 simp only [b0K, ho] at h
 split at h
 ·
  rename_i n u v z k i ht
  split at h
  ·
   rename_i z' hz
   obtain ⟨hi, h⟩ := b2P hf h
   obtain ⟨e, rfl⟩ := a6P hz
   refine ⟨_, _, h, fun base G0 own0 a c hM hag ha _ _ => ?_⟩
   rw [ho] at ha
   subst e
   exact c9J hM ho (hE.ty _ _ ht).ok hi ha.1 ha.2.1
  ·
   exact absurd h hf
 ·
  rename_i x k i ht
  obtain ⟨hi, h⟩ := b2P hf h
  refine ⟨_, _, h, fun base G0 own0 a c hM hag ha _ _ => ?_⟩
  rw [ho] at ha
  exact c9Z hM ho (hE.ty _ _ ht).ok hi ha.1 ha.2.1
 ·
  exact absurd h hf
theorem f4X (hf : ¬ T fail) {op : UnOp} {id : TypeId} {x : Operand} (ho : o.op = .unOp op id x) (h : T (b0K E fail o args H nb K)) : c3A E T o args H nb K := by
 simp only [b0K, ho] at h
 split at h
 ·
  rename_i u
  obtain ⟨pv, h1, h2⟩ := f0Y (P := E.P) (fun r => T r) hf (K := fun v => K v []) h
  refine ⟨pv, [], h1, fun base G0 own0 a c hM hag ha _ _ => ?_⟩
  rw [ho] at ha
  obtain ⟨r, h3, h4⟩ := h2 c.w c _ ha.1
  refine a1F hM (v := r) ?_ h3
  simp only [execOp, ho]
  rw [Sem.run_bind, h4]
  rfl
 ·
  exact absurd h hf
theorem d1O {c : Cx} {id : Nat} {t : Ty} {x : PV} (ht : E.ty id = some (.sl t)) (hag : Ag H c.H (b5T x)) : d2Z E H id x = a7B c.H x := by
 rw [d5V x hag]; simp only [d2Z, ht]
theorem f1D (hE : EnvOk E) (hf : ¬ T fail) {id : TypeId} {x : Operand} {lo hi mx : Option Operand} (ho : o.op = .slice id x lo hi mx) (h : T (b0K E fail o args H nb K)) : c3A E T o args H nb K := by
 simp only [b0K, ho] at h
 split at h
 ·
  rename_i m0 b kd i kd2 j
  split at h
  ·
   rename_i y0 t s xs ht hbl
   split at h
   ·
    rename_i hs
    have := Ty.beq_eq hs
    subst this
    have ⟨h1, g1⟩ := b2P hf h
    clear h
    have ⟨h2, h⟩ := b2P hf g1
    clear g1
    refine ⟨_, _, h, fun base G0 own0 a c hM hag ha _ _ => ?_⟩
    rw [ho] at ha
    simp only [Op.operands, Array.toList_append, Option.toArray, List.map_append] at ha
    have ha : All2 (VOk c) [.whole b, .val (.int kd) i, .val (.int kd2) j] [a.eval x, a.eval y0, a.eval m0] := by simpa using ha
    have hag : a0J c.H b = a0J H b := hag b (by simp [a8T, b5T])
    exact d0E hM ho (hE.ty _ _ ht).ok (hag.trans hbl) h1 (of_decide_eq_true (show decide _ = true from h2)) ha.1 ha.2.1 ha.2.2.1
   ·
    exact absurd h hf
  ·
   exact absurd h hf
 ·
  rename_i px bs
  split at h
  ·
   rename_i n b1 b2 hb
   have ⟨h1, g1⟩ := b2P hf h
   clear h
   have ⟨h2, h⟩ := b2P hf g1
   clear g1
   have hsp : ∀ (a : Act) (c : Cx), All2 (VOk c) (px :: bs) (o.op.operands.toList.map a.eval) → VOk c px (a.eval x) ∧ All2 (VOk c) bs (lo.toList.map a.eval ++ hi.toList.map a.eval) := by
    intro a c ha
    rw [ho] at ha
    simp only [Op.operands, Array.toList_append, Option.toArray, List.map_append] at ha
    cases lo <;> cases hi <;> (simp at ha ⊢; exact ha)
   split at h
   ·
    rename_i t ht
    refine ⟨_, _, h, fun base G0 own0 a c hM hag ha _ _ => ?_⟩
    have ⟨hx, hbs⟩ := hsp a c ha
    rw [d1O ht hag.left] at hb
    exact c6O hM ho (hE.ty _ _ ht).ok hbs hb h1 h2 hx
   ·
    rename_i t u y ht
    split at h
    ·
     rename_i y' hy
     obtain ⟨e, rfl⟩ := a6P hy
     refine ⟨_, _, h, fun base G0 own0 a c hM hag ha _ _ => ?_⟩
     have ⟨hx, hbs⟩ := hsp a c ha
     subst e
     rw [d1O ht hag.left] at hb
     exact c8O hM ho (hE.ty _ _ ht).ok hbs hb h1 h2 hx
    ·
     exact absurd h hf
   ·
    rename_i t b ht
    split at h
    ·
     rename_i s l hbl
     split at h
     ·
      rename_i hs
      have := Ty.beq_eq hs
      subst this
      split at h
      ·
       rename_i hown
       simp only [Bool.and_eq_true, Bool.not_eq_true'] at hown
       have hlo : lo = none := by cases lo <;> first | rfl | cases hown.2
       subst hlo
       refine ⟨_, _, h, fun base G0 own0 a c hM hag ha hn _ => ?_⟩
       have ⟨hx, hbs⟩ := hsp a c ha
       rw [d1O ht hag.left] at hb
       have hag : a0J c.H b = a0J H b := hag b (by simp [a8T, b5T])
       exact c9E hM ho (hE.ty _ _ ht).ok hbs (hag.trans hbl) hb h1 h2 hx (hn (nb, .row s (a6E l 0 b2.2)) (by simp) (Nat.le_refl _))
      ·
       refine ⟨_, _, h, fun base G0 own0 a c hM hag ha _ _ => ?_⟩
       have ⟨hx, hbs⟩ := hsp a c ha
       rw [d1O ht hag.left] at hb
       have hag : a0J c.H b = a0J H b := hag b (by simp [a8T, b5T])
       exact c5V hM ho (hE.ty _ _ ht).ok hbs (hag.trans hbl) hb h1 h2 hx
     ·
      exact absurd h hf
    ·
     exact absurd h hf
   ·
    rename_i t b s k ht
    split at h
    ·
     rename_i u l hbl
     split at h
     ·
      rename_i hs
      have := Ty.beq_eq hs
      subst this
      refine ⟨_, _, h, fun base G0 own0 a c hM hag ha _ _ => ?_⟩
      have ⟨hx, hbs⟩ := hsp a c ha
      rw [d1O ht hag.left] at hb
      have hag : a0J c.H b = a0J H b := hag b (by simp [a8T, b5T])
      exact c8Y hM ho (hE.ty _ _ ht).ok hbs (hag.trans hbl) hb h1 h2 hx
     ·
      exact absurd h hf
    ·
     exact absurd h hf
   ·
    rename_i m t b p ht
    split at h
    ·
     rename_i hc
     simp only [Bool.and_eq_true] at hc
     split at h
     ·
      rename_i s v0 hbl
      refine ⟨_, _, h, fun base G0 own0 a c hM hag ha _ _ => ?_⟩
      have ⟨hx, hbs⟩ := hsp a c ha
      have hag : a0J c.H b = a0J H b := hag b (by simp [a8T, b5T])
      have hb : a8B (some m) lo.isSome hi.isSome bs = some (n, b1, b2) := by simpa only [d2Z, ht] using hb
      exact c8R hM ho (hE.ty _ _ ht).ok hbs (hag.trans hbl) (by rw [d0D hag]; exact hc.1) (Nat.le_of_ble_eq_true hc.2) hb h1 h2 hx
     ·
      exact absurd h hf
    ·
     exact absurd h hf
   ·
    rename_i y ht
    refine ⟨_, _, h, fun base G0 own0 a c hM hag ha _ _ => ?_⟩
    have ⟨hx, hbs⟩ := hsp a c ha
    have hb : a8B (some (a0O y)) lo.isSome hi.isSome bs = some (n, b1, b2) := by simpa only [d2Z, ht, a7B] using hb
    exact c8S hM ho (hE.ty _ _ ht).ok hbs hb h1 h2 hx
   ·
    exact absurd h hf
  ·
   exact absurd h hf
 ·
  exact absurd h hf
theorem b2O {k : Call} {b : Builtin} (hk : k.callee = .builtin b) (a : Act) : (Op.call k).operands.toList.map a.eval = k.args.toList.map a.eval := by
 simp [Op.operands, Call.operands, hk]
theorem b6P {c : Cx} {x y : PV} {l : Array Operand} {a : Act} (h : All2 (VOk c) [x, y] (l.toList.map a.eval)) : ∃ p q, l = #[p, q] ∧ VOk c x (a.eval p) ∧ VOk c y (a.eval q) := by
 obtain ⟨l⟩ := l
 match l, h with
 | [p, q], h => exact ⟨p, q, rfl, h.1, h.2.1⟩
 | [], h => exact h.elim
 | [_], h => exact h.2.elim
 | _ :: _ :: _ :: _, h => exact h.2.2.elim
theorem e6A {c : Cx} {x : PV} {l : Array Operand} {a : Act} (h : All2 (VOk c) [x] (l.toList.map a.eval)) : ∃ p, l = #[p] ∧ VOk c x (a.eval p) := by
 obtain ⟨l⟩ := l
 match l, h with
 | [p], h => exact ⟨p, rfl, h.1⟩
 | [], h => exact h.elim
 | _ :: _ :: _, h => exact h.2.elim
theorem g6B (hE : EnvOk E) (hf : ¬ T fail) {k : Call} (ho : o.op = .call k) (hk : k.callee = .builtin .len) (h : T (b0K E fail o args H nb K)) : c3A E T o args H nb K := by
 simp only [b0K, ho, hk] at h
 split at h
 ·
  rename_i px t ht hsz
  split at h
  ·
   rename_i n hn
   refine ⟨_, _, h, fun base G0 own0 a c hM hag ha _ _ => ?_⟩
   rw [ho, b2O hk] at ha
   obtain ⟨x, hargs, hx⟩ := e6A ha
   have hat : k.argTypes[0]? = some (k.argTypes.getD 0 0) := by
    have h0 : 0 < k.argTypes.size := Nat.le_of_ble_eq_true hsz
    simp [Array.getElem?_eq_getElem h0]
   have hok := (hE.ty _ _ ht).ok
   have hlag : a7B c.H px = a7B H px := d5V px (fun b hb => hag b (by simp [a8T, hb]))
   have hstr : b4Z px = true ↔ ∃ l, px = .val .str l := by
    constructor
    ·
     intro h
     unfold b4Z at h
     split at h
     ·
      exact ⟨_, rfl⟩
     ·
      cases h
    ·
     rintro ⟨l, rfl⟩; rfl
   unfold lenOf at hn
   split at hn
   ·
    split at hn
    ·
     rename_i hle
     simp only [Option.some.injEq] at hn
     subst hn
     exact d4Z hM ho hk hargs hat hok (Nat.le_of_ble_eq_true hle)
    ·
     cases hn
   ·
    split at hn
    ·
     cases hn
    ·
     rename_i hs
     refine e0Q hM ho hk hargs hat hok (.inl ⟨_, rfl⟩) ⟨fun h => (by cases h), fun h => ?_⟩ (hlag.trans hn) hx
     rw [hstr.2 h] at hs; cases hs
   ·
    split at hn
    ·
     rename_i hs
     exact e0Q hM ho hk hargs hat hok (.inr rfl) ⟨fun _ => hstr.1 hs, fun _ => rfl⟩ (hlag.trans hn) hx
    ·
     cases hn
   ·
    cases hn
  ·
   exact absurd h hf
 ·
  exact absurd h hf
theorem g7O (hf : ¬ T fail) {k : Call} (ho : o.op = .call k) (hk : k.callee = .builtin .min) (h : T (b0K E fail o args H nb K)) : c3A E T o args H nb K := by
 simp only [b0K, ho, hk] at h
 split at h
 ·
  rename_i kd p l q
  split at h
  ·
   rename_i q' hq
   obtain ⟨e, rfl⟩ := a6P hq
   injection e with e
   subst e
   refine ⟨_, _, h, fun base G0 own0 a c hM hag ha _ _ => ?_⟩
   rw [ho, b2O hk] at ha
   obtain ⟨x, y, hargs, hx, hy⟩ := b6P ha
   exact f6S hM ho hk hargs hx hy
  ·
   exact absurd h hf
 ·
  exact absurd h hf
theorem g8A (hf : ¬ T fail) {k : Call} (ho : o.op = .call k) (hk : k.callee = .builtin .max) (h : T (b0K E fail o args H nb K)) : c3A E T o args H nb K := by
 simp only [b0K, ho, hk] at h
 split at h
 ·
  rename_i kd p l q
  split at h
  ·
   rename_i q' hq
   obtain ⟨e, rfl⟩ := a6P hq
   injection e with e
   subst e
   refine ⟨_, _, h, fun base G0 own0 a c hM hag ha _ _ => ?_⟩
   rw [ho, b2O hk] at ha
   obtain ⟨x, y, hargs, hx, hy⟩ := b6P ha
   exact f6C hM ho hk hargs hx hy
  ·
   exact absurd h hf
 ·
  exact absurd h hf
theorem g4G (hE : EnvOk E) (hf : ¬ T fail) {k : Call} (ho : o.op = .call k) {fo : Operand} (hk : k.callee = .value fo) (h : T (b0K E fail o args H nb K)) : c3A E T o args H nb K := by
 simp only [b0K, ho, hk] at h
 split at h
 ·
  rename_i f vs
  have hsp : ∀ (c : Cx) (a : Act), All2 (VOk c) (.fn f :: vs) (o.op.operands.toList.map a.eval) → All2 (VOk c) vs (k.args.toList.map a.eval) ∧ (execOp a.eval o).run E.P c.w = (callFunc f (k.args.toList.map a.eval).toArray).run E.P c.w := by
   intro c a ha
   have ha' : All2 (VOk c) (.fn f :: vs) (a.eval fo :: k.args.toList.map a.eval) := by
    rw [ho] at ha
    simp only [Op.operands, Call.operands, hk] at ha
    simpa using ha
   have hfv : a.eval fo = .func (.func f) #[] ([] : List Value).toArray := by
    obtain ⟨cs, h1, h2⟩ := ha'.1
    simp only [a1A] at h1
    subst h1; exact h2
   refine ⟨ha'.2, ?_⟩
   have := c9F (P := E.P) ho hk hfv c.w
   simpa using this
  split at h
  ·
   rename_i C hC
   obtain ⟨pv, δ, h1, h2⟩ := c7F hf (hE.con _ _ hC) h
   refine ⟨pv, δ, h1, fun base G0 own0 a c hM hag ha hn hag2 => ?_⟩
   obtain ⟨ha', hex⟩ := hsp c a ha
   exact h2 base G0 own0 o a c _ hM (fun b hb => hag b (by simp [a8T, b5T, hb])) ha' hex hn hag2
  ·
   rename_i C hC
   unfold d1A at h
   split at h
   ·
    rename_i hin hout hsh
    split at h
    ·
     rename_i x m hx hl
     unfold optF at h
     split at h
     ·
      rename_i y hy
      refine ⟨_, _, h, fun base G0 own0 a c hM hag ha hn _ => ?_⟩
      obtain ⟨ha', hex⟩ := hsp c a ha
      rw [← d6U hin vs (H' := c.H) (fun b hb => hag b (by simp [a8T, b5T, hb]))] at hx
      exact c9A hM hex (hE.fresh _ _ hC) hin hout hsh ha' (Nat.eq_of_beq_eq_true hl) hx hy
     ·
      exact absurd h hf
    ·
     exact absurd h hf
   ·
    exact absurd h hf
  ·
   exact absurd h hf
 ·
  exact absurd h hf
theorem e5T (hE : EnvOk E) (hf : ¬ T fail) {k : Call} (ho : o.op = .call k) (hk : k.callee = .builtin .append) (h : T (b0K E fail o args H nb K)) : c3A E T o args H nb K := by
 simp only [b0K, ho, hk] at h
 split at h
 ·
  rename_i t px py ht
  split at h
  ·
   rename_i hc
   simp only [Bool.and_eq_true] at hc
   obtain ⟨hq, hsz, ha0, ha1⟩ := hc
   have hat : ∃ id, k.argTypes = #[id, id] ∧ E.ty id = some (.sl t) := by
    have h1 := Nat.eq_of_beq_eq_true ha1
    have h0 := Nat.eq_of_beq_eq_true ha0
    obtain ⟨l⟩ : ∃ l : Array TypeId, l = k.argTypes := ⟨_, rfl⟩
    generalize k.argTypes = l at *
    obtain ⟨l⟩ := l
    match l, h1 with
    | [p, q], _ =>
     simp at h0 ht
     exact ⟨p, by rw [h0], ht⟩
   obtain ⟨id, hat, hid⟩ := hat
   unfold d7B at h
   split at h
   ·
    rename_i ys lent hv
    split at h
    ·
     have ⟨h1, g⟩ := b2P hf h
     refine ⟨_, _, g, fun base G0 own0 a c hM hag ha hn _ => ?_⟩
     rw [ho, b2O hk] at ha
     obtain ⟨x, y, hargs, hx, hy⟩ := b6P ha
     rw [← b3M (H' := c.H) _ py (fun b hb => hag b (by simp [a8T, hb]))] at hv
     exact c4T hM ho hk hargs hat (hE.ty _ _ hid) hq (Nat.le_of_ble_eq_true hsz) hx hy hv h1 (hn (nb, .row t ys) (by simp) (Nat.le_refl _))
    ·
     rename_i b
     split at h
     ·
      rename_i u l hb
      split at h
      ·
       rename_i xs hxs
       obtain ⟨e, rfl⟩ := a6P hxs
       injection e with e
       subst e
       split at h
       ·
        exact absurd h hf
       ·
        rename_i hnl
        have ⟨h1, g⟩ := b2P hf h
        refine ⟨_, _, g, fun base G0 own0 a c hM hag ha hn _ => ?_⟩
        rw [ho, b2O hk] at ha
        obtain ⟨x, y, hargs, hx, hy⟩ := b6P ha
        have hag1 : a0J c.H b = a0J H b := hag b (by simp [a8T, b5T])
        rw [← b3M (H' := c.H) _ py (fun b hb => hag b (by simp [a8T, hb]))] at hv
        exact c6S hM ho hk hargs hat (hE.ty _ _ hid) hq (Nat.le_of_ble_eq_true hsz) (hag1.trans hb) (fun hm => by rw [List.any_eq_false] at hnl; exact hnl b hm (Nat.beq_refl b)) hx hy hv h1 (hn (nb, .row u ((show List u.D from l) ++ (show List u.D from ys))) (by simp) (Nat.le_refl _))
      ·
       exact absurd h hf
     ·
      exact absurd h hf
    ·
     rename_i b n
     split at h
     ·
      rename_i u l hb
      split at h
      ·
       rename_i xs hxs
       obtain ⟨e, rfl⟩ := a6P hxs
       injection e with e
       subst e
       split at h
       ·
        exact absurd h hf
       ·
        rename_i hnl
        have ⟨h1, g⟩ := b2P hf h
        cases h0 : c2R (a0O (show List u.D from ys)) with
        | true =>
         rw [h0] at g
         have g : T (K (.row b 0 n) []) := g
         refine ⟨_, _, g, fun base G0 own0 a c hM hag ha hn _ => ?_⟩
         rw [ho, b2O hk] at ha
         obtain ⟨x, y, hargs, hx, hy⟩ := b6P ha
         have hag1 : a0J c.H b = a0J H b := hag b (by simp [a8T, b5T])
         rw [← b3M (H' := c.H) _ py (fun b hb => hag b (by simp [a8T, hb]))] at hv
         exact c5E hM ho hk hargs hat (hE.ty _ _ hid) (hag1.trans hb) hx hy hv (Nat.eq_of_beq_eq_true h0)
        | false =>
         rw [h0] at g
         have g : T (K (.whole nb) (kill (c2Y u lent) ++ [(nb, .row u (a0G (a6E (show List u.D from l) 0 n) (show List u.D from ys)))])) := g
         refine ⟨_, _, g, fun base G0 own0 a c hM hag ha hn _ => ?_⟩
         rw [ho, b2O hk] at ha
         obtain ⟨x, y, hargs, hx, hy⟩ := b6P ha
         have hag1 : a0J c.H b = a0J H b := hag b (by simp [a8T, b5T])
         rw [← b3M (H' := c.H) _ py (fun b hb => hag b (by simp [a8T, hb]))] at hv
         have hsub : a6E (show List u.D from l) 0 n = (show List u.D from l).take n := by simp [a6E]
         rw [hsub] at h1 hn ⊢
         exact c6N hM ho hk hargs hat (hE.ty _ _ hid) hq (Nat.le_of_ble_eq_true hsz) (hag1.trans hb) (fun hm => by rw [List.any_eq_false] at hnl; exact hnl b hm (Nat.beq_refl b)) hx hy hv (fun e => by rw [show a0O (show List u.D from ys) = 0 from e] at h0; cases h0) h1 (hn (nb, .row u ((show List u.D from l).take n ++ (show List u.D from ys))) (by simp) (Nat.le_refl _))
      ·
       exact absurd h hf
     ·
      exact absurd h hf
    ·
     exact absurd h hf
   ·
    exact absurd h hf
  ·
   exact absurd h hf
 ·
  exact absurd h hf
theorem f7W (hE : EnvOk E) (hf : ¬ T fail) {k : Call} (ho : o.op = .call k) (hk : k.callee = .builtin .copy) (h : T (b0K E fail o args H nb K)) : c3A E T o args H nb K := by
 simp only [b0K, ho, hk] at h
 split at h
 ·
  rename_i t px py ht
  split at h
  ·
   rename_i hc
   have hat : ∃ id id2, k.argTypes = #[id, id2] ∧ E.ty id = some (.sl t) := by
    have h1 := Nat.eq_of_beq_eq_true hc
    obtain ⟨l⟩ : ∃ l : Array TypeId, l = k.argTypes := ⟨_, rfl⟩
    generalize k.argTypes = l at *
    obtain ⟨l⟩ := l
    match l, h1 with
    | [p, q], _ =>
     simp at ht
     exact ⟨p, q, rfl, ht⟩
   obtain ⟨id, id2, hat, hid⟩ := hat
   unfold e7D at h
   split at h
   ·
    rename_i kd b m b2 lo n
    split at h
    ·
     rename_i m' k' v s m2 u z hb hb2
     split at h
     ·
      rename_i z' hz
      split at h
      ·
       rename_i hcond
       simp only [Bool.and_eq_true] at hcond
       obtain ⟨g1, g2, g3, g4, g5⟩ := hcond
       have g1 := Nat.eq_of_beq_eq_true g1
       have g2 := Ty.beq_eq g2
       have g3 := Nat.eq_of_beq_eq_true g3
       have g4 := Nat.le_of_ble_eq_true g4
       have g5 := Nat.le_of_ble_eq_true g5
       subst g1 g3
       injection g2 with g2
       subst g2
       obtain ⟨e, rfl⟩ := a6P hz
       injection e with e1 e2
       subst e2
       refine ⟨_, _, h, fun base G0 own0 a c hM hag ha _ _ => ?_⟩
       rw [ho, b2O hk] at ha
       obtain ⟨x, y, hargs, hx, hy⟩ := b6P ha
       have hag1 : a0J c.H b = a0J H b := hag b (by simp [a8T, b5T])
       have hag2 : a0J c.H b2 = a0J H b2 := hag b2 (by simp [a8T, b5T])
       exact e4G hM ho hk hargs hat (hE.ty _ _ hid) hx hy (hag1.trans hb) (hag2.trans hb2) g4 g5
      ·
       exact absurd h hf
     ·
      exact absurd h hf
    ·
     exact absurd h hf
   ·
    exact absurd h hf
  ·
   exact absurd h hf
 ·
  exact absurd h hf
theorem e2L (hE : EnvOk E) (hf : ¬ T fail) (h : T (b0K E fail o args H nb K)) : d8F E T o args (d8J o args) H nb K := by
 have hno : ∀ {x : Prop}, T fail → x := fun h => absurd h hf
 unfold d8J
 cases ho : o.op with
 | move x => exact f7B hf ho h
 | assign x => exact e4R hf ho h
 | pick x y z => exact f9K hf ho h
 | alloc t => exact f3T hE hf ho h
 | box t x => exact g7C hf ho h
 | build t ps => exact f1U hE hf ho h
 | makeInterface t x => exact c5H hE hf ho h
 | typeAssert x t u ok => exact d1P hE hf ho h
 | makeFunc fn p q => exact d9J hf ho h
 | buildSlice t n ps => exact d1J hE hf ho h
 | load t x => exact f4U hE hf ho h
 | store t x y => exact f2T hE hf ho h
 | nilCheck x => exact d9E hf ho h
 | binOp op t x y u => exact f2G hE hf ho h
 | unOp op t x => exact f4X hf ho h
 | convert s d x => exact e0T hE hf ho h
 | fieldAddr t x f => exact d3H hE hf ho h
 | field t x f => exact f3D hE hf ho h
 | indexAddr t x y => exact d4K hE hf ho h
 | index t x y => exact f2H hE hf ho h
 | slice t x lo hi mx => exact f1D hE hf ho h
 | extract x i => exact e2U hf ho h
 | makeSlice t x y => exact d3W hE hf ho h
 | call k =>
  cases hk : k.callee with
  | value fo => exact g4G hE hf ho hk h
  | invoke r m => simp only [b0K, ho, hk] at h; exact hno h
  | builtin b =>
   cases b with
   | len => exact g6B hE hf ho hk h
   | append => exact e5T hE hf ho hk h
   | copy => exact f7W hE hf ho hk h
   | min => exact g7O hf ho hk h
   | max => exact g8A hf ho hk h
   | _ => simp only [b0K, ho, hk] at h; exact hno h
 | _ => simp only [b0K, ho] at h; exact hno h
end
end Sym

/- What a symbolic state says of the machine's; a region whose operations go in the order of the text. -/
namespace Sym
open Go
structure Rep (base : World) (G0 own0 : Nat → Prop) (sz : Nat) (fr : List (List Value)) (c : Cx) (st : St) (a : Act) : Prop where
 mem : Mem base G0 own0 c
 heap : c.H = st.heap
 slots : All2 (VOk c) st.slots a.tmps.toList
 stk : All2 (All2 (VOk c)) st.stk fr
 size : a.tmps.size = sz
 defers : a.defers = []
theorem All2.mono {X Y : Type} {R S : X → Y → Prop} (h : ∀ a b, R a b → S a b) : ∀ (l : List X) (r : List Y), All2 R l r → All2 S l r
 | [], [], _ => trivial
 | x :: l, y :: r, hh => ⟨h _ _ hh.1, All2.mono h l r hh.2⟩
 | [], _ :: _, hh => hh.elim
 | _ :: _, [], hh => hh.elim
theorem All2.len {X Y : Type} {R : X → Y → Prop} : ∀ {l : List X} {r : List Y}, All2 R l r → l.length = r.length
 | [], [], _ => rfl
 | x :: l, y :: r, h => by simp [All2.len h.2]
 | [], _ :: _, h => h.elim
 | _ :: _, [], h => h.elim
theorem b5Q {c : Cx} : ∀ {vs : List PV} {us : List Value} (t : Nat), All2 (VOk c) vs us → VOk c (a5R vs t) (us.getD t undef)
 | [], [], t, _ => by cases t <;> trivial
 | v :: vs, u :: us, 0, h => h.1
 | v :: vs, u :: us, t + 1, h => by
  have := b5Q t h.2
  simpa [a5R] using this
 | [], _ :: _, _, h => h.elim
 | _ :: _, [], _, h => h.elim
theorem d7M {c : Cx} {v : PV} {u : Value} (hv : VOk c v u) : ∀ {vs : List PV} {us : List Value} (t : Nat), All2 (VOk c) vs us → All2 (VOk c) (setAt vs t v) (us.set t u)
 | [], [], t, _ => trivial
 | _ :: _, _ :: _, 0, h => ⟨hv, h.2⟩
 | _ :: _, _ :: _, t + 1, h => ⟨h.1, d7M hv t h.2⟩
 | [], _ :: _, _, h => h.elim
 | _ :: _, [], _, h => h.elim
theorem getD_toList (a : Array Value) (t : Nat) : a.getD t undef = a.toList.getD t undef := by
 simp [Array.getD_eq_getD_getElem?]
theorem d5T {c : Cx} (vs : List PV) (v : Value) : VOk c (opd vs (.const v)) v := by
 cases v with
 | int k n =>
  simp only [opd]
  split
  ·
   rename_i h
   have h := of_decide_eq_true h
   exact ⟨_, rfl, by show Value.int k n = .int k (k.wrap n); rw [h]⟩
  ·
   trivial
 | bool b => exact ⟨_, rfl, rfl⟩
 | slice ad n cap =>
  unfold opd
  split <;> rename_i heq <;> first
   | trivial
   | (cases heq; done)
   | (cases heq; exact ⟨_, rfl, rfl⟩)
 | pointer ad => cases ad with
  | none => exact ⟨_, rfl, rfl⟩
  | some ad => trivial
 | string s =>
  simp only [opd]
  split
  ·
   rename_i h
   have h := Nat.le_of_ble_eq_true h
   refine ⟨_, ⟨rfl, by show (List.map _ _).length ≤ LIM; rw [List.length_map]; simp only [LIM]; omega⟩, ?_⟩
   show Value.string s = .string (bytesOf _)
   congr 1
   obtain ⟨⟨l⟩⟩ := s
   unfold bytesOf
   congr 1
   simp only [List.map_map]
   apply Array.ext'
   simp only
   symm
   rw [show l = l.map id by simp]
   simp only [List.map_map]
   apply List.map_congr_left
   intro b _
   have hb : b.toNat < 256 := b.toNat_lt
   have : (I.of .u8 (b.toNat : Int)).val = b.toNat := by
    show IntKind.u8.wrap b.toNat = b.toNat
    simp only [IntKind.wrap, IntKind.bits, IntKind.signed, Bool.false_and, Bool.false_eq_true, if_false]
    omega
   simp only [Function.comp_apply, this, id]
   simp
  ·
   trivial
 | _ => trivial
theorem e7Y {c : Cx} {vs : List PV} {a : Act} (h : All2 (VOk c) vs a.tmps.toList) (x : Operand) : VOk c (opd vs x) (a.eval x) := by
 cases x with
 | tmp t => show VOk c (a5R vs t) (a.tmps.getD t undef); rw [getD_toList]; exact b5Q t h
 | const v => exact d5T vs v
 | global g => exact trivial
 | func f => exact ⟨_, rfl, rfl⟩
theorem f1W {c : Cx} {st : St} {a : Act} (h : All2 (VOk c) st.slots a.tmps.toList) (o : Oper) : All2 (VOk c) (a9V o st) (o.op.operands.toList.map a.eval) := by
 unfold a9V
 generalize o.op.operands.toList = l
 induction l with
 | nil => trivial
 | cons x l ih => exact ⟨e7Y h x, ih⟩
theorem d8W (a : Act) (d : Option Tmp) (v : Value) : (a.put d v).tmps.toList = match d with | some d => a.tmps.toList.set d v | none => a.tmps.toList := by
 cases d <;> simp [Act.put]
theorem d7S (a : Act) (d : Option Tmp) (v : Value) : (a.put d v).tmps.size = a.tmps.size := by
 cases d <;> simp [Act.put]
theorem put_defers (a : Act) (d : Option Tmp) (v : Value) : (a.put d v).defers = a.defers := by
 cases d <;> rfl
section
variable {P : Program} {base : World} {G0 own0 : Nat → Prop} {sz : Nat} {fr : List (List Value)}
theorem Rep.put {c c' : Cx} {st : St} {a : Act} (h : Rep base G0 own0 sz fr c st a) (hE : Ext c c') (hM : Mem base G0 own0 c') {pv : PV} {v : Value} {δ : List (Nat × Blk)} (hH : c'.H = a2B c.H δ) (hv : VOk c' pv v) (d : Option Nat) :
  Rep base G0 own0 sz fr c' (st.put d pv δ) (a.put d v) := by
 refine ⟨hM, by rw [hH, h.heap]; rfl, ?_, All2.mono (fun _ _ hl => All2.mono (fun _ _ => c5N hE) _ _ hl) _ _ h.stk, by rw [d7S]; exact h.size, by rw [put_defers]; exact h.defers⟩
 have h1 := All2.mono (fun _ _ => c5N hE) _ _ h.slots
 rw [d8W]
 cases d with
 | none => exact h1
 | some d => exact d7M hv d h1
theorem d6I : ∀ (vs : List PV) (d : Nat), setAt vs d (a5R vs d) = vs
 | [], _ => rfl
 | _ :: _, 0 => rfl
 | v :: vs, d + 1 => by simp [setAt, a5R, d6I vs d]
theorem c9K {c : Cx} : VOk c b9I undef := ⟨[], rfl, rfl⟩
theorem c6W {ops : Array Oper} {g d : Nat} (hd : d0J ops g = some d) (tmps : Array Value) : yielded ops tmps g = match tmps.getD d undef with | .bool b => some b | _ => none := by
 unfold yielded
 unfold d0J at hd
 rw [hd]
 simp only [Option.bind_some]
 cases h : tmps[d]? with
 | none => simp [Array.getD_eq_getD_getElem?, h, undef]
 | some v => simp only [Array.getD_eq_getD_getElem?, h, Option.getD_some]; cases v <;> rfl
def GuardIs (ops : Array Oper) (o : Oper) (f : Nat → PV) (b : Bool) : Prop :=
 ∀ (c : Cx) (tmps : Array Value), (∀ d ∈ o.looksAt ops, VOk c (f d) (tmps.getD d undef)) → Region.wanted o (yielded ops tmps) = b
theorem d2N {R : Type} {T : R → Prop} {fail : R} (hf : ¬ T fail) {ops : Array Oper} {o : Oper} {st : St} {run skip : St → R} (h : T (d6D fail ops o st run skip)) :
  (T (run st) ∧ GuardIs ops o (a5R st.slots) true) ∨ (T (skip st) ∧ GuardIs ops o (a5R st.slots) false) := by
 unfold d6D at h
 split at h
 ·
  rename_i hg
  exact .inl ⟨h, fun c tmps _ => by simp [Region.wanted, hg]⟩
 ·
  rename_i g want hg
  split at h
  ·
   exact absurd h hf
  ·
   rename_i d hd
   have hlook : d ∈ o.looksAt ops := by
    unfold d0J at hd
    simp [Oper.looksAt, hg, hd]
   split at h
   ·
    rename_i p hp
    have hset : ∀ b, p = b → (⟨setAt st.slots d (.val .bool b), st.stk, st.heap⟩ : St) = st := by
     rintro b rfl
     rw [← hp, d6I]
    have hval : ∀ (c : Cx) (tmps : Array Value), (∀ d ∈ o.looksAt ops, VOk c (a5R st.slots d) (tmps.getD d undef)) → yielded ops tmps g = some (show Bool from p) := by
     intro c tmps hok
     have := hok d hlook
     rw [hp] at this
     rw [c6W hd, c6C this]
    cases hpb : (show Bool from p) with
    | true =>
     simp only [hpb, brn, cond_true] at h
     rw [hset true hpb] at h
     cases want with
     | true => exact .inl ⟨h, fun c tmps hok => by simp [Region.wanted, hg, hval c tmps hok, hpb]⟩
     | false => exact .inr ⟨h, fun c tmps hok => by simp [Region.wanted, hg, hval c tmps hok, hpb]⟩
    | false =>
     simp only [hpb, brn, cond_false] at h
     rw [hset false hpb] at h
     cases want with
     | false => exact .inl ⟨h, fun c tmps hok => by simp [Region.wanted, hg, hval c tmps hok, hpb]⟩
     | true => exact .inr ⟨h, fun c tmps hok => by simp [Region.wanted, hg, hval c tmps hok, hpb]⟩
   ·
    rename_i hp
    refine .inr ⟨h, fun c tmps hok => ?_⟩
    have := hok d hlook
    rw [hp] at this
    obtain ⟨vs, e, he⟩ := this
    have : vs = [] := he
    subst this
    simp only [Region.wanted, hg]
    rw [c6W hd, e]
    simp
   ·
    exact absurd h hf
theorem GuardIs.of_rep {ops : Array Oper} {o : Oper} {c : Cx} {st : St} {a : Act} {b : Bool} (h : GuardIs ops o (a5R st.slots) b) (hs : All2 (VOk c) st.slots a.tmps.toList) : Region.wanted o (yielded ops a.tmps) = b :=
 h c a.tmps fun d _ => by rw [getD_toList]; exact b5Q d hs
def g6R (E : Env) (base : World) (G0 own0 : Nat → Prop) (sz : Nat) (fr : List (List Value)) {R : Type} (T : R → Prop) (inl : Nat → FuncId → List PV → St → (PV → St → R) → R) : Prop :=
 ∀ (i : Nat) (f : FuncId) (vs : List PV) (st : St) (next : PV → St → R) (c : Cx) (a : Act) (us : List Value) (Kw : Value → World → Prop), T (inl i f vs st next) → E.how f = some .inl → Rep base G0 own0 sz fr c st a → All2 (VOk c) vs us →
  (∀ pv st' c' v, T (next pv st') → Rep base G0 own0 sz fr c' st' a → VOk c' pv v → Kw v c'.w) →
  (callFunc f us.toArray).run E.P c.w = .ok (.enter f us.toArray) c.w ∧ Calls E.P f us.toArray c.w fun e w' => ∃ v, e = .returned v ∧ Kw v w'
theorem e4S {E : Env} (hE : EnvOk E) {R : Type} {T : R → Prop} {fail : R} (hf : ¬ T fail) {inl : Nat → FuncId → List PV → St → (PV → St → R) → R} (hI : g6R E base G0 own0 sz fr T inl) (ops : Array Oper) {Q : Exit → Act → World → Prop} {K : St → R}
  (hK : ∀ st c a, T (K st) → Rep base G0 own0 sz fr c st a → Q .normal a c.w) : ∀ (l : List Oper) (pre : List Oper) (st : St) (c : Cx) (a : Act), ops.toList = pre ++ l → T (d2M E fail inl ops pre.length l st K) → Rep base G0 own0 sz fr c st a →
  wpOps E.P ops Q (List.range' pre.length l.length) a c.w := by
 intro l
 induction l with
 | nil => intro pre st c a _ h hr; exact hK st c a h hr
 | cons o l ih =>
  intro pre st c a ho h hr
  have hget : ops[pre.length]? = some o := by
   rw [← Array.getElem?_toList, ho]
   simp
  have ho' : ops.toList = (pre ++ [o]) ++ l := by simp [ho]
  have ih := fun st c a h hr => ih (pre ++ [o]) st c a ho' h hr
  simp only [List.length_append, List.length_singleton] at ih
  simp only [List.length_cons, List.range'_succ]
  simp only [wpOps, hget]
  simp only [d2M] at h
  rcases d2N hf h with ⟨h, hg⟩ | ⟨h, hg⟩
  ·
   rw [if_pos (hg.of_rep hr.slots)]
   left
   have ha := f1W hr.slots o
   split at h
   ·
    rename_i f vs hinl
    rw [← hr.heap] at hinl
    obtain ⟨hhow, us, hus, hex⟩ := e5O (fun id t h => (hE.ty id t h).ok) hE.meth hr.mem hinl ha
    obtain ⟨h1, h2⟩ := hI pre.length f vs st _ c a us (fun v w' => wpOps E.P ops Q (List.range' (pre.length + 1) l.length) (a.put o.dst v) w') h hhow hr hus (fun pv st' c' v ht hr' hv => ih _ _ _ ht (hr'.put (Ext.refl c') hr'.mem rfl hv o.dst))
    unfold Oper.wp
    rw [hex, h1]
    refine Calls.mono h2 ?_
    rintro e w' ⟨v, rfl, hv⟩
    exact hv
   ·
    split at h
    ·
     rename_i g C vs hvia
     rw [← hr.heap] at hvia
     obtain ⟨hhow, us, hus, hex⟩ := e4D (fun id t h => (hE.ty id t h).ok) hE.meth hr.mem hvia ha
     obtain ⟨pv, δ, ht, hok⟩ := c7F hf (hE.con _ _ hhow) h
     refine hok base G0 own0 o a c us hr.mem (fun b _ => by rw [hr.heap]) hus hex (fun p _ hp => by rw [hr.heap]; exact b1I _ _ hp) (fun p _ _ => by rw [hr.heap]) _ _ fun v c' hE' hM' hH' hv => ?_
     exact ih _ _ _ ht (hr.put hE' hM' hH' hv o.dst)
    ·
     split at h
     ·
      rename_i op px hnil
      unfold g1Z at hnil
      split at hnil
      ·
       rename_i op' id xo yo yt hop
       split at hnil
       ·
        rename_i px' hargs
        split at hnil
        ·
         rename_i t ht
         simp only [Option.some.injEq, Prod.mk.injEq] at hnil
         obtain ⟨rfl, rfl⟩ := hnil
         rw [hargs, hop] at ha
         have ha : All2 (VOk c) [px', .nils] [a.eval xo, a.eval yo] := ha
         rw [← hr.heap] at h
         obtain ⟨hop2, ad, n, cap, e1, h⟩ := g2O hf hr.mem h ha.1
         have e2 : a.eval yo = .slice none 0 0 := by
          obtain ⟨cs, k1, k2⟩ := ha.2.1
          simp only [a1A] at k1
          subst k1; exact k2
         obtain ⟨_, e, hu, _⟩ := (hE.ty _ _ ht).ok
         refine a1F hr.mem (d8M hu hop hop2 e1 e2 c.w) (b1L _) _ _ fun v c' hE' hM' hH' hv => ?_
         exact ih _ _ _ h (hr.put hE' hM' hH' hv o.dst)
        ·
         cases hnil
       ·
        cases hnil
      ·
       cases hnil
     ·
      obtain ⟨pv, δ, ht, hok⟩ := e2L hE hf h
      refine hok base G0 own0 a c hr.mem (fun b _ => by rw [hr.heap]) ha (fun p _ hp => by rw [hr.heap]; exact b1I _ _ hp) (fun p _ _ => by rw [hr.heap]) _ _ fun v c' hE' hM' hH' hv => ?_
      exact ih _ _ _ ht (hr.put hE' hM' hH' hv o.dst)
  ·
   rw [if_neg (by rw [hg.of_rep hr.slots]; simp)]
   exact ih _ _ _ h (hr.put (Ext.refl c) hr.mem rfl c9K o.dst)
end
end Sym

/- A region whose operations may come in any order that its edges allow. -/
namespace Sym
open Go
section
variable {X : Type} (w : Nat → Nat → Option X) (init : Nat → X)
def b8T (L : Nat → Bool) : Nat → Nat → X
 | 0, k => init k
 | n + 1, k => match L n with
  | true => match w n k with
   | some x => x
   | none => b8T L n k
  | false => b8T L n k
theorem b3U {L L' : Nat → Bool} {k : Nat} : ∀ (n : Nat), (∀ j, j < n → L j ≠ L' j → w j k = none) → b8T w init L n k = b8T w init L' n k
 | 0, _ => rfl
 | n + 1, h => by
  have ih := b3U n fun j hj => h j (by omega)
  simp only [b8T]
  by_cases hn : L n = L' n
  ·
   rw [hn, ih]
  ·
   have := h n (by omega) hn
   rw [this, ih]
   cases L n <;> cases L' n <;> rfl
theorem b9Z {L L' : Nat → Bool} {i k : Nat} (hi : L i = false) (hL' : ∀ j, L' j = if j = i then true else L j) : ∀ (n : Nat), i < n → (∀ j, i < j → j < n → L j = true → w j k = none ∨ w i k = none) →
  b8T w init L' n k = match w i k with | some x => x | none => b8T w init L n k := by
 cases hw : w i k with
 | none =>
  intro n _ _
  refine b3U w init n fun j _ hne => ?_
  by_cases hji : j = i
  ·
   subst hji; exact hw
  ·
   rw [hL', if_neg hji] at hne; exact absurd rfl hne
 | some x =>
  intro n
  induction n with
  | zero => intro h; omega
  | succ n ih =>
   intro hin h
   simp only [b8T]
   by_cases hn : n = i
   ·
    subst hn
    rw [hL', if_pos rfl, hw]
   ·
    have ih := ih (by omega) fun j h1 h2 => h j h1 (by omega)
    simp only at ih
    rw [hL', if_neg hn]
    cases hLn : L n with
    | false => exact ih
    | true =>
     have := (h n (by omega) (by omega) hLn).resolve_right (by simp)
     simp only [this]
     exact ih
end
def lk : List (Nat × Blk) → Nat → Option Blk
 | [], _ => none
 | (i, x) :: l, b => match lk l b with
  | some y => some y
  | none => if b = i then some x else none
theorem c1H : ∀ (δ : List (Nat × Blk)) (H : List Blk) (b : Nat), a0J (a2B H δ) b = match lk δ b with | some x => x | none => a0J H b
 | [], _, _ => rfl
 | (i, x) :: l, H, b => by
  simp only [a2B, lk]
  rw [c1H l]
  cases h : lk l b with
  | some y => rfl
  | none =>
   simp only
   rw [a4Q]
   split
   ·
    rfl
   ·
    rfl
theorem c8P : ∀ (δ : List (Nat × Blk)) (b : Nat), b ∉ δ.map (·.1) → lk δ b = none
 | [], _, _ => rfl
 | (i, x) :: l, b, h => by
  simp only [List.map_cons, List.mem_cons, not_or] at h
  simp only [lk]
  rw [c8P l b h.2]
  simp [h.1]
def g4J (l r : List Nat) : Prop := ∀ x, x ∈ l → x ∉ r
def f6B (m : Nat) (e : Ent) (rd wr : List Nat) : Prop := m.testBit e.i = true ∨ (g4J e.wr rd ∧ g4J e.wr wr ∧ g4J e.rd wr)
theorem d6S : ∀ (b : Nat) (l : List Nat), e3X b l = true ↔ b ∈ l
 | b, [] => by simp [e3X]
 | b, c :: l => by simp [e3X, d6S b l, Nat.beq_eq]
theorem d0K : ∀ (l r : List Nat), f4H l r = true → g4J l r
 | [], r, _, x, hx => by simp at hx
 | b :: l, r, h, x, hx => by
  simp only [f4H, Bool.and_eq_true, Bool.not_eq_true'] at h
  simp only [List.mem_cons] at hx
  rcases hx with rfl | hx
  ·
   intro hr; rw [(d6S x r).2 hr] at h; cases h.1
  ·
   exact d0K l r h.2 x hx
theorem d6B : ∀ (log : List Ent) (m : Nat) (rd wr : List Nat), e5M m rd wr log = true → ∀ e ∈ log, f6B m e rd wr
 | [], _, _, _, _, e, he => by simp at he
 | e0 :: log, m, rd, wr, h, e, he => by
  simp only [e5M, Bool.and_eq_true, Bool.or_eq_true] at h
  simp only [List.mem_cons] at he
  rcases he with rfl | he
  ·
   exact h.1.imp id fun h => ⟨d0K _ _ h.1, d0K _ _ h.2.1, d0K _ _ h.2.2⟩
  ·
   exact d6B log m rd wr h.2 e he
theorem d2B : ∀ (l : List Oper) (acc : List Nat), ∃ r, masks l acc = acc ++ r
 | [], acc => ⟨[], by simp [masks]⟩
 | o :: l, acc => by
  obtain ⟨r, hr⟩ := d2B l (acc ++ [c2M acc o])
  exact ⟨c2M acc o :: r, by simp [masks, hr]⟩
theorem d1W : ∀ (l : List Oper) (acc : List Nat) (j : Nat) (o : Oper), l[j]? = some o → (masks l acc).getD (acc.length + j) 0 = c2M ((masks l acc).take (acc.length + j)) o
 | [], _, _, _, h => by simp at h
 | o0 :: l, acc, 0, o, h => by
  simp only [List.getElem?_cons_zero, Option.some.injEq] at h
  subst h
  obtain ⟨r, hr⟩ := d2B l (acc ++ [c2M acc o0])
  simp only [masks, hr]
  simp
 | o0 :: l, acc, j + 1, o, h => by
  have := d1W l (acc ++ [c2M acc o0]) j o (by simpa using h)
  simp only [List.length_append, List.length_singleton] at this
  simp only [masks]
  rw [show acc.length + (j + 1) = acc.length + 1 + j by omega]
  exact this
theorem e4O (acc : List Nat) (o : Oper) (i : Nat) (h : (c2M acc o).testBit i = true) : ∃ e ∈ o.after, Region.binds .any e = true ∧ (i = e.on ∨ (acc.getD e.on 0).testBit i = true) := by
 unfold c2M at h
 have key : ∀ (l : List Edge) (s : Nat), (l.foldl (fun s e => match Region.binds .any e with | true => (s ||| 2 ^ e.on) ||| acc.getD e.on 0 | false => s) s).testBit i = true → s.testBit i = true ∨ ∃ e ∈ l, Region.binds .any e = true ∧ (i = e.on ∨ (acc.getD e.on 0).testBit i = true) := by
  intro l
  induction l with
  | nil => intro s h; exact .inl h
  | cons e l ih =>
   intro s h
   simp only [List.foldl_cons] at h
   rcases ih _ h with h | ⟨e', he', h'⟩
   ·
    split at h
    ·
     rename_i hb
     simp only [Nat.testBit_or, Bool.or_eq_true, Nat.testBit_two_pow, decide_eq_true_eq] at h
     rcases h with (h | h) | h
     ·
      exact .inl h
     ·
      exact .inr ⟨e, by simp, hb, .inl h.symm⟩
     ·
      exact .inr ⟨e, by simp, hb, .inr h⟩
    ·
     exact .inl h
   ·
    exact .inr ⟨e', by simp [he'], h'⟩
 rcases key _ _ h with h | ⟨e, he, h⟩
 ·
  simp at h
 ·
  exact ⟨e, by simpa using he, h⟩
def Closed (ops : Array Oper) (L : Nat → Bool) : Prop := ∀ j o, ops[j]? = some o → L j = true → ∀ e ∈ o.after, Region.binds .any e = true → L e.on = true
theorem c4J {ops : Array Oper} {L : Nat → Bool} (hC : Closed ops L) : ∀ (j : Nat) (o : Oper), ops[j]? = some o → (∀ e ∈ o.after, Region.binds .any e = true → L e.on = true) → ∀ i, ((masks ops.toList []).getD j 0).testBit i = true → L i = true := by
 intro j
 induction j using Nat.strongRecOn with
 | _ j ih =>
  intro o ho hd i hi
  have := d1W ops.toList [] j o (by rw [Array.getElem?_toList]; exact ho)
  simp only [List.length_nil, Nat.zero_add] at this
  rw [this] at hi
  obtain ⟨e, he, hb, h⟩ := e4O _ _ _ hi
  rcases h with rfl | h
  ·
   exact hd e he hb
  ·
   by_cases hlt : e.on < j
   ·
    have hoe : ∃ o', ops[e.on]? = some o' := by
     have := (Array.getElem?_eq_some_iff.1 ho).1
     exact ⟨ops[e.on]'(by omega), Array.getElem?_eq_getElem (by omega)⟩
    obtain ⟨o', ho'⟩ := hoe
    refine ih e.on hlt o' ho' (hC e.on o' ho' (hd e he hb)) i ?_
    have : ((masks ops.toList []).take j).getD e.on 0 = (masks ops.toList []).getD e.on 0 := by
     simp [List.getD_eq_getElem?_getD, List.getElem?_take, hlt]
    rw [this] at h
    exact h
   ·
    have : ((masks ops.toList []).take j).getD e.on 0 = 0 := by
     rw [List.getD_eq_getElem?_getD, List.getElem?_eq_none (by simp; omega)]
     rfl
    rw [this] at h
    simp at h
def cnt (L : Nat → Bool) : Nat → Nat
 | 0 => 0
 | n + 1 => cnt L n + if L n then 0 else 1
theorem e2S {L L' : Nat → Bool} {i : Nat} (hi : L i = false) (hL' : ∀ j, L' j = if j = i then true else L j) : ∀ (n : Nat), (i < n → cnt L' n + 1 = cnt L n) ∧ (n ≤ i → cnt L' n = cnt L n)
 | 0 => ⟨fun h => by omega, fun _ => rfl⟩
 | n + 1 => by
  obtain ⟨h1, h2⟩ := e2S hi hL' n
  refine ⟨fun h => ?_, fun h => ?_⟩
  ·
   by_cases hn : n = i
   ·
    subst hn
    have := h2 (Nat.le_refl _)
    simp [cnt, hL', hi, this]
   ·
    have := h1 (by omega)
    simp only [cnt, hL', if_neg hn]
    omega
  ·
   have := h2 (by omega)
   simp only [cnt, hL', if_neg (show n ≠ i by omega), this]
theorem d5Z {L : Nat → Bool} : ∀ (n : Nat), cnt L n = 0 → ∀ j, j < n → L j = true
 | 0, _, j, h => by omega
 | n + 1, h, j, hj => by
  simp only [cnt] at h
  by_cases hn : L n = true
  ·
   by_cases hjn : j = n
   ·
    subst hjn; exact hn
   ·
    exact d5Z n (by omega) j (by omega)
  ·
   simp [hn] at h
theorem least {L : Nat → Bool} (n : Nat) (j : Nat) (hj : j < n) (h : L j = false) : ∃ i, i < n ∧ L i = false ∧ ∀ k, k < i → L k = true := by
 induction j using Nat.strongRecOn with
 | _ j ih =>
  by_cases hex : ∃ k, k < j ∧ L k = false
  ·
   obtain ⟨k, h1, h2⟩ := hex
   exact ih k h1 (by omega) h2
  ·
   refine ⟨j, hj, h, fun k hk => ?_⟩
   cases hb : L k with
   | true => rfl
   | false => exact absurd ⟨k, hk, hb⟩ hex
end Sym

/- A region whose order is drawn: it does what the text's order does. -/
namespace Sym
open Go
section
variable {base : World} {G0 own0 : Nat → Prop} {sz : Nat} {fr : List (List Value)}
structure Walk (E : Env) (ops : Array Oper) (ms : List Nat) (i n : Nat) (S : Nat → St) (rn : Nat → Bool) (pv : Nat → PV) (δ : Nat → List (Nat × Blk)) : Prop where
 at_ : ∀ j, i ≤ j → j < n → ∃ o, ops[j]? = some o ∧ S (j + 1) = (S j).put o.dst (pv j) (δ j) ∧ GuardIs ops o (a5R (S j).slots) (rn j) ∧
  (rn j = true → g5Q E o (a9V o (S j)) (d8J o (a9V o (S j))) (S j).heap (S j).heap.length (pv j) (δ j)) ∧ (rn j = false → pv j = b9I ∧ δ j = [])
 fine : ∀ j k o o', i ≤ k → k < j → j < n → ops[j]? = some o → ops[k]? = some o' → rn k = true → rn j = true → f6B (ms.getD j 0) ⟨k, d8J o' (a9V o' (S k)), (δ k).map (·.1)⟩ (d8J o (a9V o (S j))) ((δ j).map (·.1))
theorem e3O {E : Env} (hE : EnvOk E) {R : Type} {T : R → Prop} {fail : R} (hf : ¬ T fail) (ops : Array Oper) (ms : List Nat) {K : St → R} :
  ∀ (l pre : List Oper) (log : List Ent) (st : St), ops.toList = pre ++ l → T (c5U E fail ops ms pre.length l log st K) →
  ∃ S rn pv δ, S pre.length = st ∧ T (K (S (pre.length + l.length))) ∧ Walk E ops ms pre.length (pre.length + l.length) S rn pv δ ∧
   ∀ j o, pre.length ≤ j → j < pre.length + l.length → ops[j]? = some o → rn j = true → ∀ e ∈ log, f6B (ms.getD j 0) e (d8J o (a9V o (S j))) ((δ j).map (·.1)) := by
 intro l
 induction l with
 | nil =>
  intro pre log st _ h
  exact ⟨fun _ => st, fun _ => true, fun _ => .undef, fun _ => [], rfl, h, ⟨fun j h1 h2 => by simp at h2; omega, fun j k o o' h1 h2 h3 => by simp at h3; omega⟩, fun j o h1 h2 => by simp at h2; omega⟩
 | cons o l ih =>
  intro pre log st ho h
  have hget : ops[pre.length]? = some o := by
   rw [← Array.getElem?_toList, ho]
   simp
  have ho' : ops.toList = (pre ++ [o]) ++ l := by simp [ho]
  simp only [c5U] at h
  have build : ∀ (log' : List Ent) (b : Bool) (p : PV) (d : List (Nat × Blk)), T (c5U E fail ops ms (pre.length + 1) l log' (st.put o.dst p d) K) → GuardIs ops o (a5R st.slots) b →
    (b = true → g5Q E o (a9V o st) (d8J o (a9V o st)) st.heap st.heap.length p d ∧ log' = ⟨pre.length, d8J o (a9V o st), d.map (·.1)⟩ :: log ∧ ∀ e ∈ log, f6B (ms.getD pre.length 0) e (d8J o (a9V o st)) (d.map (·.1))) →
    (b = false → p = b9I ∧ d = [] ∧ log' = log) → ∃ S rn pv δ, S pre.length = st ∧ T (K (S (pre.length + (o :: l).length))) ∧ Walk E ops ms pre.length (pre.length + (o :: l).length) S rn pv δ ∧
   ∀ j o', pre.length ≤ j → j < pre.length + (o :: l).length → ops[j]? = some o' → rn j = true → ∀ e ∈ log, f6B (ms.getD j 0) e (d8J o' (a9V o' (S j))) ((δ j).map (·.1)) := by
   intro log' b p d h hg hb1 hb0
   obtain ⟨S, rn, pv, δ, g1, g2, g3, g4⟩ := ih (pre ++ [o]) log' (st.put o.dst p d) ho' (by simpa using h)
   simp only [List.length_append, List.length_singleton] at g1 g2 g3 g4
   have hlen : pre.length + (o :: l).length = pre.length + 1 + l.length := by simp; omega
   have hlog : ∀ e ∈ log, e ∈ log' := by
    intro e he
    cases b with
    | true => rw [(hb1 rfl).2.1]; exact List.mem_cons_of_mem _ he
    | false => rw [(hb0 rfl).2.2]; exact he
   rw [hlen]
   refine ⟨fun k => if k = pre.length then st else S k, fun k => if k = pre.length then b else rn k, fun k => if k = pre.length then p else pv k, fun k => if k = pre.length then d else δ k, by simp, ?_, ⟨?_, ?_⟩, ?_⟩
   ·
    simp only
    rw [if_neg (by omega)]
    exact g2
   ·
    intro j h1 h2
    by_cases hj : j = pre.length
    ·
     subst hj
     refine ⟨o, hget, ?_, ?_, ?_, ?_⟩
     ·
      simp [g1]
     ·
      simpa using hg
     ·
      intro hb
      simp only [if_true] at hb ⊢
      exact (hb1 hb).1
     ·
      intro hb
      simp only [if_true] at hb ⊢
      exact ⟨(hb0 hb).1, (hb0 hb).2.1⟩
    ·
     simp only [if_neg hj, if_neg (show j + 1 ≠ pre.length by omega)]
     exact g3.at_ j (by omega) h2
   ·
    intro j k q q' h1 h2 h3 hq hq' hk hj
    have hjn : j ≠ pre.length := by omega
    simp only [if_neg hjn] at hj ⊢
    by_cases hkp : k = pre.length
    ·
     subst hkp
     simp only [if_true] at hk ⊢
     have : q' = o := by rw [hget] at hq'; exact (Option.some.inj hq').symm
     subst this
     exact g4 j q (by omega) h3 hq hj _ (by rw [(hb1 hk).2.1]; simp)
    ·
     simp only [if_neg hkp] at hk ⊢
     exact g3.fine j k q q' (by omega) h2 h3 hq hq' hk hj
   ·
    intro j q h1 h2 hq hj e he
    by_cases hjp : j = pre.length
    ·
     subst hjp
     simp only [if_true] at hj ⊢
     have : q = o := by rw [hget] at hq; exact (Option.some.inj hq).symm
     subst this
     exact (hb1 hj).2.2 e he
    ·
     simp only [if_neg hjp] at hj ⊢
     exact g4 j q (by omega) h2 hq hj e (hlog e he)
  rcases d2N hf h with ⟨h, hg⟩ | ⟨h, hg⟩
  ·
   obtain ⟨p, d, ht, hok⟩ := e2L hE hf h
   simp only at ht
   split at ht
   ·
    rename_i he
    exact build _ true p d ht hg (fun _ => ⟨hok, rfl, d6B _ _ _ _ he⟩) (fun h => by cases h)
   ·
    exact absurd ht hf
  ·
   exact build _ false b9I [] h hg (fun h => by cases h) (fun _ => ⟨rfl, rfl, rfl⟩)
theorem e6L {c : Cx} {st : St} {ops : Array Oper} {o : Oper} {a : Act} (h : ∀ d ∈ o.looksAt ops, VOk c (a5R st.slots d) (a.tmps.getD d undef)) : All2 (VOk c) (a9V o st) (o.op.operands.toList.map a.eval) := by
 unfold a9V
 have key : ∀ l : List Operand, (∀ t, Operand.tmp t ∈ l → VOk c (a5R st.slots t) (a.tmps.getD t undef)) → All2 (VOk c) (l.map (opd st.slots)) (l.map a.eval) := by
  intro l
  induction l with
  | nil => intro _; trivial
  | cons x l ih =>
   intro h
   refine ⟨?_, ih fun t ht => h t (by simp [ht])⟩
   cases x with
   | tmp t => exact h t (by simp)
   | const v => exact d5T _ v
   | global g => exact trivial
   | func f => exact ⟨_, rfl, rfl⟩
 refine key _ fun t ht => h t ?_
 unfold Oper.looksAt
 exact List.mem_append_left _ (List.mem_filterMap.2 ⟨.tmp t, ht, rfl⟩)
theorem c8U {ops : Array Oper} {ms : List Nat} (h : b9O ops ms = true) {i j : Nat} {x y : Oper} (hij : i < j) (hi : ops[i]? = some x) (hj : ops[j]? = some y) (hb : (ms.getD j 0).testBit i = false) : Oper.apart ops x y = true := by
 unfold b9O at h
 rw [List.all_eq_true] at h
 have := h j (List.mem_range.2 (Array.getElem?_eq_some_iff.1 hj).1)
 simp only [hj, Bool.and_eq_true] at this
 have := this.2
 rw [List.all_eq_true] at this
 have := this i (List.mem_range.2 hij)
 simp only [hi, hb, Bool.false_or] at this
 exact this
theorem f4B {ops : Array Oper} {ms : List Nat} (h : b9O ops ms = true) {j : Nat} {y : Oper} (hj : ops[j]? = some y) : ∀ e ∈ y.after, Region.binds .any e = true → e.on < j := by
 unfold b9O at h
 rw [List.all_eq_true] at h
 have := h j (List.mem_range.2 (Array.getElem?_eq_some_iff.1 hj).1)
 simp only [hj, Bool.and_eq_true] at this
 have := this.1
 rw [List.all_eq_true] at this
 intro e he hb
 have := this e (by simpa using he)
 simp only [hb, Bool.not_true, Bool.false_or] at this
 exact Nat.le_of_ble_eq_true this
def wS (ops : Array Oper) (len : Nat) (pv : Nat → PV) (j d : Nat) : Option PV :=
 match ops[j]? with
 | some o => if o.dst = some d ∧ d < len then some (pv j) else none
 | none => none
def wH (δ : Nat → List (Nat × Blk)) (j b : Nat) : Option Blk := lk (δ j) b
theorem c8B : ∀ (vs : List PV) (d e : Nat) (v : PV), a5R (setAt vs d v) e = if e = d ∧ d < vs.length then v else a5R vs e
 | [], d, e, v => by simp [setAt]
 | _ :: _, 0, 0, v => by simp [setAt, a5R]
 | _ :: _, 0, e + 1, v => by simp [setAt, a5R]
 | _ :: _, d + 1, 0, v => by simp [setAt, a5R]
 | x :: vs, d + 1, e + 1, v => by simp [setAt, a5R, c8B vs d e v]
theorem d9M (st : St) (d : Option Nat) (p : PV) (δ : List (Nat × Blk)) (e : Nat) : a5R (st.put d p δ).slots e = if d = some e ∧ e < st.slots.length then p else a5R st.slots e := by
 cases d with
 | none => simp [St.put, c9V]
 | some d =>
  simp only [St.put, c9V, c8B, Option.some.injEq]
  by_cases h : e = d
  ·
   subst h; simp
  ·
   rw [if_neg (by simp [h]), if_neg (by rintro ⟨h', _⟩; exact h h'.symm)]
theorem f2J (st : St) (d : Option Nat) (p : PV) (δ : List (Nat × Blk)) : (st.put d p δ).slots.length = st.slots.length := by
 cases d <;> simp [St.put, c9V, c0N]
theorem d3F {E : Env} {ops : Array Oper} {ms : List Nat} {n : Nat} {S : Nat → St} {rn : Nat → Bool} {pv : Nat → PV} {δ : Nat → List (Nat × Blk)} (hW : Walk E ops ms 0 n S rn pv δ) : ∀ i, i ≤ n →
  (S i).slots.length = (S 0).slots.length ∧ (S i).stk = (S 0).stk ∧ (∀ d, a5R (S i).slots d = b8T (wS ops (S 0).slots.length pv) (a5R (S 0).slots) (fun j => decide (j < i)) n d) ∧
  ∀ b, a0J (S i).heap b = b8T (wH δ) (a0J (S 0).heap) (fun j => decide (j < i)) n b := by
 have zero : ∀ {X : Type} (w : Nat → Nat → Option X) (init : Nat → X) (n k : Nat), b8T w init (fun j => decide (j < 0)) n k = init k := by
  intro X w init n k
  induction n with
  | zero => rfl
  | succ n ih => simp [b8T] at ih ⊢; exact ih
 intro i
 induction i with
 | zero => intro _; exact ⟨rfl, rfl, fun d => (zero _ _ _ _).symm, fun b => (zero _ _ _ _).symm⟩
 | succ i ih =>
  intro hi
  obtain ⟨h1, h2, h3, h4⟩ := ih (by omega)
  obtain ⟨o, ho, hS, _⟩ := hW.at_ i (Nat.zero_le _) (by omega)
  have hL : ∀ j, (decide (j < i + 1)) = if j = i then true else decide (j < i) := by
   intro j
   by_cases hj : j = i
   ·
    simp [hj]
   ·
    rw [if_neg hj]
    by_cases hlt : j < i
    ·
     simp [hlt]; omega
    ·
     simp [hlt]; omega
  have hnot : decide (i < i) = false := by simp
  refine ⟨by rw [hS, f2J, h1], by rw [hS]; exact h2, fun d => ?_, fun b => ?_⟩
  ·
   rw [hS, d9M, b9Z _ _ (L := fun j => decide (j < i)) hnot hL n (by omega) (fun j h1 _ h => by simp at h; omega), h3, h1]
   simp only [wS, ho]
   split <;> rfl
  ·
   rw [hS]
   show a0J (a2B (S i).heap (δ i)) b = _
   rw [c1H, b9Z _ _ (L := fun j => decide (j < i)) hnot hL n (by omega) (fun j h1 _ h => by simp at h; omega), h4]
   cases h : lk (δ i) b <;> simp [wH, h]
end
end Sym

/- A region whose order is drawn: any order. -/
namespace Sym
open Go
theorem Mem.swap {base : World} {G0 own0 : Nat → Prop} {c : Cx} (hM : Mem base G0 own0 c) {w' : World} {H' : List Blk} (hos : w'.os = c.w.os) (ht : w'.tape = c.w.tape) (ho : w'.output = c.w.output) (hh : w'.heap = c.w.heap) (hH : ∀ b, a0J H' b = a0J c.H b) :
  Ext c (Cx.next base G0 w' c.ρ H') ∧ Mem base G0 own0 (Cx.next base G0 w' c.ρ H') := by
 have hT : Turn base G0 own0 c (Cx.next base G0 w' c.ρ H') (fun _ => False) :=
  ⟨hos, ht, ho, by simp [Cx.next, hh], fun _ _ => rfl, fun b _ => hH b, fun r _ _ => by simp [Cx.next, hh], fun _ h => h.elim, fun _ _ h => h.elim, fun _ _ _ h => h.elim, rfl⟩
 exact ⟨hT.ext hM, hT.mem hM fun b h => h.elim⟩
theorem c0L {c : Cx} : ∀ {vs : List PV} {us : List Value}, vs.length = us.length → (∀ d, VOk c (a5R vs d) (us.getD d undef)) → All2 (VOk c) vs us
 | [], [], _, _ => trivial
 | v :: vs, u :: us, h, hh => ⟨hh 0, c0L (by simpa using h) fun d => by have := hh (d + 1); simpa [a5R] using this⟩
 | [], _ :: _, h, _ => by simp at h
 | _ :: _, [], h, _ => by simp at h
section
variable {base : World} {G0 own0 : Nat → Prop} {sz : Nat} {fr : List (List Value)}
structure Inv (base : World) (G0 own0 : Nat → Prop) (sz : Nat) (fr : List (List Value)) (ops : Array Oper) (S0 : St) (pv : Nat → PV) (δ : Nat → List (Nat × Blk)) (L : Nat → Bool) (c : Cx) (a : Act) : Prop where
 mem : Mem base G0 own0 c
 heap : ∀ b, a0J c.H b = b8T (wH δ) (a0J S0.heap) L ops.size b
 slots : ∀ d, VOk c (b8T (wS ops S0.slots.length pv) (a5R S0.slots) L ops.size d) (a.tmps.getD d undef)
 stk : All2 (All2 (VOk c)) S0.stk fr
 size : a.tmps.size = sz
 len : S0.slots.length = sz
 defers : a.defers = []
theorem e4L (a : Act) (d : Option Tmp) (v : Value) (e : Nat) : (a.put d v).tmps.getD e undef = if d = some e ∧ e < a.tmps.size then v else a.tmps.getD e undef := by
 cases d with
 | none => simp [Act.put]
 | some d =>
  simp only [Act.put, Option.some.injEq, Array.getD_eq_getD_getElem?, Array.getElem?_setIfInBounds]
  by_cases h : d = e
  ·
   subst h
   by_cases h2 : d < a.tmps.size
   ·
    simp [h2]
   ·
    simp [h2]
  ·
   rw [if_neg h, if_neg (by simp [h])]
theorem d9H {E : Env} (hE : EnvOk E) {ops : Array Oper} {S : Nat → St} {rn : Nat → Bool} {pv : Nat → PV} {δ : Nat → List (Nat × Blk)} (hA : b9O ops (masks ops.toList []) = true) (hW : Walk E ops (masks ops.toList []) 0 ops.size S rn pv δ)
  {Q : Exit → Act → World → Prop} (hQ : ∀ c a, Rep base G0 own0 sz fr c (S ops.size) a → Q .normal a c.w) :
  ∀ (fuel : Nat) (listed : Array Bool) (a : Act) (c : Cx), listed.size = ops.size → cnt (fun j => listed.getD j false) ops.size ≤ fuel → Closed ops (fun j => listed.getD j false) → Inv base G0 own0 sz fr ops (S 0) pv δ (fun j => listed.getD j false) c a → wpAny E.P .any ops Q fuel listed a c.w := by
 have fin : ∀ (listed : Array Bool) (a : Act) (c : Cx), (∀ j, j < ops.size → listed.getD j false = true) → Inv base G0 own0 sz fr ops (S 0) pv δ (fun j => listed.getD j false) c a → Q .normal a c.w := by
  intro listed a c hall hI
  obtain ⟨h1, h2, h3, h4⟩ := d3F hW ops.size (Nat.le_refl _)
  have hL : ∀ j, j < ops.size → (fun j => decide (j < ops.size)) j = (fun j => listed.getD j false) j := fun j hj => by simp only [hall j hj]; simpa using hj
  obtain ⟨hE', hM'⟩ := hI.mem.swap (w' := c.w) (H' := (S ops.size).heap) rfl rfl rfl rfl (fun b => by rw [h4 b, hI.heap b]; exact b3U _ _ _ fun j hj hne => absurd (hL j hj) hne)
  refine hQ (Cx.next base G0 c.w c.ρ (S ops.size).heap) a ⟨hM', rfl, c0L (by rw [h1, hI.len, ← hI.size]; simp) fun d => ?_, ?_, hI.size, hI.defers⟩
  ·
   rw [← getD_toList, h3 d, b3U _ _ _ fun j hj hne => absurd (hL j hj) hne]
   exact c5N hE' (hI.slots d)
  ·
   rw [h2]; exact All2.mono (fun _ _ hl => All2.mono (fun _ _ => c5N hE') _ _ hl) _ _ hI.stk
 have getD_lt : ∀ (listed : Array Bool) (j : Nat) (x y : Bool), j < listed.size → listed.getD j x = listed.getD j y := fun listed j x y h => by simp [h]
 intro fuel
 induction fuel with
 | zero =>
  intro listed a c hsz hc hC hI
  have hall := d5Z ops.size (Nat.le_zero.1 hc)
  refine ⟨?_, fin listed a c hall hI⟩
  rw [List.eq_nil_iff_forall_not_mem]
  intro j hj
  obtain ⟨h1, o, ho, _⟩ := mem_ready.1 hj
  have hlt := (Array.getElem?_eq_some_iff.1 ho).1
  have h2 : listed.getD j false = true := hall j hlt
  rw [getD_lt listed j false true (by omega)] at h2
  rw [h1] at h2; cases h2
 | succ fuel ih =>
  intro listed a c hsz hc hC hI
  refine ⟨fun hempty => fin listed a c (fun j hj => ?_) hI, fun i hi => ?_⟩
  ·
   cases hb : listed.getD j false with
   | true => rfl
   | false =>
    obtain ⟨i, h1, h2, h3⟩ := least (L := fun j => listed.getD j false) ops.size j hj hb
    have : i ∈ Region.ready .any ops listed := by
     refine mem_ready.2 ⟨by rw [getD_lt listed i true false (by omega)]; exact h2, ops[i], Array.getElem?_eq_getElem h1, fun e he hbd => ?_⟩
     exact h3 _ (f4B hA (Array.getElem?_eq_getElem h1) e he hbd)
    rw [hempty] at this; cases this
  ·
   obtain ⟨h1, o, ho, hd⟩ := mem_ready.1 hi
   have hlt := (Array.getElem?_eq_some_iff.1 ho).1
   have hLi : listed.getD i false = false := by rw [getD_lt listed i false true (by omega)]; exact h1
   obtain ⟨o', ho', hS, hG, hrun, hskip⟩ := hW.at_ i (Nat.zero_le _) hlt
   have : o' = o := by rw [ho] at ho'; exact (Option.some.inj ho').symm
   subst this
   obtain ⟨hlen, hstk, htS, htH⟩ := d3F hW i (by omega)
   have hun : ∀ j, j < ops.size → listed.getD j false ≠ decide (j < i) → (j < i ∧ ((masks ops.toList []).getD i 0).testBit j = false) ∨ (i < j ∧ listed.getD j false = true ∧ ((masks ops.toList []).getD j 0).testBit i = false) := by
    intro j hj hne
    by_cases hji : j < i
    ·
     left
     refine ⟨hji, ?_⟩
     cases hb : ((masks ops.toList []).getD i 0).testBit j with
     | false => rfl
     | true =>
      have : listed.getD j false = true := c4J hC i o' ho hd j hb
      rw [this] at hne
      simp [hji] at hne
    ·
     right
     have hLj : listed.getD j false = true := by
      cases hb : listed.getD j false with
      | true => rfl
      | false => rw [hb] at hne; simp [hji] at hne
     have hij : i < j := by
      rcases Nat.lt_or_ge i j with h | h
      ·
       exact h
      ·
       have : j = i := by omega
       subst this; rw [hLi] at hLj; cases hLj
     refine ⟨hij, hLj, ?_⟩
     cases hb : ((masks ops.toList []).getD j 0).testBit i with
     | false => rfl
     | true =>
      have hoj := Array.getElem?_eq_getElem hj
      have : listed.getD i false = true := c4J hC j _ hoj (hC j _ hoj hLj) i hb
      rw [hLi] at this; cases this
   have hlater : ∀ j, i < j → j < ops.size → listed.getD j false = true → ((masks ops.toList []).getD j 0).testBit i = false := by
    intro j hij hj hLj
    rcases hun j hj (by rw [hLj]; simp; omega) with h | h
    ·
     omega
    ·
     exact h.2.2
   have hslot : ∀ d ∈ o'.looksAt ops, VOk c (a5R (S i).slots d) (a.tmps.getD d undef) := by
    intro d hdl
    rw [htS d, ← b3U (wS ops (S 0).slots.length pv) (a5R (S 0).slots) (L := fun j => listed.getD j false) ops.size fun j hj hne => ?_]
    ·
     exact hI.slots d
    ·
     have hoj := Array.getElem?_eq_getElem hj
     simp only [wS, hoj]
     refine if_neg fun ⟨hdst, _⟩ => ?_
     rcases hun j hj hne with ⟨hji, hb⟩ | ⟨hij, _, hb⟩
     ·
      exact (Oper.apart_spec (c8U hA hji hoj ho hb)).1 d hdst hdl
     ·
      exact (Oper.apart_spec (c8U hA hij ho hoj hb)).2.2 d hdst hdl
   have hheap : rn i = true → ∀ b, (b ∈ d8J o' (a9V o' (S i)) ∨ b ∈ (δ i).map (·.1)) → a0J c.H b = a0J (S i).heap b := by
    intro hr b hb
    rw [hI.heap b, htH b]
    refine b3U _ _ _ fun j hj hne => ?_
    have hoj := Array.getElem?_eq_getElem hj
    obtain ⟨oj, hoj', _, _, _, hsk⟩ := hW.at_ j (Nat.zero_le _) hj
    have : oj = ops[j] := by rw [hoj] at hoj'; exact (Option.some.inj hoj').symm
    subst this
    cases hrj : rn j with
    | false => simp [wH, (hsk hrj).2, lk]
    | true =>
     refine c8P _ _ fun hbj => ?_
     rcases hun j hj hne with ⟨hji, hbit⟩ | ⟨hij, _, hbit⟩
     ·
      have hfine := (hW.fine i j o' _ (Nat.zero_le _) hji hlt ho hoj hrj hr).resolve_left (by simp only; rw [hbit]; simp)
      rcases hb with hb | hb
      ·
       exact hfine.1 b hbj hb
      ·
       exact hfine.2.1 b hbj hb
     ·
      have hfine := (hW.fine j i _ o' (Nat.zero_le _) hij hj hoj ho hr hrj).resolve_left (by simp only; rw [hbit]; simp)
      rcases hb with hb | hb
      ·
       exact hfine.2.2 b hb hbj
      ·
       exact hfine.2.1 b hb hbj
   have hL' : ∀ j, (listed.setIfInBounds i true).getD j false = if j = i then true else listed.getD j false := by
    intro j
    by_cases hj : j = i
    ·
     subst hj
     rw [if_pos rfl]
     simp [show j < listed.size by omega]
    ·
     rw [if_neg hj, getD_set_ne false (fun h => hj h.symm)]
   have after : ∀ (v : Value) (c' : Cx), Ext c c' → Mem base G0 own0 c' → c'.H = a2B c.H (δ i) → VOk c' (pv i) v → wpAny E.P .any ops Q fuel (listed.setIfInBounds i true) (a.put o'.dst v) c'.w := by
    intro v c' hE' hM' hH' hv
    refine ih _ _ c' (by simp [hsz]) ?_ ?_ ?_
    ·
     have := (e2S (L := fun j => listed.getD j false) (L' := fun j => (listed.setIfInBounds i true).getD j false) hLi hL' ops.size).1 hlt
     omega
    ·
     intro j oj hoj hLj e he hb
     simp only at hLj ⊢
     rw [hL'] at hLj ⊢
     split
     ·
      rfl
     ·
      by_cases hji : j = i
      ·
       subst hji
       have : oj = o' := by rw [ho] at hoj; exact (Option.some.inj hoj).symm
       subst this
       exact hd e he hb
      ·
       rw [if_neg hji] at hLj
       exact hC j oj hoj hLj e he hb
    ·
     refine ⟨hM', fun b => ?_, fun d => ?_, All2.mono (fun _ _ hl => All2.mono (fun _ _ => c5N hE') _ _ hl) _ _ hI.stk, by rw [d7S]; exact hI.size, hI.len, by rw [put_defers]; exact hI.defers⟩
     ·
      rw [hH', c1H, hI.heap b, b9Z (wH δ) (a0J (S 0).heap) (L := fun j => listed.getD j false) (L' := fun j => (listed.setIfInBounds i true).getD j false) hLi hL' ops.size hlt fun j hij hj hLj => ?_]
      ·
       cases h : lk (δ i) b <;> simp [wH, h]
      ·
       have hoj := Array.getElem?_eq_getElem hj
       obtain ⟨oj, hoj', _, _, _, hsk⟩ := hW.at_ j (Nat.zero_le _) hj
       have : oj = ops[j] := by rw [hoj] at hoj'; exact (Option.some.inj hoj').symm
       subst this
       cases hrj : rn j with
       | false => left; simp [wH, (hsk hrj).2, lk]
       | true =>
        cases hri : rn i with
        | false => right; simp [wH, (hskip hri).2, lk]
        | true =>
         have hfine := (hW.fine j i _ o' (Nat.zero_le _) hij hj hoj ho hri hrj).resolve_left (by simp only; rw [hlater j hij hj hLj]; simp)
         by_cases hb : b ∈ (δ i).map (·.1)
         ·
          exact .inl (c8P _ _ (hfine.2.1 b hb))
         ·
          exact .inr (c8P _ _ hb)
     ·
      rw [b9Z (wS ops (S 0).slots.length pv) (a5R (S 0).slots) (L := fun j => listed.getD j false) (L' := fun j => (listed.setIfInBounds i true).getD j false) hLi hL' ops.size hlt fun j hij hj hLj => ?_, e4L]
      ·
       simp only [wS, ho]
       have hsize := hI.size
       have hl := hI.len
       by_cases hdd : o'.dst = some d ∧ d < (S 0).slots.length
       ·
        rw [if_pos hdd, if_pos (by rw [hsize, ← hl]; exact hdd)]
        exact hv
       ·
        rw [if_neg hdd, if_neg (by rw [hsize, ← hl]; exact hdd)]
        exact c5N hE' (hI.slots d)
      ·
       have hoj := Array.getElem?_eq_getElem hj
       have hap := Oper.apart_spec (c8U hA hij ho hoj (hlater j hij hj hLj))
       simp only [wS, hoj, ho]
       by_cases hdd : o'.dst = some d
       ·
        left; exact if_neg fun h => hap.2.1 d hdd h.1
       ·
        right; exact if_neg fun h => hdd h.1
   unfold wpOp
   simp only [ho]
   have hw := hG c a.tmps hslot
   cases hr : rn i with
   | true =>
    rw [hr] at hw
    rw [if_pos hw]
    left
    refine hrun hr base G0 own0 a c hI.mem (fun b hb => hheap hr b (.inl hb)) (e6L hslot) (fun p hp hge => ?_) (fun p hp _ => hheap hr p.1 (.inr (List.mem_map_of_mem hp))) _ _ after
    rw [hheap hr p.1 (.inr (List.mem_map_of_mem hp))]
    exact b1I _ _ hge
   | false =>
    rw [hr] at hw
    rw [if_neg (by rw [hw]; simp)]
    obtain ⟨e1, e2⟩ := hskip hr
    exact after undef c (Ext.refl c) hI.mem (by rw [e2]; rfl) (by rw [e1]; exact c9K)
theorem e3Q {E : Env} (hE : EnvOk E) {R : Type} {T : R → Prop} {fail : R} (hf : ¬ T fail) {ops : Array Oper} {id : Nat} {Q : Exit → Act → World → Prop} {K : St → R} (hA : b9O ops (masks ops.toList []) = true)
  (hK : ∀ st c a, T (K st) → Rep base G0 own0 sz fr c st a → Q .normal a c.w) {st : St} {c : Cx} {a : Act} (h : T (c5U E fail ops (masks ops.toList []) 0 ops.toList [] st K)) (hr : Rep base G0 own0 sz fr c st a) :
  (Code.region id ops true).wp E.P Q a c.w := by
 obtain ⟨S, rn, pv, δ, h0, hT, hW, _⟩ := e3O hE hf ops (masks ops.toList []) ops.toList [] [] st (by simp) h
 simp only [List.length_nil, Nat.zero_add, Array.length_toList] at h0 hT hW
 refine wp_region_any hE.mixed ?_
 obtain ⟨hE', hM'⟩ := hr.mem.swap (w' := { c.w with drawn := c.w.drawn + 1 }) (H' := c.H) rfl rfl rfl rfl (fun _ => rfl)
 refine d9H hE hA hW (fun c a hr => hK _ _ _ hT hr) ops.size (Array.replicate ops.size false) a (Cx.next base G0 { c.w with drawn := c.w.drawn + 1 } c.ρ c.H) (by simp) ?_ ?_ ?_
 ·
  have : ∀ (L : Nat → Bool) (n : Nat), cnt L n ≤ n := by
   intro L n
   induction n with
   | zero => exact Nat.le_refl _
   | succ n ih => simp only [cnt]; split <;> omega
  exact this _ _
 ·
  intro j o ho hL
  exfalso
  simp [Array.getD_eq_getD_getElem?, Array.getElem?_replicate] at hL
  split at hL <;> simp at hL
 ·
  have hz : ∀ {X : Type} (w : Nat → Nat → Option X) (init : Nat → X) (n k : Nat), b8T w init (fun j => (Array.replicate ops.size false).getD j false) n k = init k := by
   intro X w init n k
   induction n with
   | zero => rfl
   | succ n ih =>
    have : (Array.replicate ops.size false).getD n false = false := by
     simp only [Array.getD_eq_getD_getElem?, Array.getElem?_replicate]
     split <;> rfl
    simp only [b8T, this]
    exact ih
  subst h0
  refine ⟨hM', fun b => by rw [hz]; show a0J c.H b = _; rw [hr.heap], fun d => ?_, All2.mono (fun _ _ hl => All2.mono (fun _ _ => c5N hE') _ _ hl) _ _ hr.stk, hr.size, by rw [All2.len hr.slots, ← hr.size]; simp, hr.defers⟩
  rw [hz, getD_toList]
  exact c5N hE' (b5Q d hr.slots)
end
end Sym

/- The evaluator of code tells what the machine does. -/
namespace Sym
open Go
def c7H (P : Program) (c : Code) (Q : Exit → Act → World → Prop) (a : Act) (w : World) : Prop :=
 ∀ (b : Frame) (k : List Item) (cs : List Frame), ∃ e a' w', Q e a' w' ∧ Arrives P (lone (b.at a (.inLoop c :: k)) cs w) b k cs e a' w'
theorem d0W {P : Program} {c : Code} {Q : Exit → Act → World → Prop} {a : Act} {w : World} (h : c.wp P (Exit.then (c7H P c Q) Q) a w) :
  (∀ (b : Frame) (k : List Item) (cs : List Frame), ∃ e a' w', Q e a' w' ∧ Arrives P (lone (b.at a (.code c :: .inLoop c :: k)) cs w) b k cs e a' w') := by
 intro b k cs
 obtain ⟨e, a1, w1, hq, harr⟩ := h b (.inLoop c :: k) cs
 cases e with
 | normal =>
  obtain ⟨e2, a2, w2, hq2, harr2⟩ := hq b k cs
  exact ⟨e2, a2, w2, hq2, .of_steps harr harr2⟩
 | exit id => exact ⟨_, a1, w1, hq, .pass (x := .inLoop c) rfl (fun _ _ => .inl (by simp)) harr⟩
 | goto l => exact ⟨_, a1, w1, hq, .pass (x := .inLoop c) rfl (fun _ _ => .inl (by simp)) harr⟩
 | ret => exact ⟨_, a1, w1, hq, .pass (x := .inLoop c) rfl (fun _ _ => .inl (by simp)) harr⟩
 | panic ch => exact ⟨_, a1, w1, hq, .pass (x := .inLoop c) rfl (fun _ _ => .inl (by simp)) harr⟩
 | outgrown => exact ⟨_, a1, w1, hq, .pass (x := .inLoop c) rfl (fun _ _ => .inl (by simp)) harr⟩
theorem d1S {P : Program} {c : Code} {Q : Exit → Act → World → Prop} {a : Act} {w : World} (h : c.wp P (Exit.then (c7H P c Q) Q) a w) : c7H P c Q a w := by
 intro b k cs
 obtain ⟨e, a', w', hq, harr⟩ := d0W h b k cs
 exact ⟨e, a', w', hq, .of_steps (.one step_inLoop) harr⟩
theorem e2W {P : Program} {c : Code} {Q : Exit → Act → World → Prop} {a : Act} {w : World} (h : c.wp P (Exit.then (c7H P c Q) Q) a w) : (Code.loop c).wp P Q a w := by
 intro b k cs
 obtain ⟨e, a', w', hq, harr⟩ := d0W h b k cs
 exact ⟨e, a', w', hq, .of_steps (.one step_loop) harr⟩
section
variable {base : World} {G0 own0 : Nat → Prop} {sz : Nat} {fr : List (List Value)}
structure KOk (base : World) (G0 own0 : Nat → Prop) (sz : Nat) (fr : List (List Value)) {R : Type} (T : R → Prop) (K : Kt R) (Q : Exit → Act → World → Prop) : Prop where
 norm : ∀ st c a, T (K.norm st) → Rep base G0 own0 sz fr c st a → Q .normal a c.w
 exit : ∀ i st c a, T (K.exit i st) → Rep base G0 own0 sz fr c st a → Q (.exit i) a c.w
 ret : ∀ st c a, T (K.ret st) → Rep base G0 own0 sz fr c st a → Q .ret a c.w
theorem c3K {X Y : Type} {R : X → Y → Prop} : ∀ {l : List X} {r : List Y} {l' : List X} {r' : List Y}, All2 R l r → All2 R l' r' → All2 R (l ++ l') (r ++ r')
 | [], [], _, _, _, h => h
 | _ :: _, _ :: _, _, _, h, h' => ⟨h.1, c3K h.2 h'⟩
 | [], _ :: _, _, _, h, _ => h.elim
 | _ :: _, [], _, _, h, _ => h.elim
theorem c5F {X Y : Type} {R : X → Y → Prop} : ∀ (n : Nat) {l : List X} {r : List Y}, All2 R l r → All2 R (l.take n) (r.take n) ∧ All2 R (l.drop n) (r.drop n)
 | 0, _, _, h => ⟨by simp only [List.take_zero]; trivial, by simpa using h⟩
 | n + 1, [], [], _ => ⟨trivial, trivial⟩
 | n + 1, _ :: _, _ :: _, h => ⟨⟨h.1, (c5F n h.2).1⟩, (c5F n h.2).2⟩
 | _ + 1, [], _ :: _, h => h.elim
 | _ + 1, _ :: _, [], h => h.elim
theorem d0R {c : Cx} : ∀ {l : List (List PV)} {r : List (List Value)}, All2 (All2 (VOk c)) l r → All2 (VOk c) l.flatten r.flatten
 | [], [], _ => trivial
 | _ :: _, _ :: _, h => c3K h.1 (d0R h.2)
 | [], _ :: _, h => h.elim
 | _ :: _, [], h => h.elim
theorem d5P {c : Cx} : ∀ (r : List (List Value)) (l : List PV), All2 (VOk c) l r.flatten → All2 (All2 (VOk c)) (c3X (r.map List.length) l) r
 | [], l, h => trivial
 | u :: r, l, h => by
  simp only [List.flatten_cons] at h
  obtain ⟨h1, h2⟩ := c5F u.length h
  rw [List.take_left' rfl] at h1
  rw [List.drop_left' rfl] at h2
  exact ⟨h1, d5P r _ h2⟩
theorem c9I {B B' : Blk} (h : b3L B B') : live B = live B' := by
 cases B <;> cases B' <;> first | rfl | exact h.elim | (simp [b3L] at h)
theorem c5O {c : Cx} (hM : Mem base G0 own0 c) {τ : Tm} {vs : List PV} {x : τ.D} {m0 m : Mt} (h : τ.extF m0 vs c.H = some (x, m)) :
  Mle m0 m ∧ ∃ c', (∀ i j, m.σ.get i = some j → c'.ρ i = c.ρ j) ∧ (∀ i j, m.σ.get i = some j → b3L (a0J (a2V τ.heap x.2) i) (a0J c.H j)) ∧ c'.w = c.w ∧ c'.H = a2V τ.heap x.2 ∧ Mem base G0 own0 c' ∧ ∀ us, All2 (VOk c) vs us → ∃ us', us = us' ++ us.drop τ.slots.length ∧ us'.length = τ.slots.length ∧ All2 (VOk c') (a1O τ.slots x.1) us' := by
 obtain ⟨t0, t1, t2, t3, t4, t5, t6⟩ := e2Q hM.blk h
 let ρ' : Nat → Value := fun i => match m.σ.get i with | some j => c.ρ j | none => .bool false
 have hlive : ∀ i, live (a0J (a2V τ.heap x.2) i) = true → ∃ j, m.σ.get i = some j ∧ live (a0J c.H j) = true := by
  intro i hi
  have hlt : i < τ.heap.length := by
   rcases Nat.lt_or_ge i τ.heap.length with h | h
   ·
    exact h
   ·
    rw [b1I _ _ (by rw [a7X]; exact h)] at hi; cases hi
  obtain ⟨j, hj⟩ := t3 i hlt
  exact ⟨j, hj, by rw [← c9I (t5 i j hj)]; exact hi⟩
 have hG : ∀ r, a9A c m.lent r → Gof base G0 c.w ρ' (a2V τ.heap x.2) r := by
  intro r hr
  have hbase : (G0 r ∨ base.heap.size ≤ r) ∧ r < c.w.heap.size := by
   rcases hr with hr | ⟨b, hb, hl, he⟩
   ·
    rw [hM.G] at hr; exact ⟨hr.1, hr.2.1⟩
   ·
    refine ⟨?_, (hM.blk b).lt hl he⟩
    rcases hM.own b r hl he with h | h
    ·
     exact .inl (hM.sub r h)
    ·
     exact .inr h
  refine ⟨hbase.1, hbase.2, fun i hi he => ?_⟩
  obtain ⟨j, hj, hlj⟩ := hlive i hi
  simp only [ρ', hj] at he
  rcases hr with hr | ⟨b, hb, hl, he'⟩
  ·
   rw [hM.G] at hr
   exact hr.2.2 j hlj he
  ·
   have : b = j := hM.inj b j r hl hlj he' he
   subst this
   have := (t1 b hb).1
   rw [b3V m.σ i b hj] at this
   cases this
 obtain ⟨hblk, hargs⟩ := t6 _ hG
 refine ⟨t0, a8Z c τ x m (Gof base G0 c.w ρ' (a2V τ.heap x.2)), fun i j hij => by simp [a8Z, hij], t5, rfl, rfl, ⟨hM.os, hM.tape, hM.output, hM.size, hM.frame, hblk, fun i i' r hi hi' he he' => ?_, fun i r hi he => ?_, rfl, hM.sub⟩, hargs⟩
 ·
  obtain ⟨j, hj, hlj⟩ := hlive i hi
  obtain ⟨j', hj', hlj'⟩ := hlive i' hi'
  simp only [a8Z, hj] at he
  simp only [a8Z, hj'] at he'
  have := hM.inj j j' r hlj hlj' he he'
  subst this
  exact t4 i i' j hj hj'
 ·
  obtain ⟨j, hj, hlj⟩ := hlive i hi
  simp only [a8Z, hj] at he
  exact hM.own j r hlj he
theorem d7G {c : Cx} (hM : Mem base G0 own0 c) {τ : Tm} {vs : List PV} {x : τ.D} {m : Mt} (h : τ.ext vs c.H = some (x, m)) :
  ∃ c', c'.w = c.w ∧ c'.H = a2V τ.heap x.2 ∧ Mem base G0 own0 c' ∧ ∀ us, All2 (VOk c) vs us → ∃ us', us = us' ++ us.drop τ.slots.length ∧ us'.length = τ.slots.length ∧ All2 (VOk c') (a1O τ.slots x.1) us' := by
 obtain ⟨_, c', _, _, h⟩ := c5O hM h
 exact ⟨c', h⟩
theorem Rep.lens {c : Cx} {st : St} {a : Act} (h : Rep base G0 own0 sz fr c st a) : st.lens = sz :: fr.map List.length := by
 have h1 := All2.len h.slots
 have h2 : ∀ {l : List (List PV)} {r : List (List Value)}, All2 (All2 (VOk c)) l r → l.map List.length = r.map List.length := by
  intro l
  induction l with
  | nil => intro r h; cases r with | nil => rfl | cons _ _ => exact h.elim
  | cons x l ih => intro r h; cases r with | nil => exact h.elim | cons y r => simp [All2.len h.1, ih h.2]
 simp only [St.lens, h1, h2 h.stk, Array.length_toList, h.size]
theorem Rep.flat {c : Cx} {st : St} {a : Act} (h : Rep base G0 own0 sz fr c st a) : All2 (VOk c) st.flat (a.tmps.toList ++ fr.flatten) := c3K h.slots (d0R h.stk)
theorem Rep.again {c : Cx} {st : St} {a : Act} (h : Rep base G0 own0 sz fr c st a) {τ : Tm} {x : τ.D} {m : Mt} (hx : τ.ext st.flat st.heap = some (x, m)) (hl : τ.slots.length = (a.tmps.toList ++ fr.flatten).length) :
  ∃ c', c'.w = c.w ∧ Rep base G0 own0 sz fr c' (e8W (sz :: fr.map List.length) τ x) a := by
 rw [← h.heap] at hx
 obtain ⟨c', hw, hH, hM, hargs⟩ := d7G h.mem hx
 obtain ⟨us', e1, e2, h3⟩ := hargs _ h.flat
 rw [List.drop_of_length_le (by omega), List.append_nil] at e1
 subst e1
 have hcut := d5P (a.tmps.toList :: fr) (a1O τ.slots x.1) (by simpa using h3)
 have hst : e8W (sz :: fr.map List.length) τ x = ⟨(a1O τ.slots x.1).take sz, c3X (fr.map List.length) ((a1O τ.slots x.1).drop sz), a2V τ.heap x.2⟩ := rfl
 have hsz : a.tmps.toList.length = sz := by rw [Array.length_toList]; exact h.size
 simp only [List.map_cons, c3X, hsz] at hcut
 refine ⟨c', hw, ?_⟩
 rw [hst]
 exact ⟨hM, hH, hcut.1, hcut.2, h.size, h.defers⟩
end
end Sym

/- What a call answers. -/
namespace Sym
open Go
section
variable {base : World} {G0 own0 : Nat → Prop} {sz : Nat} {fr : List (List Value)} {P : Program}
theorem b2W {f : FuncId} {fn : Func} {b : Code} {args : Array Value} {w : World} (hf : P.funcs[f]? = some fn) (hb : fn.body = some b) (hn : (fn.name == "runtime.NumGoroutine") = false) : (callFunc f args).run P w = .ok (.enter f args) w := by
 unfold callFunc
 rw [Sem.run_bind]
 have : (program : Sem Program).run P w = .ok P w := rfl
 rw [this, Result.andThen_ok]
 simp only [hf, hn, hb, Option.isNone_some]
 rfl
theorem e4P {c : Cx} (hM : Mem base G0 own0 c) {id : TypeId} {t s : Ty} (ht : TOk P t id) {b : Nat} {p : List Step} {v u : PV} {x : Value} (hx : VOk c (.ptr b p) x)
  (hb : a0J c.H b = .box s v) (hti : d3G s p t = true) (hg : b1J v p = some u) : ∃ ad v', x = .pointer (some ad) ∧ (loadVar id ad).run P c.w = .ok v' c.w ∧ fits u t = true ∧ ∃ cs, a1A c u cs ∧ v' = mkV (a3L u) cs := by
 have hp := c6M hx
 have hB := hM.blk b
 unfold PtrOk at hp
 unfold BlkOk at hB
 simp only [hb] at hp hB
 obtain ⟨r, off, u', hρ, hoff, hv⟩ := hp
 obtain ⟨r', cs, e, hρ', hh, hc, hfs⟩ := hB
 rw [hρ'] at hρ
 simp only [Value.pointer.injEq, Option.some.injEq, Addr.mk.injEq] at hρ
 obtain ⟨rfl, _, _⟩ := hρ
 have := b3Q hti hoff
 subst this
 obtain ⟨hf, hcu⟩ := b5U v s cs p off u' u hc hfs hoff hg
 have hl := a4Z _ _ _ hcu hf
 exact ⟨_, _, hv, b4K ht c.w r' off _ hl (c1G hh), hf, _, hcu, by rw [b8K hf]⟩
theorem c4P {c : Cx} {pv : PV} {v : Value} (h : VOk c pv v) (hp : b5Z pv = true) : ∃ cs, a1A c pv cs ∧ v = mkV (a3L pv) cs := by
 cases pv with
 | tup a => cases hp
 | undef => cases hp
 | _ => exact h
def d0Q (tmps : Array Value) : ResultVar → Sem Value
 | .tmp t => pure (tmps.getD t undef)
 | .cell a t => do loadVar t (← asAddr (tmps.getD a undef))
theorem c9D {E : Env} (hE : EnvOk E) {c : Cx} {st : St} {a : Act} (hr : Rep base G0 own0 sz fr c st a) : ∀ (l : List ResultVar) (rs : List PV), d4A E st l = some rs →
  ∃ vs : List Value, (l.mapM (d0Q a.tmps)).run E.P c.w = .ok vs c.w ∧ All2 (fun pv v => ∃ cs, a1A c pv cs ∧ v = mkV (a3L pv) cs) rs vs := by
 intro l
 induction l with
 | nil =>
  intro rs h
  simp only [d4A, Option.some.injEq] at h
  subst h
  exact ⟨[], by simp, trivial⟩
 | cons x l ih =>
  intro rs h
  cases x with
  | tmp t =>
   simp only [d4A] at h
   split at h
   ·
    rename_i hp
    split at h
    ·
     rename_i r hl
     simp only [Option.some.injEq] at h
     subst h
     obtain ⟨vs, h1, h2⟩ := ih r hl
     refine ⟨a.tmps.getD t undef :: vs, ?_, c4P (by rw [getD_toList]; exact b5Q t hr.slots) hp, h2⟩
     simp only [List.mapM_cons, d0Q, Sem.run_bind, Sem.run_pure, Result.andThen_ok, h1]
    ·
     cases h
   ·
    cases h
  | cell d t =>
   simp only [d4A] at h
   split at h
   ·
    rename_i u b p ht hd
    split at h
    ·
     rename_i s v hb
     split at h
     ·
      rename_i v' hti hg
      split at h
      ·
       rename_i r hl
       simp only [Option.some.injEq] at h
       subst h
       obtain ⟨vs, h1, h2⟩ := ih r hl
       have hx := b5Q d hr.slots
       rw [hd, ← getD_toList] at hx
       obtain ⟨ad, w', e1, e2, _, hcs⟩ := e4P hr.mem (hE.ty _ _ ht).ok hx (by rw [hr.heap]; exact hb) hti hg
       refine ⟨w' :: vs, ?_, hcs, h2⟩
       simp only [List.mapM_cons, d0Q, e1, asAddr, Sem.run_bind, Sem.run_pure, Result.andThen_ok, e2, h1]
      ·
       cases h
     ·
      cases h
    ·
     cases h
   ·
    cases h
theorem d7A {c : Cx} : ∀ (rs : List PV) (vs : List Value), All2 (fun pv v => ∃ cs, a1A c pv cs ∧ v = mkV (a3L pv) cs) rs vs → c6H c (rs.foldr .pair (.val .nil ())) vs
 | [], [], _ => rfl
 | p :: rs, v :: vs, h => by
  obtain ⟨⟨cs, h1, e⟩, h2⟩ := h
  exact ⟨cs, vs, by rw [e], h1, d7A rs vs h2⟩
 | [], _ :: _, h => h.elim
 | _ :: _, [], h => h.elim
theorem d5G {c : Cx} {pv : PV} {v : Value} (h : ∃ cs, a1A c pv cs ∧ v = mkV (a3L pv) cs) : VOk c pv v := by
 cases pv with
 | tup a => obtain ⟨cs, h1, _⟩ := h; exact h1.elim
 | undef => trivial
 | _ => exact h
def c2V (vs : List Value) : Value := if h : vs.toArray.size = 1 then vs.toArray[0] else .tuple vs.toArray
theorem c3R {c : Cx} {rs : List PV} {vs : List Value} (h2 : All2 (fun pv v => ∃ cs, a1A c pv cs ∧ v = mkV (a3L pv) cs) rs vs) : VOk c (tuple rs) (c2V vs) := by
 match rs, vs, h2 with
 | [], [], _ => exact ⟨[], rfl, rfl⟩
 | [p], [v], h2 => exact d5G h2.1
 | p :: q :: rs, v :: u :: vs, h2 =>
  show VOk c (.tup _) _
  refine ⟨v :: u :: vs, by simp [c2V], d7A (p :: q :: rs) _ h2⟩
theorem b9U {fn : Func} {tmps : Array Value} {w : World} {vs : List Value} (h1 : (fn.results.toList.mapM (d0Q tmps)).run P w = .ok vs w) : (results fn tmps).run P w = .ok (c2V vs) w := by
 have : results fn tmps = (do let vs ← fn.results.mapM (d0Q tmps); pure (if h : vs.size = 1 then vs[0] else .tuple vs)) := by
  unfold results
  congr 1
 rw [this, Array.mapM_eq_mapM_toList]
 simp only [Sem.run_bind, map_eq_pure_bind, Sem.run_pure, h1, Result.andThen_ok]
 rfl
theorem f5W {E : Env} (hE : EnvOk E) {c : Cx} {st : St} {a : Act} (hr : Rep base G0 own0 sz fr c st a) {fn : Func} {rs : List PV} (h : e1J E fn st = some rs) :
  ∃ v, (results fn a.tmps).run E.P c.w = .ok v c.w ∧ VOk c (tuple rs) v := by
 obtain ⟨vs, h1, h2⟩ := c9D hE hr _ _ h
 exact ⟨_, b9U h1, c3R h2⟩
theorem c4Q : ∀ (l : List Sh) (x : ShD l), l.all (fun s => !s.isDead) = true → ∀ v ∈ a1O l x, b5Z v = true := by
 intro l
 induction l with
 | nil => intro x _ v hv; simp [a1O] at hv
 | cons s l ih =>
  intro x h v hv
  simp only [List.all_cons, Bool.and_eq_true, Bool.not_eq_true'] at h
  cases s with
  | dead => cases h.1
  | pl t => simp only [a1O, List.mem_cons] at hv; rcases hv with rfl | hv; rfl; exact ih _ h.2 v hv
  | bp t => simp only [a1O, List.mem_cons] at hv; rcases hv with rfl | hv; rfl; exact ih _ h.2 v hv
  | pair p q => simp only [a1O, List.mem_cons] at hv; rcases hv with rfl | hv; rfl; exact ih _ h.2 v hv
  | iface p q => simp only [a1O, List.mem_cons] at hv; rcases hv with rfl | hv; rfl; exact ih _ h.2 v hv
  | clo p q => simp only [a1O, List.mem_cons] at hv; rcases hv with rfl | hv; rfl; exact ih _ h.2 v hv
  | _ => simp only [a1O, List.mem_cons] at hv; rcases hv with rfl | hv; rfl; exact ih _ h.2 v hv
theorem c1D {c : Cx} : ∀ (rs : List PV) (vs : List Value), (∀ v ∈ rs, b5Z v = true) → All2 (VOk c) rs vs → All2 (fun pv v => ∃ cs, a1A c pv cs ∧ v = mkV (a3L pv) cs) rs vs
 | [], [], _, _ => trivial
 | p :: rs, v :: vs, h, hh => ⟨c4P hh.1 (h p (by simp)), c1D rs vs (fun q hq => h q (by simp [hq])) hh.2⟩
 | [], _ :: _, _, h => h.elim
 | _ :: _, [], _, h => h.elim
end
end Sym

/- The evaluator of code tells what the machine does: the theorem. -/
namespace Sym
open Go
def d9K (P : Program) : Prop := ∀ (f : FuncId) (fn : Func), P.funcs[f]? = some fn → (fn.name == "runtime.NumGoroutine") = false
theorem e0N {X : Type} : ∀ (n : Nat) (x : X), b4L n x = List.replicate n x
 | 0, _ => rfl
 | n + 1, x => by simp [b4L, List.replicate_succ, e0N n x]
theorem c9W {c : Cx} {fn : Func} {vs : List PV} {us : List Value} (h : All2 (VOk c) vs us) : All2 (VOk c) (frame fn vs) (us.toArray ++ Array.replicate (fn.ntmps - us.toArray.size) undef).toList := by
 have hl := All2.len h
 unfold frame
 simp only [Array.toList_append, Array.toList_replicate, List.size_toArray]
 refine c3K h ?_
 rw [hl, e0N]
 generalize fn.ntmps - us.length = n
 induction n with
 | zero => trivial
 | succ n ih => exact ⟨c9K, ih⟩
section
variable {base : World} {G0 own0 : Nat → Prop}
theorem f4Z {E : Env} (hE : EnvOk E) (hodd : d9K E.P) (A : a4E) (k : Nat) : ∀ (n : Nat) (R : Type) (T : R → Prop) (fail : R) (path : List Nat) (cur : Nat) (code : Code) (K : Kt R) (st : St) (c : Cx) (a : Act) (sz : Nat) (fr : List (List Value)) (Q : Exit → Act → World → Prop),
  ¬ T fail → T (ev E A k n R fail path cur code K st) → Rep base G0 own0 sz fr c st a → KOk base G0 own0 sz fr T K Q → code.wp E.P Q a c.w := by
 intro n
 induction n with
 | zero => intro R T fail path cur code K st c a sz fr Q hf h; exact absurd h hf
 | succ n ih =>
  intro R T fail path cur code K st c a sz fr Q hf h hr hK
  have hno : ∀ {x : Prop}, T fail → x := fun h => absurd h hf
  cases code with
  | skip => exact wp_skip (hK.norm st c a h hr)
  | seq x y =>
   simp only [ev] at h
   split at h
   ·
    rename_i τ _
    split at h
    ·
     rename_i hl
     have hlens := hr.lens
     have hlen : ∀ (c' : Cx) (st' : St) (a' : Act), Rep base G0 own0 sz fr c' st' a' → τ.slots.length = (a'.tmps.toList ++ fr.flatten).length := by
      intro c' st' a' hr'
      have h1 := Nat.eq_of_beq_eq_true hl
      have h2 := All2.len hr.flat
      have h3 := hr.size
      have h4 := hr'.size
      rw [h1, h2]
      simp only [List.length_append, Array.length_toList]
      omega
     rw [hlens] at h
     unfold jn at h
     refine wp_seq (ih R T fail path cur x _ st c a sz fr _ hf h hr ⟨fun st c a h hr => ?_, fun i st c a h hr => hK.exit i st c a h hr, fun st c a h hr => hK.ret st c a h hr⟩)
     simp only at h
     split at h
     ·
      rename_i z mt hz
      obtain ⟨c', hw, hr'⟩ := hr.again hz (hlen c st a hr)
      have := ih R T fail path cur y K _ c' a sz fr Q hf h hr' hK
      rw [hw] at this
      exact this
     ·
      exact hno h
    ·
     exact hno h
   ·
    refine wp_seq (ih R T fail path cur x _ st c a sz fr _ hf h hr ⟨fun st c a h hr => ?_, fun i st c a h hr => hK.exit i st c a h hr, fun st c a h hr => hK.ret st c a h hr⟩)
    exact ih R T fail path cur y K st c a sz fr Q hf h hr hK
  | cond o x y =>
   simp only [ev] at h
   split at h
   ·
    rename_i b hb
    have ho := e7Y hr.slots o
    rw [hb] at ho
    have ho := c6C ho
    cases hb' : (show Bool from b) with
    | true =>
     simp only [hb', brn, cond_true] at h
     exact wp_cond_true (ho.trans (by rw [hb'])) (ih R T fail path cur x K st c a sz fr Q hf h hr hK)
    | false =>
     simp only [hb', brn, cond_false] at h
     exact wp_cond_false (ho.trans (by rw [hb'])) (ih R T fail path cur y K st c a sz fr Q hf h hr hK)
   ·
    exact hno h
  | block id b =>
   simp only [ev] at h
   refine wp_block (ih R T fail path id b _ st c a sz fr _ hf h hr ⟨fun st c a h hr => hK.norm st c a h hr, fun i st c a h hr => ?_, fun st c a h hr => hK.ret st c a h hr⟩)
   simp only [Exit.inBlock]
   simp only at h
   split at h
   ·
    rename_i hid
    rw [if_pos (Nat.eq_of_beq_eq_true hid)]
    exact hK.norm st c a h hr
   ·
    rename_i hid
    rw [if_neg (fun e => by rw [e, Nat.beq_refl] at hid; cases hid)]
    exact hK.exit i st c a h hr
  | exit id => exact wp_exit (hK.exit id st c a h hr)
  | ret => exact wp_ret (hK.ret st c a h hr)
  | region id ops draw =>
   simp only [ev] at h
   cases draw with
   | true =>
    simp only at h
    split at h
    ·
     rename_i hA
     exact e3Q hE hf hA (fun st c a h hr => hK.norm st c a h hr) h hr
    ·
     exact hno h
   | false =>
    simp only at h
    refine wp_region ?_
    have := e4S (Q := Q) hE hf (inl := _) ?_ ops (fun st c a h hr => hK.norm st c a h hr) ops.toList [] st c a (by simp) h hr
    ·
     simpa [List.range_eq_range'] using this
    ·
     intro i f vs st next c a us Kw h hhow hr hargs hKw
     simp only at h
     split at h
     ·
      rename_i fn hfn
      split at h
      ·
       rename_i body hb
       refine ⟨b2W hfn hb (hodd f fn hfn), calls_of_wp hfn hb ?_⟩
       refine ih R T fail _ 0 body _ ⟨frame fn vs, st.slots :: st.stk, st.heap⟩ c _ _ (a.tmps.toList :: fr) _ hf h ⟨hr.mem, hr.heap, c9W hargs, ⟨hr.slots, hr.stk⟩, rfl, rfl⟩ ?_
       have fin : ∀ s c' a', T (match e1J E fn s, s.stk with | some rs, s0 :: r => next (tuple rs) ⟨s0, r, s.heap⟩ | _, _ => fail) → Rep base G0 own0 (us.toArray ++ Array.replicate (fn.ntmps - us.toArray.size) undef).size (a.tmps.toList :: fr) c' s a' →
         a'.defers = [] ∧ ∃ v, (results fn a'.tmps).run E.P c'.w = .ok v c'.w ∧ ∃ v', Ending.returned v = .returned v' ∧ Kw v' c'.w := by
        intro s c' a' h hr'
        split at h
        ·
         rename_i rs s0 r hrs hstk
         obtain ⟨v, h1, h2⟩ := f5W hE hr' hrs
         refine ⟨hr'.defers, v, h1, v, rfl, hKw _ _ c' v h ⟨hr'.mem, hr'.heap, ?_, ?_, hr.size, hr.defers⟩ h2⟩
         ·
          have := hr'.stk; rw [hstk] at this; exact this.1
         ·
          have := hr'.stk; rw [hstk] at this; exact this.2
        ·
         exact hno h
       exact ⟨fun s c' a' h hr' => fin s c' a' h hr', fun i s c' a' h _ => hno h, fun s c' a' h hr' => fin s c' a' h hr'⟩
      ·
       exact hno h
     ·
      exact hno h
  | loop b =>
   simp only [ev] at h
   split at h
   ·
    rename_i m _
    have key : ∀ (m : Nat) (st : St) (c : Cx) (a : Act), T (unroll fail (fun again st => ev E A k n R fail path cur b ⟨again, K.exit, K.ret⟩ st) m st) → Rep base G0 own0 sz fr c st a → b.wp E.P (Exit.then (c7H E.P b Q) Q) a c.w := by
     intro m
     induction m with
     | zero => intro st c a h; exact hno h
     | succ m ihm =>
      intro st c a h hr
      exact ih R T fail path cur b _ st c a sz fr _ hf h hr ⟨fun st c a h hr => d1S (ihm st c a h hr), fun i st c a h hr => hK.exit i st c a h hr, fun st c a h hr => hK.ret st c a h hr⟩
    exact e2W (key m st c a h hr)
   ·
    rename_i τ _
    split at h
    ·
     rename_i x mt hx hl
     have hlens := hr.lens
     have hlen : ∀ (c' : Cx) (st' : St) (a' : Act), Rep base G0 own0 sz fr c' st' a' → τ.slots.length = (a'.tmps.toList ++ fr.flatten).length := by
      intro c' st' a' hr'
      have h1 := Nat.eq_of_beq_eq_true hl
      have h2 := All2.len hr.flat
      have h3 := hr.size
      have h4 := hr'.size
      rw [h1, h2]
      simp only [List.length_append, Array.length_toList]
      omega
     rw [hlens] at h
     have key : ∀ (j : Nat) (x : τ.D) (c : Cx) (a : Act), T (iter fail (fun x => ev E A k n (Stp τ.D R) (.done fail) path cur b
       ⟨fun st => match τ.ext st.flat st.heap with | some (y, _) => .again y | none => .done fail, fun i st => .done (K.exit i st), fun st => .done (K.ret st)⟩ (e8W (sz :: fr.map List.length) τ x)) j x) →
       Rep base G0 own0 sz fr c (e8W (sz :: fr.map List.length) τ x) a → b.wp E.P (Exit.then (c7H E.P b Q) Q) a c.w := by
      intro j
      induction j with
      | zero => intro x c a h; exact hno h
      | succ j ihj =>
       intro x c a h hr
       let T' : Stp τ.D R → Prop := fun s => match s with
        | .again y => T (iter fail (fun x => ev E A k n (Stp τ.D R) (.done fail) path cur b
          ⟨fun st => match τ.ext st.flat st.heap with | some (y, _) => .again y | none => .done fail, fun i st => .done (K.exit i st), fun st => .done (K.ret st)⟩ (e8W (sz :: fr.map List.length) τ x)) j y)
        | .done r => T r
       refine ih (Stp τ.D R) T' (.done fail) path cur b
        ⟨fun st => match τ.ext st.flat st.heap with | some (y, _) => .again y | none => .done fail, fun i st => .done (K.exit i st), fun st => .done (K.ret st)⟩ (e8W (sz :: fr.map List.length) τ x) c a sz fr _ hf ?_ hr ⟨fun st c a h hr => ?_, fun i st c a h hr => hK.exit i st c a h hr, fun st c a h hr => hK.ret st c a h hr⟩
       ·
        simp only [iter] at h
        simp only [T']
        split at h
        ·
         rename_i y hy; simp only [hy]; exact h
        ·
         rename_i r hy; simp only [hy]; exact h
       ·
        simp only at h
        split at h
        ·
         rename_i y mt hy
         obtain ⟨c', hw, hr'⟩ := hr.again hy (hlen c st a hr)
         have := d1S (ihj y c' a h hr')
         rw [hw] at this
         exact this
        ·
         exact hno h
     obtain ⟨c', hw, hr'⟩ := hr.again hx (hlen c st a hr)
     have := e2W (key k x c' a h hr')
     rw [hw] at this
     exact this
    ·
     exact hno h
   ·
    exact hno h
  | _ => simp only [ev] at h; exact hno h
end
theorem d2O : ∀ (l : List BSh) (x : d7T l) (i : Nat), i < a8A l → ∃ t v, a0J (a2V l x) i = .box t v
 | .box t s :: l, x, 0, _ => ⟨t, _, rfl⟩
 | .box t s :: l, x, i + 1, h => d2O l x.2 i (by simpa [a8A] using h)
 | [], _, _, h => by simp [a8A] at h
 | .row _ :: _, _, _, h => by simp [a8A] at h
theorem f4Y {c : Cx} {i : Nat} {t : Ty} {v : PV} (hB : BlkOk c i) (hb : a0J c.H i = .box t v) : VOk c (.ptr i []) (c.ρ i) := by
 unfold BlkOk at hB
 rw [hb] at hB
 obtain ⟨r, cs, ty, h1, _⟩ := hB
 refine ⟨[c.ρ i], ⟨c.ρ i, rfl, by rw [h1]; rfl, ?_⟩, rfl⟩
 unfold PtrOk
 rw [hb]
 exact ⟨r, 0, t, h1, by cases t <;> rfl, h1⟩
theorem f2D {c : Cx} {i : Nat} {t : Ty} {v : PV} {u : Value} (hb : a0J c.H i = .box t v) (h : VOk c (.ptr i []) u) : u = c.ρ i := by
 obtain ⟨cs, ⟨w, e, _, h1⟩, h2⟩ := h
 subst e
 have h2 : u = w := h2
 subst h2
 unfold PtrOk at h1
 rw [hb] at h1
 obtain ⟨r, o, u', h3, h4, h5⟩ := h1
 have : o = 0 := by
  have e : a2C t [] = some (0, t) := by cases t <;> rfl
  rw [e] at h4
  exact ((Prod.mk.inj (Option.some.inj h4)).1).symm
 rw [h5, h3, this]
def c7C (ρ : Nat → Value) : Nat → Nat → List Value
 | _, 0 => []
 | i, n + 1 => ρ i :: c7C ρ (i + 1) n
theorem d1I (ρ : Nat → Value) : ∀ (n i j : Nat), j < n → (c7C ρ i n)[j]? = some (ρ (i + j))
 | 0, _, _, h => by omega
 | n + 1, i, 0, _ => rfl
 | n + 1, i, j + 1, h => by
  simp only [c7C, List.getElem?_cons_succ]
  rw [d1I ρ n (i + 1) j (by omega), show i + 1 + j = i + (j + 1) by omega]
theorem d2I {c : Cx} {l : List BSh} {x : d7T l} (hB : ∀ i, BlkOk c i) (hH : c.H = a2V l x) : ∀ (n i : Nat), i + n ≤ a8A l → All2 (VOk c) (e1F i n) (c7C c.ρ i n)
 | 0, _, _ => trivial
 | n + 1, i, h => by
  obtain ⟨t, v, hb⟩ := d2O l x i (by omega)
  exact ⟨f4Y (hB i) (by rw [hH]; exact hb), d2I hB hH n (i + 1) (by omega)⟩
def c8M (ρ : Nat → Value) (l : List BSh) : List (List Value) :=
 match a8A l with
 | 0 => []
 | n + 1 => [c7C ρ 0 (n + 1)]
theorem d9O {c : Cx} {l : List BSh} {x : d7T l} (hB : ∀ i, BlkOk c i) (hH : c.H = a2V l x) : All2 (All2 (VOk c)) (c8W l) (c8M c.ρ l) := by
 unfold c8W c8M
 cases h : a8A l with
 | zero => trivial
 | succ n => exact ⟨d2I hB hH (n + 1) 0 (by omega), trivial⟩
theorem d3V (ρ : Nat → Value) (l : List BSh) {st : List (List PV)} {c : Cx} (h : All2 (All2 (VOk c)) st (c8M ρ l)) : All2 (VOk c) (f1X st) (c7C ρ 0 (a8A l)) := by
 unfold c8M at h
 cases hk : a8A l with
 | zero =>
  rw [hk] at h
  cases st with
  | nil => exact trivial
  | cons _ _ => exact h.elim
 | succ n =>
  rw [hk] at h
  cases st with
  | nil => exact h.elim
  | cons s r => exact h.1
theorem d7C {X Y : Type} {R : X → Y → Prop} : ∀ {l : List X} {r : List Y} (i : Nat) {y : Y}, All2 R l r → r[i]? = some y → ∃ x, l[i]? = some x ∧ R x y
 | [], [], _, _, _, h => by simp at h
 | x :: l, y :: r, 0, z, h, hi => by
  simp only [List.getElem?_cons_zero, Option.some.injEq] at hi
  subst hi
  exact ⟨x, rfl, h.1⟩
 | x :: l, y :: r, i + 1, z, h, hi => by
  obtain ⟨w, h1, h2⟩ := d7C i h.2 (by simpa using hi)
  exact ⟨w, by simpa using h1, h2⟩
 | [], _ :: _, _, _, h, _ => h.elim
 | _ :: _, [], _, _, h, _ => h.elim
theorem a0H {E : Env} (hE : EnvOk E) (hodd : d9K E.P) {f : FuncId} {C : Con} (h : ∀ x y, C.F x = some y → ∃ A n k, a0X E A f C.In C.Out n k x = some y) (hko : c1I C.In.heap C.Out.heap = true := by rfl) : a1K E.P f C := by
 intro x y hxy c vals hS hH hargs
 obtain ⟨A, n, k, h⟩ := h x y hxy
 unfold a0X at h
 split at h
 ·
  rename_i fn hfn
  split at h
  ·
   rename_i body hb
   right
   refine ⟨b2W hfn hb (hodd f fn hfn), calls_of_wp hfn hb ?_⟩
   have hM := hS.mem
   refine f4Z hE hodd A k n (Option C.Out.D) (fun r => r = some y) none [f] 0 body _ ⟨frame fn (a1O C.In.slots x.1), c8W C.In.heap, a2V C.In.heap x.2⟩ c _ _ (c8M c.ρ C.In.heap) _ (by simp) h ⟨hM, hH, c9W hargs, d9O hS.blk hH, rfl, rfl⟩ ?_
   have fin : ∀ (s : St) (c' : Cx) (a' : Act), c8J E fn C.Out s = some y →
     Rep c.w (e3Y c) (c0Q c) (vals.toArray ++ Array.replicate (fn.ntmps - vals.toArray.size) undef).size (c8M c.ρ C.In.heap) c' s a' →
     a'.defers = [] ∧ ∃ v, (results fn a'.tmps).run E.P c'.w = .ok v c'.w ∧ ∃ v', Ending.returned v = .returned v' ∧ ∃ c2 : Cx, c2.w = c'.w ∧ c2.H = a2V C.Out.heap y.2 ∧ VOk c2 (tuple (a1O C.Out.slots y.1)) v' ∧ Mem c.w (e3Y c) (c0Q c) c2 ∧ ∀ i, i < a8A C.In.heap → c2.ρ i = c.ρ i := by
    intro s c' a' h hr
    unfold c8J at h
    split at h
    ·
     rename_i rs σ hrs hσ
     split at h
     ·
      rename_i z m hz hlen
      have h := Option.some.inj h
      subst h
      simp only [Bool.and_eq_true] at hlen
      obtain ⟨vs, h1, h2⟩ := c9D hE hr _ _ hrs
      rw [← hr.heap] at hz
      obtain ⟨hle, c2, hρ2, hsim, hw, hH2, hM2, hargs2⟩ := c5O hr.mem hz
      obtain ⟨us', e1, e2, h3⟩ := hargs2 vs (All2.mono (fun _ _ h => d5G h) _ _ h2)
      have hl := Nat.eq_of_beq_eq_true hlen.1
      rw [List.drop_of_length_le (by have := All2.len h2; omega), List.append_nil] at e1
      subst e1
      refine ⟨hr.defers, _, b9U h1, _, rfl, c2, hw, hH2, c3R (c1D _ _ (c4Q _ _ hlen.2) h3), hM2, fun i hi => ?_⟩
      have hhd := d3V c.ρ C.In.heap hr.stk
      obtain ⟨pv, q1, q2⟩ := d7C i hhd (d1I c.ρ (a8A C.In.heap) 0 i hi)
      rw [Nat.zero_add] at q2
      obtain ⟨_, q3⟩ := d7D _ _ _ _ hσ
      obtain ⟨b, q4, q5⟩ := q3 i (by
       rcases Nat.lt_or_ge i (f1X s.stk).length with h | h
       ·
        exact h
       ·
        rw [List.getElem?_eq_none h] at q1; cases q1)
      rw [q1] at q4
      have q4 := Option.some.inj q4
      subst q4
      rw [Nat.zero_add] at q5
      have q6 := hle.1 i b q5
      obtain ⟨t, w, w', g1, g2⟩ := (c3E _ _ x.2 z.2 hko i hi).2
      have hs := hsim i b q6
      rw [g2] at hs
      rw [hρ2 i b q6]
      cases hcb : a0J c'.H b with
      | box t' v' => exact (f2D hcb q2).symm
      | _ => rw [hcb] at hs; simp [b3L] at hs
     ·
      cases h
    ·
     cases h
   exact ⟨fun s c' a' h hr => fin s c' a' h hr, fun i s c' a' h _ => (by cases h), fun s c' a' h hr => fin s c' a' h hr⟩
  ·
   cases h
 ·
  cases h
section
variable {base : World} {G0 own0 : Nat → Prop}
theorem b5Y {v : Value} (h : v.oneCell' = true) : ∀ vs, v ≠ .tuple vs := by
 intro vs e
 subst e
 cases h
theorem e2O {c : Cx} (hM : Mem base G0 own0 c) {n : Nat} (hown : ∀ b r, live (a0J c.H b) = true → a3V (c.ρ b) = some r → n ≤ r) {s : Sh} {pv : PV} (hf : d0A c.H s pv = true) {v : Value} (hv : VOk c pv v) : b8Z n v ∧ ∀ vs, v ≠ .tuple vs := by
 cases s with
 | pl t =>
  simp only [d0A] at hf
  split at hf
  ·
   rename_i x hx
   obtain ⟨us, hc, e, hE⟩ := b7B hM hv hx
   simp only [Bool.or_eq_true, Bool.not_eq_true'] at hf
   rcases hf with hf | hf
   ·
    have h1 := a8P (n := n) t hf hE
    cases t with
    | int k => simp only [Enc] at hE; subst hE; exact ⟨by rw [e]; exact h1 _ (List.mem_singleton_self _), by intro vs h; rw [e] at h; cases h⟩
    | bool => simp only [Enc] at hE; subst hE; exact ⟨by rw [e]; exact h1 _ (List.mem_singleton_self _), by intro vs h; rw [e] at h; cases h⟩
    | str => obtain ⟨hE, _⟩ := hE; subst hE; exact ⟨by rw [e]; exact h1 _ (List.mem_singleton_self _), by intro vs h; rw [e] at h; cases h⟩
    | opq => exact hE.elim
    | sl t => cases hf
    | nil => rw [e]; exact ⟨fun ad l cap h => (by cases h), fun vs h => (by cases h)⟩
    | cons a b => rw [e]; exact ⟨fun ad l cap h => (by cases h), fun vs h => (by cases h)⟩
    | arr k t => rw [e]; exact ⟨fun ad l cap h => (by cases h), fun vs h => (by cases h)⟩
   ·
    cases pv with
    | nils =>
     obtain ⟨cs, h1, h2⟩ := hv
     have : cs = [.slice none 0 0] := h1
     subst this
     rw [h2]
     exact ⟨fun ad l cap h => (by cases h), fun vs h => (by cases h)⟩
    | whole b =>
     obtain ⟨cs, ⟨u, e1, h1, hw⟩, h2⟩ := hv
     subst e1
     have h2 : v = u := h2
     subst h2
     unfold a8I at hw
     have hl : live (a0J c.H b) = true := hf
     cases hb : a0J c.H b with
     | row t l =>
      simp only [hb] at hw
      refine ⟨fun ad l cap h => .inr ?_, b5Y h1⟩
      refine hown b ad.block hl ?_
      rw [← hw, h]; rfl
     | dead => simp [hb, live] at hl
     | unborn => simp [hb, live] at hl
     | box t l => simp [hb] at hw
    | row b lo k =>
     obtain ⟨cs, ⟨u, e1, h1, hw⟩, h2⟩ := hv
     subst e1
     have h2 : v = u := h2
     subst h2
     unfold c0P at hw
     have hl : live (a0J c.H b) = true := hf
     cases hb : a0J c.H b with
     | row t l =>
      simp only [hb] at hw
      obtain ⟨_, ⟨h0, a, cap, h3⟩ | ⟨r, cap, cap', h3, h4, _⟩⟩ := hw
      ·
       refine ⟨fun ad l cap h => .inl ?_, b5Y h1⟩
       rw [h3] at h; cases h; rfl
      ·
       refine ⟨fun ad l cap h => .inr ?_, b5Y h1⟩
       rw [h4] at h
       cases h
       exact hown b r hl (by rw [h3]; rfl)
     | dead => simp [hb, live] at hl
     | unborn => simp [hb, live] at hl
     | box t l => simp [hb] at hw
    | _ => simp at hf
  ·
   cases hf
 | _ => simp [d0A] at hf
theorem d2S {c : Cx} (hM : Mem base G0 own0 c) {n : Nat} (hown : ∀ b r, live (a0J c.H b) = true → a3V (c.ρ b) = some r → n ≤ r) : ∀ (l : List Sh) (rs : List PV) (vs : List Value), b8C c.H l rs = true → All2 (VOk c) rs vs → ∀ u ∈ vs, b8Z n u ∧ ∀ ws, u ≠ .tuple ws
 | [], [], [], _, _ => fun u hu => by simp at hu
 | [], [], _ :: _, _, h => h.elim
 | [], _ :: _, _, h, _ => by simp [b8C] at h
 | _ :: _, [], _, h, _ => by simp [b8C] at h
 | _ :: _, _ :: _, [], _, h => h.elim
 | s :: l, p :: rs, v :: vs, h, ha => by
  simp only [b8C, Bool.and_eq_true] at h
  intro u hu
  simp only [List.mem_cons] at hu
  rcases hu with rfl | hu
  ·
   exact e2O hM hown h.1 ha.1
  ·
   exact d2S hM hown l rs vs h.2 ha.2 u hu
end
theorem d2Y {n : Nat} {vs : List Value} (h : ∀ u ∈ vs, b8Z n u ∧ ∀ ws, u ≠ .tuple ws) : d1D n (c2V vs) := by
 match vs, h with
 | [], _ => exact ⟨fun ad l cap h => (by simp [c2V] at h), fun ws h u hu => by simp [c2V] at h; subst h; simp at hu⟩
 | [v], h => exact ⟨(h v (by simp)).1, fun ws e => absurd e ((h v (by simp)).2 ws)⟩
 | v :: w :: r, h => exact ⟨fun ad l cap h => (by simp [c2V] at h), fun ws e u hu => by simp [c2V] at e; subst e; exact (h u (by simpa using hu)).1⟩
theorem d4D {E : Env} (hE : EnvOk E) (hodd : d9K E.P) {f : FuncId} {C : Con} (h : ∀ x y, C.F x = some y → ∃ A n k, c5B E A f C.In C.Out n k x = some y) : b8I E.P f C := by
 intro x y hxy c vals hS hH hargs
 obtain ⟨A, n, k, h⟩ := h x y hxy
 unfold c5B at h
 split at h
 ·
  rename_i fn hfn
  split at h
  ·
   rename_i body hb hin
   right
   refine ⟨b2W hfn hb (hodd f fn hfn), calls_of_wp hfn hb ?_⟩
   have hM := hS.mem
   have hH0 : c.H = [] := by
    have h1 : (a2V C.In.heap x.2).length = 0 := (a7X C.In.heap x.2).trans (congrArg List.length hin)
    rw [hH]
    exact List.eq_nil_of_length_eq_zero h1
   refine f4Z hE hodd A k n (Option C.Out.D) (fun r => r = some y) none [f] 0 body _ ⟨frame fn (a1O C.In.slots x.1), [], []⟩ c _ _ [] _ (by simp) h ⟨hM, hH0, c9W hargs, trivial, rfl, rfl⟩ ?_
   have hnoown : ∀ r, ¬ c0Q c r := by
    rintro r ⟨b, hb, _⟩
    simp [hH0, a0J, live] at hb
   have fin : ∀ (s : St) (c' : Cx) (a' : Act), c3N E fn C.Out s = some y →
     Rep c.w (e3Y c) (c0Q c) (vals.toArray ++ Array.replicate (fn.ntmps - vals.toArray.size) undef).size [] c' s a' →
     a'.defers = [] ∧ ∃ v, (results fn a'.tmps).run E.P c'.w = .ok v c'.w ∧ ∃ v', Ending.returned v = .returned v' ∧ (∃ c2 : Cx, c2.w = c'.w ∧ c2.H = a2V C.Out.heap y.2 ∧ VOk c2 (tuple (a1O C.Out.slots y.1)) v' ∧ Mem c.w (e3Y c) (c0Q c) c2) ∧ d1D c.w.heap.size v' := by
    intro s c' a' h hr
    unfold c3N at h
    split at h
    ·
     rename_i rs hrs0
     split at h
     ·
      rename_i hfa
      unfold c8J at h
      split at h
      ·
       rename_i rs' σ hrs hσ
       rw [hrs0] at hrs
       have hrr := Option.some.inj hrs
       subst hrr
       split at h
       ·
        rename_i z m hz hlen
        have h := Option.some.inj h
        subst h
        simp only [Bool.and_eq_true] at hlen
        obtain ⟨vs, h1, h2⟩ := c9D hE hr _ _ hrs0
        rw [← hr.heap] at hz hfa
        obtain ⟨_, c2, _, _, hw, hH2, hM2, hargs2⟩ := c5O hr.mem hz
        have hvs := All2.mono (fun _ _ h => d5G h) _ _ h2
        obtain ⟨us', e1, e2, h3⟩ := hargs2 vs hvs
        have hl := Nat.eq_of_beq_eq_true hlen.1
        rw [List.drop_of_length_le (by have := All2.len h2; omega), List.append_nil] at e1
        subst e1
        refine ⟨hr.defers, _, b9U h1, _, rfl, ⟨c2, hw, hH2, c3R (c1D _ _ (c4Q _ _ hlen.2) h3), hM2⟩, d2Y (d2S hr.mem (fun b r hl he => ?_) _ _ _ hfa hvs)⟩
        rcases hr.mem.own b r hl he with h | h
        ·
         exact absurd h (hnoown r)
        ·
         exact h
       ·
        cases h
      ·
       cases h
     ·
      cases h
    ·
     cases h
   exact ⟨fun s c' a' h hr => fin s c' a' h hr, fun i s c' a' h _ => (by cases h), fun s c' a' h hr => fin s c' a' h hr⟩
  ·
   cases h
 ·
  cases h
end Sym

/- Functions without a body: sums with a carry. -/
namespace Sym
open Go
abbrev u64 : Ty := .int .u64
def b1D (x : (⟨[.pl u64, .pl u64, .pl u64], []⟩ : Tm).D) : Option (⟨[.pl u64, .pl u64], []⟩ : Tm).D :=
 match Nat.ble (I.nat (k := .u64) x.1.2.2.1) 1 with
 | true => some ((I.of .u64 (x.1.1.val + x.1.2.1.val + x.1.2.2.1.val), I.of .u64 ((x.1.1.val + x.1.2.1.val + x.1.2.2.1.val) / 18446744073709551616), ()), ())
 | false => none
def b9D (x : (⟨[.pl u64, .pl u64, .pl u64], []⟩ : Tm).D) : Option (⟨[.pl u64, .pl u64], []⟩ : Tm).D :=
 match Nat.ble (I.nat (k := .u64) x.1.2.2.1) 1 with
 | true => some ((I.of .u64 (x.1.1.val - x.1.2.1.val - x.1.2.2.1.val), I.of .u64 (bif decide (x.1.1.val < x.1.2.1.val + x.1.2.2.1.val) then 1 else 0), ()), ())
 | false => none
def c4N : Con := ⟨_, _, b1D⟩
def d7I : Con := ⟨_, _, b9D⟩
def f0M : Array Value → Sem Value := fun args => do
 let (x, y, c) ← Extern.MathBitsCarry.three "Add64" args
 pure (Extern.MathBitsCarry.pair ((x + y + c) % Extern.MathBitsCarry.m64) ((x + y + c) / Extern.MathBitsCarry.m64))
def f0L : Array Value → Sem Value := fun args => do
 let (x, y, b) ← Extern.MathBitsCarry.three "Sub64" args
 pure (Extern.MathBitsCarry.pair ((x + Extern.MathBitsCarry.m64 - y - b) % Extern.MathBitsCarry.m64) (if x < y + b then 1 else 0))
theorem b6A (x : I .u64) : 0 ≤ x.val ∧ x.val < 18446744073709551616 := by
 have h := x.ok
 simp only [IntKind.wrap, IntKind.bits, IntKind.signed, Bool.false_and, Bool.false_eq_true, if_false] at h
 constructor
 ·
  rw [← h]; exact Int.emod_nonneg _ (by decide)
 ·
  rw [← h]; exact Int.emod_lt_of_pos _ (by decide)
theorem wrap_u64 (n : Int) : IntKind.u64.wrap n = n % 18446744073709551616 := rfl
theorem c7D {P : Program} {f : FuncId} {fn : Func} {e : Array Value → Sem Value} (hf : P.funcs[f]? = some fn) (hb : fn.body = none) (hn : (fn.name == "runtime.NumGoroutine") = false) (hx : (Extern.findNext fn).isNone = true) (he : Extern.find fn = some e) (args : Array Value) (w : World) {v : Value} (hr : (e args).run P w = .ok v w) :
  (callFunc f args).run P w = .ok (.value v) w := by
 unfold callFunc
 rw [Sem.run_bind]
 have : (program : Sem Program).run P w = .ok P w := rfl
 rw [this, Result.andThen_ok]
 simp only [hf, hn, hb, Option.isNone_none, if_true, Bool.false_eq_true, if_false]
 rw [Option.isNone_iff_eq_none] at hx
 simp only [hx, he]
 rw [Sem.run_bind]
 have hm : (mark (.extern f) : Sem Unit).run P w = .ok () w := rfl
 rw [hm, Result.andThen_ok]
 simp [hr]
theorem d1Y {P : Program} {s : String} {w : World} (x y c : I .u64) (hc : Nat.ble c.nat 1 = true) : (Extern.MathBitsCarry.three s #[.int .u64 x.val, .int .u64 y.val, .int .u64 c.val]).run P w = .ok (x.nat, y.nat, c.nat) w := by
 have hc : ¬ c.val.toNat > 1 := by have := Nat.le_of_ble_eq_true hc; simp only [I.nat] at this; omega
 have h3 : ∀ (x y c : Value), Extern.MathBitsCarry.three s #[x, y, c] = (do
  let c := (← asInt c).toNat
  if c > 1 then unsupported (.noEntry ("extern/math/bits." ++ s ++ ": a carry that is neither 0 nor 1"))
  pure ((← asInt x).toNat, (← asInt y).toNat, c)) := fun _ _ _ => rfl
 rw [h3]
 have ha : ∀ (i : I .u64), (asInt (.int .u64 i.val)).run P w = .ok i.val w := fun i => rfl
 simp only [Sem.run_bind, ha, Result.andThen_ok, hc, if_false, Sem.run_pure]
 rfl
theorem d0X {P : Program} {f : FuncId} {F : (⟨[.pl u64, .pl u64, .pl u64], []⟩ : Tm).D → Option (⟨[.pl u64, .pl u64], []⟩ : Tm).D}
  (h : ∀ (x y c : I .u64) (z q : I .u64), F ((x, y, c, ()), ()) = some ((z, q, ()), ()) → ∀ w, (callFunc f #[.int .u64 x.val, .int .u64 y.val, .int .u64 c.val]).run P w = .ok (.value (.tuple #[.int .u64 z.val, .int .u64 q.val])) w) :
  a1K P f ⟨_, _, F⟩ := by
 rintro ⟨⟨x, y, c, ⟨⟩⟩, ⟨⟩⟩ ⟨⟨z, q, ⟨⟩⟩, ⟨⟩⟩ hF cx vals hS hH hargs
 match vals, hargs with
 | [a, b, d], ⟨h1, h2, h3, _⟩ =>
  left
  rw [b1E h1, b1E h2, b1E h3]
  refine ⟨_, _, h x y c z q hF cx.w, cx, rfl, hH, ⟨[_, _], rfl, [_], [_], rfl, rfl, [_], [], rfl, rfl, rfl⟩, hS.mem, fun _ _ => rfl⟩
theorem e4C {P : Program} {f : FuncId} {fn : Func} (hf : P.funcs[f]? = some fn) (hb : fn.body = none) (hn : (fn.name == "runtime.NumGoroutine") = false) (hx : (Extern.findNext fn).isNone = true) (he : Extern.find fn = some f0M) : a1K P f c4N := by
 refine d0X fun x y c z q hF w => c7D hf hb hn hx he _ w ?_
 simp only [b1D] at hF
 split at hF
 ·
  rename_i hc
  have hF := Option.some.inj hF
  have e1 := congrArg (fun (p : (I .u64 × I .u64 × Unit) × Unit) => p.1.1) hF
  have e2 := congrArg (fun (p : (I .u64 × I .u64 × Unit) × Unit) => p.1.2.1) hF
  simp only at e1 e2
  subst e1 e2
  simp only [f0M, Sem.run_bind, d1Y x y c hc, Result.andThen_ok, Sem.run_pure]
  have rx := b6A x
  have ry := b6A y
  have rc := b6A c
  have hc : c.val.toNat ≤ 1 := Nat.le_of_ble_eq_true hc
  unfold Extern.MathBitsCarry.pair I.nat Extern.MathBitsCarry.m64
  congr
  ·
   show Int.ofNat _ = IntKind.u64.wrap _
   rw [wrap_u64]
   try simp only [Int.ofNat_eq_natCast]
   omega
  ·
   show Int.ofNat _ = IntKind.u64.wrap _
   rw [wrap_u64]
   try simp only [Int.ofNat_eq_natCast]
   omega
 ·
  cases hF
theorem e4A {P : Program} {f : FuncId} {fn : Func} (hf : P.funcs[f]? = some fn) (hb : fn.body = none) (hn : (fn.name == "runtime.NumGoroutine") = false) (hx : (Extern.findNext fn).isNone = true) (he : Extern.find fn = some f0L) : a1K P f d7I := by
 refine d0X fun x y c z q hF w => c7D hf hb hn hx he _ w ?_
 simp only [b9D] at hF
 split at hF
 ·
  rename_i hc
  have hF := Option.some.inj hF
  have e1 := congrArg (fun (p : (I .u64 × I .u64 × Unit) × Unit) => p.1.1) hF
  have e2 := congrArg (fun (p : (I .u64 × I .u64 × Unit) × Unit) => p.1.2.1) hF
  simp only at e1 e2
  subst e1 e2
  simp only [f0L, Sem.run_bind, d1Y x y c hc, Result.andThen_ok, Sem.run_pure]
  have rx := b6A x
  have ry := b6A y
  have rc := b6A c
  have hc : c.val.toNat ≤ 1 := Nat.le_of_ble_eq_true hc
  unfold Extern.MathBitsCarry.pair I.nat Extern.MathBitsCarry.m64
  congr
  ·
   show Int.ofNat _ = IntKind.u64.wrap _
   rw [wrap_u64]
   try simp only [Int.ofNat_eq_natCast]
   omega
  ·
   show Int.ofNat _ = IntKind.u64.wrap _
   rw [wrap_u64]
   by_cases hlt : x.val < y.val + c.val
   ·
    rw [if_pos (by omega)]
    simp [hlt]
   ·
    rw [if_neg (by omega)]
    simp [hlt]
 ·
  cases hF
end Sym

/- An environment out of lists. -/
namespace Sym
open Go
def d8X {X : Type} : List (Nat × X) → Nat → Option X
 | [], _ => none
 | (i, x) :: l, n => match Nat.beq i n with
  | true => some x
  | false => d8X l n
theorem b7C {X : Type} : ∀ {l : List (Nat × X)} {n : Nat} {x : X}, d8X l n = some x → (n, x) ∈ l
 | (i, y) :: l, n, x, h => by
  simp only [d8X] at h
  split at h
  ·
   rename_i hb
   have := Nat.eq_of_beq_eq_true hb
   subst this
   simp only [Option.some.injEq] at h
   subst h
   exact List.mem_cons_self
  ·
   exact List.mem_cons_of_mem _ (b7C h)
def g9U : List Nat → Nat → Bool
 | [], _ => false
 | i :: l, n => Nat.beq i n || g9U l n
def e5R : List (Nat × String × FuncId × Option Nat) → Nat → String → Option (FuncId × Option Nat)
 | [], _, _ => none
 | (i, s, f, d) :: l, n, m => match Nat.beq i n && s == m with
  | true => some (f, d)
  | false => e5R l n m
def a1S (P : Program) (tys : List (Nat × Ty)) (eqs : List (Nat × Ty)) (hows : List (Nat × How)) (own : List Nat := []) (meths : List (Nat × String × FuncId × Option Nat) := []) : Env := ⟨P, d8X tys, d8X eqs, d8X hows, g9U own, e5R meths⟩
theorem d7P {P : Program} : ∀ {l : List (Nat × String × FuncId × Option Nat)} {n : Nat} {m : String} {f : FuncId} {d : Option Nat}, l.all (fun x => e1P P x.1 x.2.1 x.2.2.1 x.2.2.2) = true → e5R l n m = some (f, d) → c2W P n m f d
 | [], _, _, _, _, _, h => by cases h
 | (i, s, g, e) :: l, n, m, f, d, ha, h => by
  simp only [List.all_cons, Bool.and_eq_true] at ha
  simp only [e5R] at h
  split at h
  ·
   rename_i hb
   simp only [Bool.and_eq_true, beq_iff_eq] at hb
   have h1 := Nat.eq_of_beq_eq_true hb.1
   have h2 := hb.2
   simp only [Option.some.injEq, Prod.mk.injEq] at h
   obtain ⟨rfl, rfl⟩ := h
   subst h1 h2
   exact f3R ha.1
  ·
   exact d7P ha.2 h
def HowsOk (P : Program) : List (Nat × How) → Prop
 | [] => True
 | (f, .con C) :: l => a1K P f C ∧ HowsOk P l
 | (_, .inl) :: l => HowsOk P l
 | (f, .fresh C) :: l => b8I P f C ∧ HowsOk P l
theorem HowsOk.con {P : Program} : ∀ {l : List (Nat × How)} {f : FuncId} {C : Con}, HowsOk P l → (f, How.con C) ∈ l → a1K P f C
 | (g, .con D) :: l, f, C, h, hm => by
  simp only [List.mem_cons] at hm
  rcases hm with hm | hm
  ·
   injection hm with h1 h2
   injection h2 with h2
   subst h1 h2
   exact h.1
  ·
   exact HowsOk.con h.2 hm
 | (g, .inl) :: l, f, C, h, hm => by
  simp only [List.mem_cons] at hm
  rcases hm with hm | hm
  ·
   injection hm with h1 h2
   cases h2
  ·
   exact HowsOk.con (l := l) h hm
 | (g, .fresh D) :: l, f, C, h, hm => by
  simp only [List.mem_cons] at hm
  rcases hm with hm | hm
  ·
   injection hm with h1 h2
   cases h2
  ·
   exact HowsOk.con h.2 hm
theorem HowsOk.fresh {P : Program} : ∀ {l : List (Nat × How)} {f : FuncId} {C : Con}, HowsOk P l → (f, How.fresh C) ∈ l → b8I P f C
 | (g, .fresh D) :: l, f, C, h, hm => by
  simp only [List.mem_cons] at hm
  rcases hm with hm | hm
  ·
   injection hm with h1 h2
   injection h2 with h2
   subst h1 h2
   exact h.1
  ·
   exact HowsOk.fresh h.2 hm
 | (g, .inl) :: l, f, C, h, hm => by
  simp only [List.mem_cons] at hm
  rcases hm with hm | hm
  ·
   injection hm with h1 h2
   cases h2
  ·
   exact HowsOk.fresh (l := l) h hm
 | (g, .con D) :: l, f, C, h, hm => by
  simp only [List.mem_cons] at hm
  rcases hm with hm | hm
  ·
   injection hm with h1 h2
   cases h2
  ·
   exact HowsOk.fresh h.2 hm
def g4M (P : Program) (id : TypeId) (t : Ty) : Bool := tiB P id t && (t.isOpq || (e2I P t id && (Nat.ble t.dep 9000 && (!t.isAgg || !P.eqGuardType P.depth id))))
theorem g2G {P : Program} {id : TypeId} {t : Ty} (h : g4M P id t = true) : EqI P id t := by
 unfold g4M at h
 simp only [Bool.and_eq_true, Bool.or_eq_true, Bool.not_eq_true'] at h
 obtain ⟨h1, h2⟩ := h
 refine ⟨(e6E h1).ok, ?_⟩
 rcases h2 with h2 | ⟨h2, h3, h4⟩
 ·
  left; cases t <;> first | rfl | cases h2
 ·
  right; exact ⟨h2, Nat.le_of_ble_eq_true h3, fun ha => h4.resolve_left (by rw [ha]; simp)⟩
theorem a1T {P : Program} {tys eqs : List (Nat × Ty)} {hows : List (Nat × How)} (h1 : tys.all (fun x => tiB P x.1 x.2) = true) (h2 : eqs.all (fun x => g4M P x.1 x.2) = true) (h3 : HowsOk P hows) (h4 : P.follows .mixedOrders = true) {own : List Nat} {meths : List (Nat × String × FuncId × Option Nat)} (h5 : meths.all (fun x => e1P P x.1 x.2.1 x.2.2.1 x.2.2.2) = true := by rfl) : EnvOk (a1S P tys eqs hows own meths) := by
 refine ⟨fun id t h => ?_, fun id t h => ?_, fun f C h => h3.con (b7C h), fun f C h => h3.fresh (b7C h), h4, fun t name f d h => d7P h5 h⟩
 ·
  rw [List.all_eq_true] at h1
  exact e6E (h1 _ (b7C h))
 ·
  rw [List.all_eq_true] at h2
  exact g2G (h2 _ (b7C h))
theorem e5P {P : Program} (h : P.funcs.toList.all (fun fn => !(fn.name == "runtime.NumGoroutine")) = true) : d9K P := by
 intro f fn hf
 rw [List.all_eq_true] at h
 have : fn ∈ P.funcs.toList := by
  rw [← Array.getElem?_toList] at hf
  exact List.mem_of_getElem? hf
 have := h fn this
 simpa using this
end Sym

/- Whole numbers of 256 bits: what the four words are worth. -/
namespace Sym
open Go
abbrev U : Type := I .u64 × I .u64 × I .u64 × I .u64 × Unit
abbrev a1C : Ty := .arr 4 (.int .u64)
abbrev i64 : Ty := .int .i64
theorem a1L (x : I .u64) : (x.nat : Int) = x.val := by
 have := (b6A x).1
 simp only [I.nat]; omega
theorem a1Q (x : I .u64) : x.nat < 18446744073709551616 := by
 have := b6A x
 simp only [I.nat]; omega
theorem b4M {n : Nat} (h : n < 18446744073709551616) : (I.of .u64 (n : Int)).nat = n := by
 show (IntKind.u64.wrap n).toNat = n
 rw [wrap_u64]; omega
theorem d6W (x : I .u64) : I.of .u64 (x.nat : Int) = x := by
 apply I.ext'
 show IntKind.u64.wrap _ = _
 rw [a1L]; exact x.ok
def U.val (a : U) : Nat := a.1.nat + 18446744073709551616 * (a.2.1.nat + 18446744073709551616 * (a.2.2.1.nat + 18446744073709551616 * a.2.2.2.1.nat))
def U.of (n : Nat) : U := (I.of .u64 ((n % 18446744073709551616 : Nat) : Int), I.of .u64 ((n / 18446744073709551616 % 18446744073709551616 : Nat) : Int), I.of .u64 ((n / 340282366920938463463374607431768211456 % 18446744073709551616 : Nat) : Int), I.of .u64 ((n / 6277101735386680763835789423207666416102355444464034512896 % 18446744073709551616 : Nat) : Int), ())
def U.top : Nat := 115792089237316195423570985008687907853269984665640564039457584007913129639936
theorem U.lt (a : U) : a.val < U.top := by
 have h0 := a1Q a.1
 have h1 := a1Q a.2.1
 have h2 := a1Q a.2.2.1
 have h3 := a1Q a.2.2.2.1
 unfold U.val U.top
 omega
theorem U.val_of {n : Nat} (h : n < U.top) : (U.of n).val = n := by
 unfold U.val U.of
 unfold U.top at h
 simp only
 rw [b4M (by omega), b4M (by omega), b4M (by omega), b4M (by omega)]
 omega
theorem U.ext {a b : U} (h : a.val = b.val) : a = b := by
 obtain ⟨a0, a1, a2, a3, ⟨⟩⟩ := a
 obtain ⟨b0, b1, b2, b3, ⟨⟩⟩ := b
 unfold U.val at h
 simp only at h
 have i0 := a1Q a0
 have i1 := a1Q a1
 have i2 := a1Q a2
 have i3 := a1Q a3
 have j0 := a1Q b0
 have j1 := a1Q b1
 have j2 := a1Q b2
 have j3 := a1Q b3
 have e : ∀ {x y : I .u64}, x.nat = y.nat → x = y := fun {x y} h => by rw [← d6W x, ← d6W y, h]
 rw [e (show a0.nat = b0.nat by omega), e (show a1.nat = b1.nat by omega), e (show a2.nat = b2.nat by omega), e (show a3.nat = b3.nat by omega)]
theorem U.of_val (a : U) : U.of a.val = a := U.ext (U.val_of a.lt)
theorem b0E (x y c : I .u64) (hc : c.nat ≤ 1) : ∃ z q : I .u64, b1D ((x, y, c, ()), ()) = some ((z, q, ()), ()) ∧ z.nat + 18446744073709551616 * q.nat = x.nat + y.nat + c.nat ∧ q.nat ≤ 1 := by
 have hb : Nat.ble c.nat 1 = true := by rw [Nat.ble_eq]; exact hc
 refine ⟨_, _, by simp only [b1D, hb]; rfl, ?_⟩
 have hx := a1L x
 have hy := a1L y
 have hcv := a1L c
 have lx := a1Q x
 have ly := a1Q y
 rw [← hx, ← hy, ← hcv]
 have e1 : (I.of .u64 ((x.nat : Int) + y.nat + c.nat)).nat = (x.nat + y.nat + c.nat) % 18446744073709551616 := by
  show (IntKind.u64.wrap _).toNat = _
  rw [wrap_u64]; omega
 have e2 : (I.of .u64 (((x.nat : Int) + y.nat + c.nat) / 18446744073709551616)).nat = (x.nat + y.nat + c.nat) / 18446744073709551616 := by
  show (IntKind.u64.wrap _).toNat = _
  rw [wrap_u64]; omega
 rw [e1, e2]
 omega
theorem b2U (x y c : I .u64) (hc : c.nat ≤ 1) : ∃ z q : I .u64, b9D ((x, y, c, ()), ()) = some ((z, q, ()), ()) ∧ z.nat + y.nat + c.nat = x.nat + 18446744073709551616 * q.nat ∧ q.nat ≤ 1 := by
 have hb : Nat.ble c.nat 1 = true := by rw [Nat.ble_eq]; exact hc
 refine ⟨_, _, by simp only [b9D, hb]; rfl, ?_⟩
 have hx := a1L x
 have hy := a1L y
 have hcv := a1L c
 have lx := a1Q x
 have ly := a1Q y
 rw [← hx, ← hy, ← hcv]
 have e1 : ((I.of .u64 ((x.nat : Int) - y.nat - c.nat)).nat : Int) = ((x.nat : Int) - y.nat - c.nat) % 18446744073709551616 := by
  show ((IntKind.u64.wrap _).toNat : Int) = _
  rw [wrap_u64]; omega
 by_cases h : (x.nat : Int) < y.nat + c.nat
 ·
  have e2 : (I.of .u64 (bif decide ((x.nat : Int) < y.nat + c.nat) then 1 else 0)).nat = 1 := by simp [h]; rfl
  rw [e2]
  omega
 ·
  have e2 : (I.of .u64 (bif decide ((x.nat : Int) < y.nat + c.nat) then 1 else 0)).nat = 0 := by simp [h]; rfl
  rw [e2]
  omega
end Sym

/- What the functions of uint256 compute, told of whole numbers. (The functions are as the printer gave them.) -/
namespace Sym
open Go
abbrev UU : Tm := ⟨[.pl a1C, .pl a1C], []⟩
abbrev UE : Tm := ⟨[.pl a1C, .pl i64], []⟩
def a1Z (x : UU.D) : Option UE.D :=
 let a : U := x.1.1
 let b : U := x.1.2.1
 optF (none) (b1D ((a.1, (b.1, ((I.of .u64 0), ()))), ())) fun y0 =>
 optF (none) (b1D ((a.2.1, (b.2.1, (y0.1.2.1, ()))), ())) fun y1 =>
 optF (none) (b1D ((a.2.2.1, (b.2.2.1, (y1.1.2.1, ()))), ())) fun y2 =>
 optF (none) (b1D ((a.2.2.2.1, (b.2.2.2.1, (y2.1.2.1, ()))), ())) fun y3 =>
 brn (@I.neb .u64 y3.1.2.1 (I.of .u64 0))
 (some ((((I.of .u64 0), ((I.of .u64 0), ((I.of .u64 0), ((I.of .u64 0), ())))), ((I.of .i64 4), ())), ()))
 (some (((y0.1.1, (y1.1.1, (y2.1.1, (y3.1.1, ())))), ((I.of .i64 0), ())), ()))
def a9N (x : UU.D) : Option UE.D :=
 let a : U := x.1.1
 let b : U := x.1.2.1
 optF (none) (b9D ((a.1, (b.1, ((I.of .u64 0), ()))), ())) fun y0 =>
 optF (none) (b9D ((a.2.1, (b.2.1, (y0.1.2.1, ()))), ())) fun y1 =>
 optF (none) (b9D ((a.2.2.1, (b.2.2.1, (y1.1.2.1, ()))), ())) fun y2 =>
 optF (none) (b9D ((a.2.2.2.1, (b.2.2.2.1, (y2.1.2.1, ()))), ())) fun y3 =>
 brn (@I.neb .u64 y3.1.2.1 (I.of .u64 0))
 (some ((((I.of .u64 0), ((I.of .u64 0), ((I.of .u64 0), ((I.of .u64 0), ())))), ((I.of .i64 4), ())), ()))
 (some (((y0.1.1, (y1.1.1, (y2.1.1, (y3.1.1, ())))), ((I.of .i64 0), ())), ()))
def a4N (x : UU.D) : Option (⟨[.pl i64], []⟩ : Tm).D :=
 let a : U := x.1.1
 let b : U := x.1.2.1
 brn (@I.ltb .u64 a.2.2.2.1 b.2.2.2.1)
 (some (((I.of .i64 (-1)), ()), ()))
 (brn (@I.ltb .u64 b.2.2.2.1 a.2.2.2.1)
  (some (((I.of .i64 1), ()), ()))
  (brn (@I.ltb .u64 a.2.2.1 b.2.2.1)
  (some (((I.of .i64 (-1)), ()), ()))
  (brn (@I.ltb .u64 b.2.2.1 a.2.2.1)
   (some (((I.of .i64 1), ()), ()))
   (brn (@I.ltb .u64 a.2.1 b.2.1)
   (some (((I.of .i64 (-1)), ()), ()))
   (brn (@I.ltb .u64 b.2.1 a.2.1)
    (some (((I.of .i64 1), ()), ()))
    (brn (@I.ltb .u64 a.1 b.1)
    (some (((I.of .i64 (-1)), ()), ()))
    (brn (@I.ltb .u64 b.1 a.1)
     (some (((I.of .i64 1), ()), ()))
     (some (((I.of .i64 0), ()), ())))))))))
theorem d6J (x : I .u64) : I.neb x (I.of .u64 0) = !decide (x.nat = 0) := by
 unfold I.neb
 have : (I.of .u64 0).val = 0 := rfl
 rw [this, ← a1L]
 congr 1
 simp
theorem b3A (x y : I .u64) : I.ltb x y = decide (x.nat < y.nat) := by
 unfold I.ltb
 rw [← a1L, ← a1L]
 simp
def f4E (a b : U) : U × I .i64 := if a.val + b.val < U.top then (U.of (a.val + b.val), I.of .i64 0) else (U.of 0, I.of .i64 4)
def d7O (a b : U) : U × I .i64 := if b.val ≤ a.val then (U.of (a.val - b.val), I.of .i64 0) else (U.of 0, I.of .i64 4)
def d2X (a b : U) : I .i64 := if a.val < b.val then I.of .i64 (-1) else if b.val < a.val then I.of .i64 1 else I.of .i64 0
theorem b0M (a b : U) : a1Z ((a, b, ()), ()) = some (((f4E a b).1, (f4E a b).2, ()), ()) := by
 obtain ⟨a0, a1, a2, a3, ⟨⟩⟩ := a
 obtain ⟨b0, b1, b2, b3, ⟨⟩⟩ := b
 obtain ⟨z0, q0, h0, e0, l0⟩ := b0E a0 b0 (I.of .u64 0) (by decide)
 obtain ⟨z1, q1, h1, e1, l1⟩ := b0E a1 b1 q0 l0
 obtain ⟨z2, q2, h2, e2, l2⟩ := b0E a2 b2 q1 l1
 obtain ⟨z3, q3, h3, e3, l3⟩ := b0E a3 b3 q2 l2
 have ez : (I.of .u64 0).nat = 0 := rfl
 rw [ez] at e0
 have n0 := a1Q z0
 have n1 := a1Q z1
 have n2 := a1Q z2
 have n3 := a1Q z3
 have step : a1Z ((((a0, a1, a2, a3, ()) : U), ((b0, b1, b2, b3, ()) : U), ()), ()) = brn (@I.neb .u64 q3 (I.of .u64 0)) (some ((U.of 0, I.of .i64 4, ()), ())) (some ((((z0, z1, z2, z3, ()) : U), I.of .i64 0, ()), ())) := by
  unfold a1Z
  simp only [h0, optF, h1, h2, h3]
  rfl
 rw [step, d6J]
 unfold f4E
 have hs : U.val (a0, a1, a2, a3, ()) + U.val (b0, b1, b2, b3, ()) = U.val (z0, z1, z2, z3, ()) + U.top * q3.nat := by
  unfold U.val U.top
  simp only
  omega
 have hz := U.lt (z0, z1, z2, z3, ())
 by_cases hq : q3.nat = 0
 ·
  rw [hq, Nat.mul_zero, Nat.add_zero] at hs
  rw [hs, if_pos hz, U.of_val]
  simp [hq]; rfl
 ·
  have hq1 : q3.nat = 1 := by omega
  rw [hq1, Nat.mul_one] at hs
  rw [hs, if_neg (by omega)]
  simp [hq1]; rfl
theorem b9A (a b : U) : a9N ((a, b, ()), ()) = some (((d7O a b).1, (d7O a b).2, ()), ()) := by
 obtain ⟨a0, a1, a2, a3, ⟨⟩⟩ := a
 obtain ⟨b0, b1, b2, b3, ⟨⟩⟩ := b
 obtain ⟨z0, q0, h0, e0, l0⟩ := b2U a0 b0 (I.of .u64 0) (by decide)
 obtain ⟨z1, q1, h1, e1, l1⟩ := b2U a1 b1 q0 l0
 obtain ⟨z2, q2, h2, e2, l2⟩ := b2U a2 b2 q1 l1
 obtain ⟨z3, q3, h3, e3, l3⟩ := b2U a3 b3 q2 l2
 have ez : (I.of .u64 0).nat = 0 := rfl
 rw [ez] at e0
 have n0 := a1Q z0
 have n1 := a1Q z1
 have n2 := a1Q z2
 have n3 := a1Q z3
 have step : a9N ((((a0, a1, a2, a3, ()) : U), ((b0, b1, b2, b3, ()) : U), ()), ()) = brn (@I.neb .u64 q3 (I.of .u64 0)) (some ((U.of 0, I.of .i64 4, ()), ())) (some ((((z0, z1, z2, z3, ()) : U), I.of .i64 0, ()), ())) := by
  unfold a9N
  simp only [h0, optF, h1, h2, h3]
  rfl
 rw [step, d6J]
 unfold d7O
 have hs : U.val (z0, z1, z2, z3, ()) + U.val (b0, b1, b2, b3, ()) = U.val (a0, a1, a2, a3, ()) + U.top * q3.nat := by
  unfold U.val U.top
  simp only
  omega
 have key : ∀ va vb vz q : Nat, vz + vb = va + U.top * q → vz < U.top → q ≤ 1 → (q = 0 → vb ≤ va ∧ va - vb = vz) ∧ (q = 1 → ¬ vb ≤ va) := by
  intro va vb vz q h1 h2 h3
  refine ⟨fun h => ?_, fun h => ?_⟩
  ·
   subst h; rw [Nat.mul_zero] at h1; omega
  ·
   subst h; rw [Nat.mul_one] at h1; omega
 obtain ⟨k0, k1⟩ := key _ _ _ _ hs (U.lt (z0, z1, z2, z3, ())) l3
 by_cases hq : q3.nat = 0
 ·
  obtain ⟨k2, k3⟩ := k0 hq
  rw [if_pos k2, k3, U.of_val]
  simp [hq]; rfl
 ·
  have hq1 : q3.nat = 1 := by omega
  rw [if_neg (k1 hq1)]
  simp [hq1]; rfl
theorem a8V (a b : U) : a4N ((a, b, ()), ()) = some ((d2X a b, ()), ()) := by
 obtain ⟨a0, a1, a2, a3, ⟨⟩⟩ := a
 obtain ⟨b0, b1, b2, b3, ⟨⟩⟩ := b
 unfold a4N d2X U.val
 simp only [b3A]
 have n0 := a1Q a0
 have n1 := a1Q a1
 have n2 := a1Q a2
 have n3 := a1Q a3
 have m0 := a1Q b0
 have m1 := a1Q b1
 have m2 := a1Q b2
 have m3 := a1Q b3
 by_cases c1 : a3.nat < b3.nat
 ·
  simp only [c1, decide_true, cond_true, brn]; rw [if_pos (by omega)]; rfl
 by_cases c2 : b3.nat < a3.nat
 ·
  simp only [c1, c2, decide_true, decide_false, cond_true, cond_false, brn]; rw [if_neg (by omega), if_pos (by omega)]; rfl
 by_cases c3 : a2.nat < b2.nat
 ·
  simp only [c1, c2, c3, decide_true, decide_false, cond_true, cond_false, brn]; rw [if_pos (by omega)]; rfl
 by_cases c4 : b2.nat < a2.nat
 ·
  simp only [c1, c2, c3, c4, decide_true, decide_false, cond_true, cond_false, brn]; rw [if_neg (by omega), if_pos (by omega)]; rfl
 by_cases c5 : a1.nat < b1.nat
 ·
  simp only [c1, c2, c3, c4, c5, decide_true, decide_false, cond_true, cond_false, brn]; rw [if_pos (by omega)]; rfl
 by_cases c6 : b1.nat < a1.nat
 ·
  simp only [c1, c2, c3, c4, c5, c6, decide_true, decide_false, cond_true, cond_false, brn]; rw [if_neg (by omega), if_pos (by omega)]; rfl
 by_cases c7 : a0.nat < b0.nat
 ·
  simp only [c1, c2, c3, c4, c5, c6, c7, decide_true, decide_false, cond_true, cond_false, brn]; rw [if_pos (by omega)]; rfl
 by_cases c8 : b0.nat < a0.nat
 ·
  simp only [c1, c2, c3, c4, c5, c6, c7, c8, decide_true, decide_false, cond_true, cond_false, brn]; rw [if_neg (by omega), if_pos (by omega)]; rfl
 ·
  simp only [c1, c2, c3, c4, c5, c6, c7, c8, decide_false, cond_false, brn]; rw [if_neg (by omega), if_neg (by omega)]; rfl
end Sym

/- Rounds: more than any run takes, and never counted out. -/
namespace Sym
open Go
noncomputable def e2Z (l : List Nat) : List (I .u8) := l.map fun (n : Nat) => I.of .u8 (n : Int)
theorem d7Q : ∃ k : Nat, k = 2 ^ 64 := ⟨_, rfl⟩
noncomputable def K0 : Nat := Classical.choose d7Q
theorem a5J : K0 = 2 ^ 64 := Classical.choose_spec d7Q
end Sym

/- The given functions as plain functions, as the printer told them. -/
namespace Sym
open Go
noncomputable section
def a4H (x : (⟨[.pl (.sl (.int .i64))], []⟩ : Tm).D) : Option (⟨[.pl (.sl (.int .i64))], []⟩ : Tm).D :=
 let a : List (I .i64) := x.1.1
 iter none (fun x0 => brn (I.ltb (I.of .i64 0) x0.1.2.1) (brn (inB (I.sub x0.1.2.1 (I.of .i64 1)) (@a0O (I .i64) x0.1.1)) (brn (I.eqb (@rdL (I .i64) (I.of .i64 0) x0.1.1 (I.nat (I.sub x0.1.2.1 (I.of .i64 1)))) (I.of .i64 0)) (.again ((x0.1.1,((I.sub x0.1.2.1 (I.of .i64 1)),())),())) (.done (brn (inB' x0.1.2.1 (@a0O (I .i64) x0.1.1)) (some (((@a6E (I .i64) x0.1.1 0 (I.nat x0.1.2.1)),()),())) none))) (.done none)) (.done (brn (inB' x0.1.2.1 (@a0O (I .i64) x0.1.1)) (some (((@a6E (I .i64) x0.1.1 0 (I.nat x0.1.2.1)),()),())) none))) K0 ((a,((I.ofNat .i64 (@a0O (I .i64) a)),())),())
def a3Q (x : (⟨[.pl (.sl (.int .i64)), .pl (.sl (.int .i64))], []⟩ : Tm).D) : Option (⟨[.pl (.int .i64)], []⟩ : Tm).D :=
 let a : List (I .i64) := x.1.1
 let b : List (I .i64) := x.1.2.1
 brn (I.neb (I.ofNat .i64 (@a0O (I .i64) a)) (I.ofNat .i64 (@a0O (I .i64) b))) (brn (I.ltb (I.ofNat .i64 (@a0O (I .i64) a)) (I.ofNat .i64 (@a0O (I .i64) b))) (some (((I.of .i64 (-1)),()),())) (some ((I.of .i64 1,()),()))) (iter none (fun x0 => brn (I.leb (I.of .i64 0) x0.1.2.2.1) (brn (inB x0.1.2.2.1 (@a0O (I .i64) x0.1.1)) (brn (inB x0.1.2.2.1 (@a0O (I .i64) x0.1.2.1)) (brn (I.ltb (@rdL (I .i64) (I.of .i64 0) x0.1.1 (I.nat x0.1.2.2.1)) (@rdL (I .i64) (I.of .i64 0) x0.1.2.1 (I.nat x0.1.2.2.1))) (.done (some (((I.of .i64 (-1)),()),()))) (brn (inB x0.1.2.2.1 (@a0O (I .i64) x0.1.1)) (brn (inB x0.1.2.2.1 (@a0O (I .i64) x0.1.2.1)) (brn (I.ltb (@rdL (I .i64) (I.of .i64 0) x0.1.2.1 (I.nat x0.1.2.2.1)) (@rdL (I .i64) (I.of .i64 0) x0.1.1 (I.nat x0.1.2.2.1))) (.done (some ((I.of .i64 1,()),()))) (.again ((x0.1.1,(x0.1.2.1,((I.sub x0.1.2.2.1 (I.of .i64 1)),()))),()))) (.done none)) (.done none))) (.done none)) (.done none)) (.done (some ((I.of .i64 0,()),())))) K0 ((a,(b,((I.sub (I.ofNat .i64 (@a0O (I .i64) a)) (I.of .i64 1)),()))),()))
def a2X (x : (⟨[.pl (.sl (.int .i64)), .pl (.sl (.int .i64))], []⟩ : Tm).D) : Option (⟨[.pl (.sl (.int .i64))], []⟩ : Tm).D :=
 let a : List (I .i64) := x.1.1
 let b : List (I .i64) := x.1.2.1
 brn (inB' (I.ofNat .i64 (@a0O (I .i64) a)) (I.nat (I.ofNat .i64 (@a0O (I .i64) a)))) (brn (inB' (I.ofNat .i64 (@a0O (I .i64) a)) 1073741824) (iter none (fun x0 => brn (I.ltb x0.1.2.2.2.1 (I.ofNat .i64 (@a0O (I .i64) x0.1.1))) (brn (inB x0.1.2.2.2.1 (@a0O (I .i64) x0.1.1)) (jn (fun (x1 : (((List (I .i64)) × ((List (I .i64)) × ((I .i64) × ((I .i64) × Unit)))) × ((List (I .i64)) × Unit))) => brn (I.ltb x1.1.2.2.2.1 (I.of .i64 0)) (brn (inB x1.1.2.2.1 (@a0O (I .i64) x1.2.1)) (.again ((x1.1.1,(x1.1.2.1,(I.of .i64 1,((I.add x1.1.2.2.1 (I.of .i64 1)),())))),((@a1N (I .i64) x1.2.1 (I.nat x1.1.2.2.1) (I.add x1.1.2.2.2.1 (I.of .i64 65536))),()))) (.done none)) (brn (inB x1.1.2.2.1 (@a0O (I .i64) x1.2.1)) (.again ((x1.1.1,(x1.1.2.1,(I.of .i64 0,((I.add x1.1.2.2.1 (I.of .i64 1)),())))),((@a1N (I .i64) x1.2.1 (I.nat x1.1.2.2.1) x1.1.2.2.2.1),()))) (.done none))) fun j1 => brn (I.ltb x0.1.2.2.2.1 (I.ofNat .i64 (@a0O (I .i64) x0.1.2.1))) (brn (inB x0.1.2.2.2.1 (@a0O (I .i64) x0.1.2.1)) (j1 ((x0.1.1,(x0.1.2.1,(x0.1.2.2.2.1,((I.sub (I.sub (@rdL (I .i64) (I.of .i64 0) x0.1.1 (I.nat x0.1.2.2.2.1)) x0.1.2.2.1) (@rdL (I .i64) (I.of .i64 0) x0.1.2.1 (I.nat x0.1.2.2.2.1))),())))),(x0.2.1,()))) (.done none)) (j1 ((x0.1.1,(x0.1.2.1,(x0.1.2.2.2.1,((I.sub (@rdL (I .i64) (I.of .i64 0) x0.1.1 (I.nat x0.1.2.2.2.1)) x0.1.2.2.1),())))),(x0.2.1,())))) (.done none)) (.done (iter none (fun x1 => brn (I.ltb (I.of .i64 0) x1.1.1) (brn (inB (I.sub x1.1.1 (I.of .i64 1)) (@a0O (I .i64) x1.2.1)) (brn (I.eqb (@rdL (I .i64) (I.of .i64 0) x1.2.1 (I.nat (I.sub x1.1.1 (I.of .i64 1)))) (I.of .i64 0)) (.again (((I.sub x1.1.1 (I.of .i64 1)),()),(x1.2.1,()))) (.done (brn (inB' x1.1.1 (@a0O (I .i64) x1.2.1)) (some (((@a6E (I .i64) x1.2.1 0 (I.nat x1.1.1)),()),())) none))) (.done none)) (.done (brn (inB' x1.1.1 (@a0O (I .i64) x1.2.1)) (some (((@a6E (I .i64) x1.2.1 0 (I.nat x1.1.1)),()),())) none))) K0 (((I.ofNat .i64 (@a0O (I .i64) x0.2.1)),()),(x0.2.1,()))))) K0 ((a,(b,(I.of .i64 0,(I.of .i64 0,())))),((@f3C (I .i64) (I.nat (I.ofNat .i64 (@a0O (I .i64) a))) (I.of .i64 0)),()))) none) none
def a6J (x : (⟨[.pl (.sl (.int .i64)), .pl (.int .i64)], []⟩ : Tm).D) : Option (⟨[.pl (.sl (.int .i64)), .pl (.sl (.int .i64))], []⟩ : Tm).D :=
 let a : List (I .i64) := x.1.1
 let b : I .i64 := x.1.2.1
 brn (inB' (I.ofNat .i64 (@a0O (I .i64) a)) (I.nat (I.ofNat .i64 (@a0O (I .i64) a)))) (brn (inB' (I.ofNat .i64 (@a0O (I .i64) a)) 1073741824) (iter none (fun x0 => brn (I.leb (I.of .i64 0) x0.1.2.2.2.1) (brn (inB x0.1.2.2.2.1 (@a0O (I .i64) x0.1.1)) (brn (I.nz x0.1.2.1) (brn (I.nz x0.1.2.1) (brn (inB x0.1.2.2.2.1 (@a0O (I .i64) x0.2.1)) (.again ((x0.1.1,(x0.1.2.1,((I.rem (I.add (I.mul (I.of .i64 65536) x0.1.2.2.1) (@rdL (I .i64) (I.of .i64 0) x0.1.1 (I.nat x0.1.2.2.2.1))) x0.1.2.1),((I.sub x0.1.2.2.2.1 (I.of .i64 1)),())))),((@a1N (I .i64) x0.2.1 (I.nat x0.1.2.2.2.1) (I.quo (I.add (I.mul (I.of .i64 65536) x0.1.2.2.1) (@rdL (I .i64) (I.of .i64 0) x0.1.1 (I.nat x0.1.2.2.2.1))) x0.1.2.1)),()))) (.done none)) (.done none)) (.done none)) (.done none)) (.done (optF none (a4H ((x0.2.1,()),())) fun y1 => optF none (a4H (((x0.1.2.2.1::[]),()),())) fun y2 => some ((y1.1.1,(y2.1.1,())),())))) K0 ((a,(b,(I.of .i64 0,((I.sub (I.ofNat .i64 (@a0O (I .i64) a)) (I.of .i64 1)),())))),((@f3C (I .i64) (I.nat (I.ofNat .i64 (@a0O (I .i64) a))) (I.of .i64 0)),()))) none) none
def a4S (x : (⟨[.pl (.sl (.int .i64)), .pl (.sl (.int .i64))], []⟩ : Tm).D) : Option (⟨[.pl (.sl (.int .i64)), .pl (.sl (.int .i64))], []⟩ : Tm).D :=
 let a : List (I .i64) := x.1.1
 let b : List (I .i64) := x.1.2.1
 brn (I.eqb (I.ofNat .i64 (@a0O (I .i64) b)) (I.of .i64 1)) (brn (inB (I.of .i64 0) (@a0O (I .i64) b)) (optF none (a6J ((a,((@rdL (I .i64) (I.of .i64 0) b 0),())),())) fun y0 => some ((y0.1.1,(y0.1.2.1,())),())) none) (brn (inB' (I.ofNat .i64 (@a0O (I .i64) a)) (I.nat (I.ofNat .i64 (@a0O (I .i64) a)))) (brn (inB' (I.ofNat .i64 (@a0O (I .i64) a)) 1073741824) (brn (inB' (I.add (I.ofNat .i64 (@a0O (I .i64) b)) (I.of .i64 1)) (I.nat (I.add (I.ofNat .i64 (@a0O (I .i64) b)) (I.of .i64 1)))) (brn (inB' (I.add (I.ofNat .i64 (@a0O (I .i64) b)) (I.of .i64 1)) 1073741824) (iter none (fun x0 => brn (I.leb (I.of .i64 0) x0.1.2.2.1) (iter (.done none) (fun x1 => brn (I.leb (I.of .i64 0) x1.1.2.2.2.1) (brn (inB x1.1.2.2.1 (@a0O (I .i64) x1.1.1)) (brn (I.nn (I.conv (k := .i64) .u64 x1.1.2.2.2.1)) (iter (.done (.done none)) (fun x2 => brn (I.ltb x2.1.2.2.2.2.2.1 (I.ofNat .i64 (@a0O (I .i64) x2.2.2.1))) (brn (inB x2.1.2.2.2.2.2.1 (@a0O (I .i64) x2.2.2.1)) (brn (inB x2.1.2.2.2.2.2.1 (@a0O (I .i64) x2.2.2.1)) (.again ((x2.1.1,(x2.1.2.1,(x2.1.2.2.1,(x2.1.2.2.2.1,((I.shr (I.add x2.1.2.2.2.2.1 (I.mul (I.of .i64 2) (@rdL (I .i64) (I.of .i64 0) x2.2.2.1 (I.nat x2.1.2.2.2.2.2.1)))) (I.of .u64 16)),((I.add x2.1.2.2.2.2.2.1 (I.of .i64 1)),())))))),(x2.2.1,((@a1N (I .i64) x2.2.2.1 (I.nat x2.1.2.2.2.2.2.1) (I.and (I.add x2.1.2.2.2.2.1 (I.mul (I.of .i64 2) (@rdL (I .i64) (I.of .i64 0) x2.2.2.1 (I.nat x2.1.2.2.2.2.2.1)))) (I.of .i64 65535))),())))) (.done (.done (.done none)))) (.done (.done (.done none)))) (.done (iter (.done (.done none)) (fun x3 => brn (I.ltb (I.of .i64 0) x3.1.1) (brn (inB (I.sub x3.1.1 (I.of .i64 1)) (@a0O (I .i64) x3.2.1)) (brn (I.eqb (@rdL (I .i64) (I.of .i64 0) x3.2.1 (I.nat (I.sub x3.1.1 (I.of .i64 1)))) (I.of .i64 0)) (.again (((I.sub x3.1.1 (I.of .i64 1)),(x3.1.2.1,(x3.1.2.2.1,(x3.1.2.2.2.1,(x3.1.2.2.2.2.1,()))))),(x3.2.1,(x3.2.2.1,())))) (.done (brn (inB' x3.1.1 (@a0O (I .i64) x3.2.1)) (optF (.done (.done none)) (a3Q (((@a6E (I .i64) x3.2.1 0 (I.nat x3.1.1)),(x3.1.2.2.1,())),())) fun y4 => brn (I.leb (I.of .i64 0) y4.1.1) (iter (.done (.done none)) (fun x5 => brn (I.ltb (I.of .i64 0) x5.1.1) (brn (inB (I.sub x5.1.1 (I.of .i64 1)) (@a0O (I .i64) x5.2.1)) (brn (I.eqb (@rdL (I .i64) (I.of .i64 0) x5.2.1 (I.nat (I.sub x5.1.1 (I.of .i64 1)))) (I.of .i64 0)) (.again (((I.sub x5.1.1 (I.of .i64 1)),(x5.1.2.1,(x5.1.2.2.1,(x5.1.2.2.2.1,(x5.1.2.2.2.2.1,()))))),(x5.2.1,(x5.2.2.1,())))) (.done (brn (inB' x5.1.1 (@a0O (I .i64) x5.2.1)) (optF (.done (.done none)) (a2X (((@a6E (I .i64) x5.2.1 0 (I.nat x5.1.1)),(x5.1.2.2.1,())),())) fun y6 => iter (.done (.done none)) (fun x7 => brn (I.ltb x7.1.2.2.2.2.2.1 (I.ofNat .i64 (@a0O (I .i64) x7.2.2.1))) (brn (inB x7.1.2.2.2.2.2.1 (@a0O (I .i64) x7.2.2.1)) (brn (I.ltb x7.1.2.2.2.2.2.1 (I.ofNat .i64 (@a0O (I .i64) x7.1.2.2.2.2.1))) (brn (inB x7.1.2.2.2.2.2.1 (@a0O (I .i64) x7.1.2.2.2.2.1)) (brn (inB x7.1.2.2.2.2.2.1 (@a0O (I .i64) (@a1N (I .i64) x7.2.2.1 (I.nat x7.1.2.2.2.2.2.1) (I.of .i64 0)))) (.again ((x7.1.1,(x7.1.2.1,(x7.1.2.2.1,(x7.1.2.2.2.1,(x7.1.2.2.2.2.1,((I.add x7.1.2.2.2.2.2.1 (I.of .i64 1)),())))))),(x7.2.1,((@a1N (I .i64) (@a1N (I .i64) x7.2.2.1 (I.nat x7.1.2.2.2.2.2.1) (I.of .i64 0)) (I.nat x7.1.2.2.2.2.2.1) (@rdL (I .i64) (I.of .i64 0) x7.1.2.2.2.2.1 (I.nat x7.1.2.2.2.2.2.1))),())))) (.done (.done (.done none)))) (.done (.done (.done none)))) (.again ((x7.1.1,(x7.1.2.1,(x7.1.2.2.1,(x7.1.2.2.2.1,(x7.1.2.2.2.2.1,((I.add x7.1.2.2.2.2.2.1 (I.of .i64 1)),())))))),(x7.2.1,((@a1N (I .i64) x7.2.2.1 (I.nat x7.1.2.2.2.2.2.1) (I.of .i64 0)),()))))) (.done (.done (.done none)))) (.done (brn (inB x7.1.2.2.1 (@a0O (I .i64) x7.2.1)) (brn (I.nn (I.conv (k := .i64) .u64 x7.1.2.2.2.1)) (brn (inB x7.1.2.2.1 (@a0O (I .i64) x7.2.1)) (.again ((x7.1.1,(x7.1.2.1,(x7.1.2.2.1,((I.sub x7.1.2.2.2.1 (I.of .i64 1)),())))),((@a1N (I .i64) x7.2.1 (I.nat x7.1.2.2.1) (I.add (@rdL (I .i64) (I.of .i64 0) x7.2.1 (I.nat x7.1.2.2.1)) (I.shl (I.of .i64 1) (I.conv (k := .i64) .u64 x7.1.2.2.2.1)))),(x7.2.2.1,())))) (.done (.done none))) (.done (.done none))) (.done (.done none))))) K0 ((x5.1.2.1,(x5.1.2.2.1,(x5.1.2.2.2.1,(x5.1.2.2.2.2.1,(y6.1.1,(I.of .i64 0,())))))),(x5.2.2.1,(x5.2.1,())))) (.done (.done none))))) (.done (.done (.done none)))) (.done (brn (inB' x5.1.1 (@a0O (I .i64) x5.2.1)) (optF (.done (.done none)) (a2X (((@a6E (I .i64) x5.2.1 0 (I.nat x5.1.1)),(x5.1.2.2.1,())),())) fun y6 => iter (.done (.done none)) (fun x7 => brn (I.ltb x7.1.2.2.2.2.2.1 (I.ofNat .i64 (@a0O (I .i64) x7.2.2.1))) (brn (inB x7.1.2.2.2.2.2.1 (@a0O (I .i64) x7.2.2.1)) (brn (I.ltb x7.1.2.2.2.2.2.1 (I.ofNat .i64 (@a0O (I .i64) x7.1.2.2.2.2.1))) (brn (inB x7.1.2.2.2.2.2.1 (@a0O (I .i64) x7.1.2.2.2.2.1)) (brn (inB x7.1.2.2.2.2.2.1 (@a0O (I .i64) (@a1N (I .i64) x7.2.2.1 (I.nat x7.1.2.2.2.2.2.1) (I.of .i64 0)))) (.again ((x7.1.1,(x7.1.2.1,(x7.1.2.2.1,(x7.1.2.2.2.1,(x7.1.2.2.2.2.1,((I.add x7.1.2.2.2.2.2.1 (I.of .i64 1)),())))))),(x7.2.1,((@a1N (I .i64) (@a1N (I .i64) x7.2.2.1 (I.nat x7.1.2.2.2.2.2.1) (I.of .i64 0)) (I.nat x7.1.2.2.2.2.2.1) (@rdL (I .i64) (I.of .i64 0) x7.1.2.2.2.2.1 (I.nat x7.1.2.2.2.2.2.1))),())))) (.done (.done (.done none)))) (.done (.done (.done none)))) (.again ((x7.1.1,(x7.1.2.1,(x7.1.2.2.1,(x7.1.2.2.2.1,(x7.1.2.2.2.2.1,((I.add x7.1.2.2.2.2.2.1 (I.of .i64 1)),())))))),(x7.2.1,((@a1N (I .i64) x7.2.2.1 (I.nat x7.1.2.2.2.2.2.1) (I.of .i64 0)),()))))) (.done (.done (.done none)))) (.done (brn (inB x7.1.2.2.1 (@a0O (I .i64) x7.2.1)) (brn (I.nn (I.conv (k := .i64) .u64 x7.1.2.2.2.1)) (brn (inB x7.1.2.2.1 (@a0O (I .i64) x7.2.1)) (.again ((x7.1.1,(x7.1.2.1,(x7.1.2.2.1,((I.sub x7.1.2.2.2.1 (I.of .i64 1)),())))),((@a1N (I .i64) x7.2.1 (I.nat x7.1.2.2.1) (I.add (@rdL (I .i64) (I.of .i64 0) x7.2.1 (I.nat x7.1.2.2.1)) (I.shl (I.of .i64 1) (I.conv (k := .i64) .u64 x7.1.2.2.2.1)))),(x7.2.2.1,())))) (.done (.done none))) (.done (.done none))) (.done (.done none))))) K0 ((x5.1.2.1,(x5.1.2.2.1,(x5.1.2.2.2.1,(x5.1.2.2.2.2.1,(y6.1.1,(I.of .i64 0,())))))),(x5.2.2.1,(x5.2.1,())))) (.done (.done none))))) K0 (((I.ofNat .i64 (@a0O (I .i64) x3.2.1)),(x3.1.2.1,(x3.1.2.2.1,(x3.1.2.2.2.1,(x3.1.2.2.2.2.1,()))))),(x3.2.1,(x3.2.2.1,())))) (.again ((x3.1.2.1,(x3.1.2.2.1,(x3.1.2.2.2.1,((I.sub x3.1.2.2.2.2.1 (I.of .i64 1)),())))),(x3.2.2.1,(x3.2.1,()))))) (.done (.done none))))) (.done (.done (.done none)))) (.done (brn (inB' x3.1.1 (@a0O (I .i64) x3.2.1)) (optF (.done (.done none)) (a3Q (((@a6E (I .i64) x3.2.1 0 (I.nat x3.1.1)),(x3.1.2.2.1,())),())) fun y4 => brn (I.leb (I.of .i64 0) y4.1.1) (iter (.done (.done none)) (fun x5 => brn (I.ltb (I.of .i64 0) x5.1.1) (brn (inB (I.sub x5.1.1 (I.of .i64 1)) (@a0O (I .i64) x5.2.1)) (brn (I.eqb (@rdL (I .i64) (I.of .i64 0) x5.2.1 (I.nat (I.sub x5.1.1 (I.of .i64 1)))) (I.of .i64 0)) (.again (((I.sub x5.1.1 (I.of .i64 1)),(x5.1.2.1,(x5.1.2.2.1,(x5.1.2.2.2.1,(x5.1.2.2.2.2.1,()))))),(x5.2.1,(x5.2.2.1,())))) (.done (brn (inB' x5.1.1 (@a0O (I .i64) x5.2.1)) (optF (.done (.done none)) (a2X (((@a6E (I .i64) x5.2.1 0 (I.nat x5.1.1)),(x5.1.2.2.1,())),())) fun y6 => iter (.done (.done none)) (fun x7 => brn (I.ltb x7.1.2.2.2.2.2.1 (I.ofNat .i64 (@a0O (I .i64) x7.2.2.1))) (brn (inB x7.1.2.2.2.2.2.1 (@a0O (I .i64) x7.2.2.1)) (brn (I.ltb x7.1.2.2.2.2.2.1 (I.ofNat .i64 (@a0O (I .i64) x7.1.2.2.2.2.1))) (brn (inB x7.1.2.2.2.2.2.1 (@a0O (I .i64) x7.1.2.2.2.2.1)) (brn (inB x7.1.2.2.2.2.2.1 (@a0O (I .i64) (@a1N (I .i64) x7.2.2.1 (I.nat x7.1.2.2.2.2.2.1) (I.of .i64 0)))) (.again ((x7.1.1,(x7.1.2.1,(x7.1.2.2.1,(x7.1.2.2.2.1,(x7.1.2.2.2.2.1,((I.add x7.1.2.2.2.2.2.1 (I.of .i64 1)),())))))),(x7.2.1,((@a1N (I .i64) (@a1N (I .i64) x7.2.2.1 (I.nat x7.1.2.2.2.2.2.1) (I.of .i64 0)) (I.nat x7.1.2.2.2.2.2.1) (@rdL (I .i64) (I.of .i64 0) x7.1.2.2.2.2.1 (I.nat x7.1.2.2.2.2.2.1))),())))) (.done (.done (.done none)))) (.done (.done (.done none)))) (.again ((x7.1.1,(x7.1.2.1,(x7.1.2.2.1,(x7.1.2.2.2.1,(x7.1.2.2.2.2.1,((I.add x7.1.2.2.2.2.2.1 (I.of .i64 1)),())))))),(x7.2.1,((@a1N (I .i64) x7.2.2.1 (I.nat x7.1.2.2.2.2.2.1) (I.of .i64 0)),()))))) (.done (.done (.done none)))) (.done (brn (inB x7.1.2.2.1 (@a0O (I .i64) x7.2.1)) (brn (I.nn (I.conv (k := .i64) .u64 x7.1.2.2.2.1)) (brn (inB x7.1.2.2.1 (@a0O (I .i64) x7.2.1)) (.again ((x7.1.1,(x7.1.2.1,(x7.1.2.2.1,((I.sub x7.1.2.2.2.1 (I.of .i64 1)),())))),((@a1N (I .i64) x7.2.1 (I.nat x7.1.2.2.1) (I.add (@rdL (I .i64) (I.of .i64 0) x7.2.1 (I.nat x7.1.2.2.1)) (I.shl (I.of .i64 1) (I.conv (k := .i64) .u64 x7.1.2.2.2.1)))),(x7.2.2.1,())))) (.done (.done none))) (.done (.done none))) (.done (.done none))))) K0 ((x5.1.2.1,(x5.1.2.2.1,(x5.1.2.2.2.1,(x5.1.2.2.2.2.1,(y6.1.1,(I.of .i64 0,())))))),(x5.2.2.1,(x5.2.1,())))) (.done (.done none))))) (.done (.done (.done none)))) (.done (brn (inB' x5.1.1 (@a0O (I .i64) x5.2.1)) (optF (.done (.done none)) (a2X (((@a6E (I .i64) x5.2.1 0 (I.nat x5.1.1)),(x5.1.2.2.1,())),())) fun y6 => iter (.done (.done none)) (fun x7 => brn (I.ltb x7.1.2.2.2.2.2.1 (I.ofNat .i64 (@a0O (I .i64) x7.2.2.1))) (brn (inB x7.1.2.2.2.2.2.1 (@a0O (I .i64) x7.2.2.1)) (brn (I.ltb x7.1.2.2.2.2.2.1 (I.ofNat .i64 (@a0O (I .i64) x7.1.2.2.2.2.1))) (brn (inB x7.1.2.2.2.2.2.1 (@a0O (I .i64) x7.1.2.2.2.2.1)) (brn (inB x7.1.2.2.2.2.2.1 (@a0O (I .i64) (@a1N (I .i64) x7.2.2.1 (I.nat x7.1.2.2.2.2.2.1) (I.of .i64 0)))) (.again ((x7.1.1,(x7.1.2.1,(x7.1.2.2.1,(x7.1.2.2.2.1,(x7.1.2.2.2.2.1,((I.add x7.1.2.2.2.2.2.1 (I.of .i64 1)),())))))),(x7.2.1,((@a1N (I .i64) (@a1N (I .i64) x7.2.2.1 (I.nat x7.1.2.2.2.2.2.1) (I.of .i64 0)) (I.nat x7.1.2.2.2.2.2.1) (@rdL (I .i64) (I.of .i64 0) x7.1.2.2.2.2.1 (I.nat x7.1.2.2.2.2.2.1))),())))) (.done (.done (.done none)))) (.done (.done (.done none)))) (.again ((x7.1.1,(x7.1.2.1,(x7.1.2.2.1,(x7.1.2.2.2.1,(x7.1.2.2.2.2.1,((I.add x7.1.2.2.2.2.2.1 (I.of .i64 1)),())))))),(x7.2.1,((@a1N (I .i64) x7.2.2.1 (I.nat x7.1.2.2.2.2.2.1) (I.of .i64 0)),()))))) (.done (.done (.done none)))) (.done (brn (inB x7.1.2.2.1 (@a0O (I .i64) x7.2.1)) (brn (I.nn (I.conv (k := .i64) .u64 x7.1.2.2.2.1)) (brn (inB x7.1.2.2.1 (@a0O (I .i64) x7.2.1)) (.again ((x7.1.1,(x7.1.2.1,(x7.1.2.2.1,((I.sub x7.1.2.2.2.1 (I.of .i64 1)),())))),((@a1N (I .i64) x7.2.1 (I.nat x7.1.2.2.1) (I.add (@rdL (I .i64) (I.of .i64 0) x7.2.1 (I.nat x7.1.2.2.1)) (I.shl (I.of .i64 1) (I.conv (k := .i64) .u64 x7.1.2.2.2.1)))),(x7.2.2.1,())))) (.done (.done none))) (.done (.done none))) (.done (.done none))))) K0 ((x5.1.2.1,(x5.1.2.2.1,(x5.1.2.2.2.1,(x5.1.2.2.2.2.1,(y6.1.1,(I.of .i64 0,())))))),(x5.2.2.1,(x5.2.1,())))) (.done (.done none))))) K0 (((I.ofNat .i64 (@a0O (I .i64) x3.2.1)),(x3.1.2.1,(x3.1.2.2.1,(x3.1.2.2.2.1,(x3.1.2.2.2.2.1,()))))),(x3.2.1,(x3.2.2.1,())))) (.again ((x3.1.2.1,(x3.1.2.2.1,(x3.1.2.2.2.1,((I.sub x3.1.2.2.2.2.1 (I.of .i64 1)),())))),(x3.2.2.1,(x3.2.1,()))))) (.done (.done none))))) K0 (((I.ofNat .i64 (@a0O (I .i64) x2.2.2.1)),(x2.1.1,(x2.1.2.1,(x2.1.2.2.1,(x2.1.2.2.2.1,()))))),(x2.2.2.1,(x2.2.1,())))))) K0 ((x1.1.1,(x1.1.2.1,(x1.1.2.2.1,(x1.1.2.2.2.1,((I.and (I.shr (@rdL (I .i64) (I.of .i64 0) x1.1.1 (I.nat x1.1.2.2.1)) (I.conv (k := .i64) .u64 x1.1.2.2.2.1)) (I.of .i64 1)),(I.of .i64 0,())))))),(x1.2.1,(x1.2.2.1,())))) (.done (.done none))) (.done (.done none))) (.done (.again ((x1.1.1,(x1.1.2.1,((I.sub x1.1.2.2.1 (I.of .i64 1)),()))),(x1.2.1,(x1.2.2.1,())))))) K0 ((x0.1.1,(x0.1.2.1,(x0.1.2.2.1,(I.of .i64 15,())))),(x0.2.1,(x0.2.2.1,())))) (.done (iter none (fun x1 => brn (I.ltb (I.of .i64 0) x1.1.1) (brn (inB (I.sub x1.1.1 (I.of .i64 1)) (@a0O (I .i64) x1.2.1)) (brn (I.eqb (@rdL (I .i64) (I.of .i64 0) x1.2.1 (I.nat (I.sub x1.1.1 (I.of .i64 1)))) (I.of .i64 0)) (.again (((I.sub x1.1.1 (I.of .i64 1)),()),(x1.2.1,(x1.2.2.1,())))) (.done (brn (inB' x1.1.1 (@a0O (I .i64) x1.2.1)) (iter none (fun x2 => brn (I.ltb (I.of .i64 0) x2.1.1) (brn (inB (I.sub x2.1.1 (I.of .i64 1)) (@a0O (I .i64) x2.2.1)) (brn (I.eqb (@rdL (I .i64) (I.of .i64 0) x2.2.1 (I.nat (I.sub x2.1.1 (I.of .i64 1)))) (I.of .i64 0)) (.again (((I.sub x2.1.1 (I.of .i64 1)),(x2.1.2.1,())),(x2.2.1,()))) (.done (brn (inB' x2.1.1 (@a0O (I .i64) x2.2.1)) (some ((x2.1.2.1,((@a6E (I .i64) x2.2.1 0 (I.nat x2.1.1)),())),())) none))) (.done none)) (.done (brn (inB' x2.1.1 (@a0O (I .i64) x2.2.1)) (some ((x2.1.2.1,((@a6E (I .i64) x2.2.1 0 (I.nat x2.1.1)),())),())) none))) K0 (((I.ofNat .i64 (@a0O (I .i64) x1.2.2.1)),((@a6E (I .i64) x1.2.1 0 (I.nat x1.1.1)),())),(x1.2.2.1,()))) none))) (.done none)) (.done (brn (inB' x1.1.1 (@a0O (I .i64) x1.2.1)) (iter none (fun x2 => brn (I.ltb (I.of .i64 0) x2.1.1) (brn (inB (I.sub x2.1.1 (I.of .i64 1)) (@a0O (I .i64) x2.2.1)) (brn (I.eqb (@rdL (I .i64) (I.of .i64 0) x2.2.1 (I.nat (I.sub x2.1.1 (I.of .i64 1)))) (I.of .i64 0)) (.again (((I.sub x2.1.1 (I.of .i64 1)),(x2.1.2.1,())),(x2.2.1,()))) (.done (brn (inB' x2.1.1 (@a0O (I .i64) x2.2.1)) (some ((x2.1.2.1,((@a6E (I .i64) x2.2.1 0 (I.nat x2.1.1)),())),())) none))) (.done none)) (.done (brn (inB' x2.1.1 (@a0O (I .i64) x2.2.1)) (some ((x2.1.2.1,((@a6E (I .i64) x2.2.1 0 (I.nat x2.1.1)),())),())) none))) K0 (((I.ofNat .i64 (@a0O (I .i64) x1.2.2.1)),((@a6E (I .i64) x1.2.1 0 (I.nat x1.1.1)),())),(x1.2.2.1,()))) none))) K0 (((I.ofNat .i64 (@a0O (I .i64) x0.2.1)),()),(x0.2.1,(x0.2.2.1,())))))) K0 ((a,(b,((I.sub (I.ofNat .i64 (@a0O (I .i64) a)) (I.of .i64 1)),()))),((@f3C (I .i64) (I.nat (I.ofNat .i64 (@a0O (I .i64) a))) (I.of .i64 0)),((@f3C (I .i64) (I.nat (I.add (I.ofNat .i64 (@a0O (I .i64) b)) (I.of .i64 1))) (I.of .i64 0)),())))) none) none) none) none)
def a2G (x : (⟨[.pl (.sl (.int .i64)), .pl (.sl (.int .i64))], []⟩ : Tm).D) : Option (⟨[.pl (.sl (.int .i64))], []⟩ : Tm).D :=
 let a : List (I .i64) := x.1.1
 let b : List (I .i64) := x.1.2.1
 iter none (fun x0 => jn (fun (x1 : (((List (I .i64)) × ((List (I .i64)) × ((I .i64) × ((I .i64) × Unit)))) × ((List (I .i64)) × Unit))) => jn (fun (x2 : (((List (I .i64)) × ((List (I .i64)) × ((I .i64) × ((I .i64) × Unit)))) × ((List (I .i64)) × Unit))) => brn (I.ltb x2.1.2.2.2.1 (I.ofNat .i64 (@a0O (I .i64) x2.1.2.1))) (brn (inB x2.1.2.2.2.1 (@a0O (I .i64) x2.1.2.1)) (brn (a2P (@a0O (I .i64) (@a0G (I .i64) x2.2.1 ((I.and (I.add x2.1.2.2.1 (@rdL (I .i64) (I.of .i64 0) x2.1.2.1 (I.nat x2.1.2.2.2.1))) (I.of .i64 65535))::[])))) (.again ((x2.1.1,(x2.1.2.1,((I.shr (I.add x2.1.2.2.1 (@rdL (I .i64) (I.of .i64 0) x2.1.2.1 (I.nat x2.1.2.2.2.1))) (I.of .u64 16)),((I.add x2.1.2.2.2.1 (I.of .i64 1)),())))),((@a0G (I .i64) x2.2.1 ((I.and (I.add x2.1.2.2.1 (@rdL (I .i64) (I.of .i64 0) x2.1.2.1 (I.nat x2.1.2.2.2.1))) (I.of .i64 65535))::[])),()))) (.done none)) (.done none)) (brn (a2P (@a0O (I .i64) (@a0G (I .i64) x2.2.1 ((I.and x2.1.2.2.1 (I.of .i64 65535))::[])))) (.again ((x2.1.1,(x2.1.2.1,((I.shr x2.1.2.2.1 (I.of .u64 16)),((I.add x2.1.2.2.2.1 (I.of .i64 1)),())))),((@a0G (I .i64) x2.2.1 ((I.and x2.1.2.2.1 (I.of .i64 65535))::[])),()))) (.done none))) fun j2 => brn (I.ltb x1.1.2.2.2.1 (I.ofNat .i64 (@a0O (I .i64) x1.1.1))) (brn (inB x1.1.2.2.2.1 (@a0O (I .i64) x1.1.1)) (j2 ((x1.1.1,(x1.1.2.1,((I.add x1.1.2.2.1 (@rdL (I .i64) (I.of .i64 0) x1.1.1 (I.nat x1.1.2.2.2.1))),(x1.1.2.2.2.1,())))),(x1.2.1,()))) (.done none)) (j2 ((x1.1.1,(x1.1.2.1,(x1.1.2.2.1,(x1.1.2.2.2.1,())))),(x1.2.1,())))) fun j1 => brn (I.ltb x0.1.2.2.2.1 (I.ofNat .i64 (@a0O (I .i64) x0.1.1))) (j1 ((x0.1.1,(x0.1.2.1,(x0.1.2.2.1,(x0.1.2.2.2.1,())))),(x0.2.1,()))) (brn (I.ltb x0.1.2.2.2.1 (I.ofNat .i64 (@a0O (I .i64) x0.1.2.1))) (j1 ((x0.1.1,(x0.1.2.1,(x0.1.2.2.1,(x0.1.2.2.2.1,())))),(x0.2.1,()))) (brn (I.ltb (I.of .i64 0) x0.1.2.2.1) (j1 ((x0.1.1,(x0.1.2.1,(x0.1.2.2.1,(x0.1.2.2.2.1,())))),(x0.2.1,()))) (.done (some ((x0.2.1,()),())))))) K0 ((a,(b,(I.of .i64 0,(I.of .i64 0,())))),([],()))
def a0K (x : (⟨[.pl (.arr 4 (.int .u64))], []⟩ : Tm).D) : Option (⟨[.pl (.sl (.int .i64))], []⟩ : Tm).D :=
 let a : (I .u64) × (I .u64) × (I .u64) × (I .u64) × Unit := x.1.1
 iter none (fun x0 => brn (I.ltb x0.1.1 (I.of .i64 16)) (brn (inB (I.quo x0.1.1 (I.of .i64 4)) 4) (brn (I.nn (I.conv (k := .i64) .u64 (I.mul (I.of .i64 16) (I.rem x0.1.1 (I.of .i64 4))))) (brn (inB x0.1.1 (@a0O (I .i64) x0.2.2.1)) (.again (((I.add x0.1.1 (I.of .i64 1)),()),(x0.2.1,((@a1N (I .i64) x0.2.2.1 (I.nat x0.1.1) (I.conv (k := .u64) .i64 (I.and (I.shr (@Arr.sel (I .u64) (I.of .u64 0) 4 x0.2.1 (I.nat (I.quo x0.1.1 (I.of .i64 4)))) (I.conv (k := .i64) .u64 (I.mul (I.of .i64 16) (I.rem x0.1.1 (I.of .i64 4))))) (I.of .u64 65535)))),())))) (.done none)) (.done none)) (.done none)) (.done (optF none (a4H ((x0.2.2.1,()),())) fun y1 => some ((y1.1.1,()),())))) K0 ((I.of .i64 0,()),(a,((@f3C (I .i64) 16 (I.of .i64 0)),())))
def a1J (x : (⟨[.pl (.int .u64)], []⟩ : Tm).D) : Option (⟨[.pl (.sl (.int .i64))], []⟩ : Tm).D :=
 let a : I .u64 := x.1.1
 optF none (a0K (((a,(I.of .u64 0,(I.of .u64 0,(I.of .u64 0,())))),()),())) fun y0 => some ((y0.1.1,()),())
def a2W (x : (⟨[.pl (.sl (.int .i64))], []⟩ : Tm).D) : Option (⟨[.pl .bool], []⟩ : Tm).D :=
 let a : List (I .i64) := x.1.1
 some (((I.leb (I.ofNat .i64 (@a0O (I .i64) a)) (I.of .i64 16)),()),())
def a1B (x : (⟨[.pl (.sl (.int .i64))], []⟩ : Tm).D) : Option (⟨[.pl (.arr 4 (.int .u64))], []⟩ : Tm).D :=
 let a : List (I .i64) := x.1.1
 iter none (fun x0 => jn (fun (x1 : (((List (I .i64)) × ((I .i64) × ((I .i64) × (Bool × Unit)))) × (((I .u64) × ((I .u64) × ((I .u64) × ((I .u64) × Unit)))) × (((I .u64) × ((I .u64) × ((I .u64) × ((I .u64) × Unit)))) × Unit)))) => brn (inB (I.quo x1.1.2.1 (I.of .i64 4)) 4) (brn (inB x1.1.2.1 (@a0O (I .i64) x1.1.1)) (brn (I.nn (I.conv (k := .i64) .u64 (I.mul (I.of .i64 16) (I.rem x1.1.2.1 (I.of .i64 4))))) (brn (inB (I.quo x1.1.2.1 (I.of .i64 4)) 4) (.again ((x1.1.1,((I.add x1.1.2.1 (I.of .i64 1)),())),(x1.2.1,((@Arr.upd (I .u64) 4 x1.2.2.1 (I.nat (I.quo x1.1.2.1 (I.of .i64 4))) (I.add (@Arr.sel (I .u64) (I.of .u64 0) 4 x1.2.2.1 (I.nat (I.quo x1.1.2.1 (I.of .i64 4)))) (I.shl (I.conv (k := .i64) .u64 (@rdL (I .i64) (I.of .i64 0) x1.1.1 (I.nat x1.1.2.1))) (I.conv (k := .i64) .u64 (I.mul (I.of .i64 16) (I.rem x1.1.2.1 (I.of .i64 4))))))),())))) (.done none)) (.done none)) (.done none)) (.done none)) fun j1 => brn (I.ltb x0.1.2.1 (I.ofNat .i64 (@a0O (I .i64) x0.1.1))) (brn (I.ltb x0.1.2.1 (I.of .i64 16)) (j1 ((x0.1.1,(x0.1.2.1,(x0.1.2.1,((I.ltb x0.1.2.1 (I.of .i64 16)),())))),(x0.2.1,(x0.2.2.1,())))) (.done (some ((x0.2.2.1,()),())))) (.done (some ((x0.2.2.1,()),())))) K0 ((a,(I.of .i64 0,())),((I.of .u64 0,(I.of .u64 0,(I.of .u64 0,(I.of .u64 0,())))),((I.of .u64 0,(I.of .u64 0,(I.of .u64 0,(I.of .u64 0,())))),())))
def a5Q (x : (⟨[.pl (.sl (.int .i64)), .pl (.sl (.int .i64))], []⟩ : Tm).D) : Option (⟨[.pl (.sl (.int .i64))], []⟩ : Tm).D :=
 let a : List (I .i64) := x.1.1
 let b : List (I .i64) := x.1.2.1
 brn (inB' (I.add (I.ofNat .i64 (@a0O (I .i64) a)) (I.ofNat .i64 (@a0O (I .i64) b))) (I.nat (I.add (I.ofNat .i64 (@a0O (I .i64) a)) (I.ofNat .i64 (@a0O (I .i64) b))))) (brn (inB' (I.add (I.ofNat .i64 (@a0O (I .i64) a)) (I.ofNat .i64 (@a0O (I .i64) b))) 1073741824) (iter none (fun x0 => brn (I.ltb x0.1.2.2.1 (I.ofNat .i64 (@a0O (I .i64) x0.1.1))) (iter (.done none) (fun x1 => brn (I.ltb x1.1.2.2.2.2.1 (I.ofNat .i64 (@a0O (I .i64) x1.1.2.1))) (brn (inB (I.add x1.1.2.2.1 x1.1.2.2.2.2.1) (@a0O (I .i64) x1.2.1)) (brn (inB x1.1.2.2.1 (@a0O (I .i64) x1.1.1)) (brn (inB x1.1.2.2.2.2.1 (@a0O (I .i64) x1.1.2.1)) (brn (inB (I.add x1.1.2.2.1 x1.1.2.2.2.2.1) (@a0O (I .i64) x1.2.1)) (.again ((x1.1.1,(x1.1.2.1,(x1.1.2.2.1,((I.shr (I.add (I.add x1.1.2.2.2.1 (@rdL (I .i64) (I.of .i64 0) x1.2.1 (I.nat (I.add x1.1.2.2.1 x1.1.2.2.2.2.1)))) (I.mul (@rdL (I .i64) (I.of .i64 0) x1.1.1 (I.nat x1.1.2.2.1)) (@rdL (I .i64) (I.of .i64 0) x1.1.2.1 (I.nat x1.1.2.2.2.2.1)))) (I.of .u64 16)),((I.add x1.1.2.2.2.2.1 (I.of .i64 1)),()))))),((@a1N (I .i64) x1.2.1 (I.nat (I.add x1.1.2.2.1 x1.1.2.2.2.2.1)) (I.and (I.add (I.add x1.1.2.2.2.1 (@rdL (I .i64) (I.of .i64 0) x1.2.1 (I.nat (I.add x1.1.2.2.1 x1.1.2.2.2.2.1)))) (I.mul (@rdL (I .i64) (I.of .i64 0) x1.1.1 (I.nat x1.1.2.2.1)) (@rdL (I .i64) (I.of .i64 0) x1.1.2.1 (I.nat x1.1.2.2.2.2.1)))) (I.of .i64 65535))),()))) (.done (.done none))) (.done (.done none))) (.done (.done none))) (.done (.done none))) (.done (brn (inB (I.add x1.1.2.2.1 (I.ofNat .i64 (@a0O (I .i64) x1.1.2.1))) (@a0O (I .i64) x1.2.1)) (.again ((x1.1.1,(x1.1.2.1,((I.add x1.1.2.2.1 (I.of .i64 1)),()))),((@a1N (I .i64) x1.2.1 (I.nat (I.add x1.1.2.2.1 (I.ofNat .i64 (@a0O (I .i64) x1.1.2.1)))) x1.1.2.2.2.1),()))) (.done none)))) K0 ((x0.1.1,(x0.1.2.1,(x0.1.2.2.1,(I.of .i64 0,(I.of .i64 0,()))))),(x0.2.1,()))) (.done (optF none (a4H ((x0.2.1,()),())) fun y1 => some ((y1.1.1,()),())))) K0 ((a,(b,(I.of .i64 0,()))),((@f3C (I .i64) (I.nat (I.add (I.ofNat .i64 (@a0O (I .i64) a)) (I.ofNat .i64 (@a0O (I .i64) b)))) (I.of .i64 0)),()))) none) none
def a2N (x : (⟨[.pl (.sl (.int .i64))], []⟩ : Tm).D) : Option (⟨[.pl (.arr 4 (.int .u64)), .pl (.int .i64)], []⟩ : Tm).D :=
 let a : List (I .i64) := x.1.1
 optF none (a2W ((a,()),())) fun y0 => brn (a2R y0.1.1) (some (((I.of .u64 0,(I.of .u64 0,(I.of .u64 0,(I.of .u64 0,())))),(I.of .i64 4,())),())) (optF none (a1B ((a,()),())) fun y1 => some ((y1.1.1,(I.of .i64 0,())),()))
def a3J (x : (⟨[.pl (.arr 4 (.int .u64))], []⟩ : Tm).D) : Option (⟨[.pl .bool], []⟩ : Tm).D :=
 let a : (I .u64) × (I .u64) × (I .u64) × (I .u64) × Unit := x.1.1
 some (((Ty.eqb (.arr 4 (.int .u64)) a (I.of .u64 0,(I.of .u64 0,(I.of .u64 0,(I.of .u64 0,()))))),()),())
end
end Sym

/- The given functions as plain functions, as the printer told them. -/
namespace Sym
open Go
noncomputable def a6A (x : (⟨[.pl (.arr 4 (.int .u64)), .pl (.int .u64)], []⟩ : Tm).D) : Option (⟨[.pl (.arr 4 (.int .u64)), .pl (.int .u64)], []⟩ : Tm).D :=
 let a : (I .u64) × (I .u64) × (I .u64) × (I .u64) × Unit := x.1.1
 let b : I .u64 := x.1.2.1
 iter none (fun x0 => brn (I.ltb (I.of .i64 0) x0.1.2.2.1) (brn (inB x0.1.2.2.1 4) (brn (inB (I.sub x0.1.2.2.1 (I.of .i64 1)) 4) (brn (inB x0.1.2.2.1 4) (.again ((x0.1.1,(x0.1.2.1,((I.sub x0.1.2.2.1 (I.of .i64 1)),()))),((@Arr.upd (I .u64) 4 x0.2.1 (I.nat x0.1.2.2.1) (I.or (I.shl (@Arr.sel (I .u64) (I.of .u64 0) 4 x0.2.1 (I.nat x0.1.2.2.1)) (I.of .u64 1)) (I.shr (@Arr.sel (I .u64) (I.of .u64 0) 4 x0.2.1 (I.nat (I.sub x0.1.2.2.1 (I.of .i64 1)))) (I.of .u64 63)))),(x0.2.2.1,())))) (.done none)) (.done none)) (.done none)) (.done (some ((((I.or (I.shl x0.2.1.1 (I.of .u64 1)) x0.1.1),(x0.2.1.2.1,(x0.2.1.2.2.1,(x0.2.1.2.2.2.1,())))),(x0.1.2.1,())),())))) K0 ((b,((I.shr a.2.2.2.1 (I.of .u64 63)),(I.of .i64 3,()))),(a,((I.of .u64 0,(I.of .u64 0,(I.of .u64 0,(I.of .u64 0,())))),())))
noncomputable def a6H (x : (⟨[.pl (.arr 4 (.int .u64)), .pl (.arr 4 (.int .u64))], []⟩ : Tm).D) : Option (⟨[.pl (.arr 4 (.int .u64))], []⟩ : Tm).D :=
 let a : (I .u64) × (I .u64) × (I .u64) × (I .u64) × Unit := x.1.1
 let b : (I .u64) × (I .u64) × (I .u64) × (I .u64) × Unit := x.1.2.1
 iter none (fun x0 => brn (I.ltb x0.1.2.1 (I.of .i64 4)) (brn (inB x0.1.2.1 4) (brn (inB x0.1.2.1 4) (optF (.done none) (b9D (((@Arr.sel (I .u64) (I.of .u64 0) 4 x0.2.1 (I.nat x0.1.2.1)),((@Arr.sel (I .u64) (I.of .u64 0) 4 x0.2.2.1 (I.nat x0.1.2.1)),(x0.1.1,()))),())) fun y1 => brn (inB x0.1.2.1 4) (.again ((y1.1.2.1,((I.add x0.1.2.1 (I.of .i64 1)),())),((@Arr.upd (I .u64) 4 x0.2.1 (I.nat x0.1.2.1) y1.1.1),(x0.2.2.1,(x0.2.2.2.1,()))))) (.done none)) (.done none)) (.done none)) (.done (some ((x0.2.1,()),())))) K0 ((I.of .u64 0,(I.of .i64 0,())),(a,(b,((I.of .u64 0,(I.of .u64 0,(I.of .u64 0,(I.of .u64 0,())))),()))))
noncomputable def a5N (x : (⟨[.pl (.arr 4 (.int .u64)), .pl (.arr 4 (.int .u64)), .pl (.arr 4 (.int .u64))], []⟩ : Tm).D) : Option (⟨[.pl (.arr 4 (.int .u64)), .pl (.arr 4 (.int .u64)), .pl (.int .i64)], []⟩ : Tm).D :=
 let a : (I .u64) × (I .u64) × (I .u64) × (I .u64) × Unit := x.1.1
 let b : (I .u64) × (I .u64) × (I .u64) × (I .u64) × Unit := x.1.2.1
 let c : (I .u64) × (I .u64) × (I .u64) × (I .u64) × Unit := x.1.2.2.1
 brn (Ty.eqb (.arr 4 (.int .u64)) c (I.of .u64 0,(I.of .u64 0,(I.of .u64 0,(I.of .u64 0,()))))) (some (((I.of .u64 0,(I.of .u64 0,(I.of .u64 0,(I.of .u64 0,())))),((I.of .u64 0,(I.of .u64 0,(I.of .u64 0,(I.of .u64 0,())))),(I.of .i64 5,()))),())) (optF none (a4N ((b,(c,())),())) fun y0 => brn (I.leb (I.of .i64 0) y0.1.1) (some (((I.of .u64 0,(I.of .u64 0,(I.of .u64 0,(I.of .u64 0,())))),((I.of .u64 0,(I.of .u64 0,(I.of .u64 0,(I.of .u64 0,())))),(I.of .i64 4,()))),())) (iter none (fun x1 => brn (I.leb (I.of .i64 0) x1.1.1) (brn (inB (I.quo x1.1.1 (I.of .i64 64)) 4) (brn (I.nn (I.rem x1.1.1 (I.of .i64 64))) (optF (.done none) (a6A ((x1.2.2.2.2.1,((I.and (I.shr (@Arr.sel (I .u64) (I.of .u64 0) 4 x1.2.1 (I.nat (I.quo x1.1.1 (I.of .i64 64)))) (I.rem x1.1.1 (I.of .i64 64))) (I.of .u64 1)),())),())) fun y2 => brn (I.eqb y2.1.2.1 (I.of .u64 1)) (optF (.done none) (a6H ((y2.1.1,(x1.2.2.1,())),())) fun y3 => brn (inB (I.quo x1.1.1 (I.of .i64 64)) 4) (brn (I.nn (I.rem x1.1.1 (I.of .i64 64))) (brn (inB (I.quo x1.1.1 (I.of .i64 64)) 4) (.again (((I.sub x1.1.1 (I.of .i64 1)),()),(x1.2.1,(x1.2.2.1,((@Arr.upd (I .u64) 4 x1.2.2.2.1 (I.nat (I.quo x1.1.1 (I.of .i64 64))) (I.or (@Arr.sel (I .u64) (I.of .u64 0) 4 x1.2.2.2.1 (I.nat (I.quo x1.1.1 (I.of .i64 64)))) (I.shl (I.of .u64 1) (I.rem x1.1.1 (I.of .i64 64))))),(y3.1.1,())))))) (.done none)) (.done none)) (.done none)) (optF (.done none) (a4N ((y2.1.1,(x1.2.2.1,())),())) fun y3 => brn (I.leb (I.of .i64 0) y3.1.1) (optF (.done none) (a6H ((y2.1.1,(x1.2.2.1,())),())) fun y4 => brn (inB (I.quo x1.1.1 (I.of .i64 64)) 4) (brn (I.nn (I.rem x1.1.1 (I.of .i64 64))) (brn (inB (I.quo x1.1.1 (I.of .i64 64)) 4) (.again (((I.sub x1.1.1 (I.of .i64 1)),()),(x1.2.1,(x1.2.2.1,((@Arr.upd (I .u64) 4 x1.2.2.2.1 (I.nat (I.quo x1.1.1 (I.of .i64 64))) (I.or (@Arr.sel (I .u64) (I.of .u64 0) 4 x1.2.2.2.1 (I.nat (I.quo x1.1.1 (I.of .i64 64)))) (I.shl (I.of .u64 1) (I.rem x1.1.1 (I.of .i64 64))))),(y4.1.1,())))))) (.done none)) (.done none)) (.done none)) (.again (((I.sub x1.1.1 (I.of .i64 1)),()),(x1.2.1,(x1.2.2.1,(x1.2.2.2.1,(y2.1.1,())))))))) (.done none)) (.done none)) (.done (some ((x1.2.2.2.1,(x1.2.2.2.2.1,(I.of .i64 0,()))),())))) K0 ((I.of .i64 255,()),(a,(c,((I.of .u64 0,(I.of .u64 0,(I.of .u64 0,(I.of .u64 0,())))),(b,())))))))
noncomputable def a8H (x : (⟨[.pl (.arr 4 (.int .u64)), .pl (.arr 4 (.int .u64))], []⟩ : Tm).D) : Option (⟨[.pl (.arr 4 (.int .u64)), .pl (.arr 4 (.int .u64)), .pl (.int .i64)], []⟩ : Tm).D :=
 let a : (I .u64) × (I .u64) × (I .u64) × (I .u64) × Unit := x.1.1
 let b : (I .u64) × (I .u64) × (I .u64) × (I .u64) × Unit := x.1.2.1
 optF none (a5N ((a,((I.of .u64 0,(I.of .u64 0,(I.of .u64 0,(I.of .u64 0,())))),(b,()))),())) fun y0 => some ((y0.1.1,(y0.1.2.1,(y0.1.2.2.1,()))),())
noncomputable def a6O (x : (⟨[.pl (.int .u64), .pl (.int .u64)], []⟩ : Tm).D) : Option (⟨[.pl (.int .u64), .pl (.int .u64)], []⟩ : Tm).D :=
 let a : I .u64 := x.1.1
 let b : I .u64 := x.1.2.1
 some (((I.add (I.add (I.mul (I.shr a (I.of .u64 32)) (I.shr b (I.of .u64 32))) (I.shr (I.add (I.mul (I.shr a (I.of .u64 32)) (I.and b (I.of .u64 4294967295))) (I.shr (I.mul (I.and a (I.of .u64 4294967295)) (I.and b (I.of .u64 4294967295))) (I.of .u64 32))) (I.of .u64 32))) (I.shr (I.add (I.and (I.add (I.mul (I.shr a (I.of .u64 32)) (I.and b (I.of .u64 4294967295))) (I.shr (I.mul (I.and a (I.of .u64 4294967295)) (I.and b (I.of .u64 4294967295))) (I.of .u64 32))) (I.of .u64 4294967295)) (I.mul (I.and a (I.of .u64 4294967295)) (I.shr b (I.of .u64 32)))) (I.of .u64 32))),((I.mul a b),())),())
noncomputable def a8O (x : (⟨[.pl (.arr 4 (.int .u64)), .pl (.arr 4 (.int .u64))], []⟩ : Tm).D) : Option (⟨[.pl (.arr 4 (.int .u64)), .pl (.int .i64)], []⟩ : Tm).D :=
 let a : (I .u64) × (I .u64) × (I .u64) × (I .u64) × Unit := x.1.1
 let b : (I .u64) × (I .u64) × (I .u64) × (I .u64) × Unit := x.1.2.1
 iter none (fun x0 => brn (I.ltb x0.1.1 (I.of .i64 4)) (iter (.done none) (fun x1 => brn (I.ltb x1.1.2.2.2.1 (I.of .i64 4)) (brn (inB x1.1.1 4) (brn (inB x1.1.2.2.2.1 4) (optF (.done (.done none)) (a6O (((@Arr.sel (I .u64) (I.of .u64 0) 4 x1.2.1 (I.nat x1.1.1)),((@Arr.sel (I .u64) (I.of .u64 0) 4 x1.2.2.1 (I.nat x1.1.2.2.2.1)),())),())) fun y2 => brn (I.ltb (I.of .i64 3) (I.add x1.1.1 x1.1.2.2.2.1)) (brn (I.neb (I.or y2.1.1 y2.1.2.1) (I.of .u64 0)) (.done (.done (some (((I.of .u64 0,(I.of .u64 0,(I.of .u64 0,(I.of .u64 0,())))),(I.of .i64 4,())),())))) (.again ((x1.1.1,(x1.1.2.1,(x1.1.2.2.1,((I.add x1.1.2.2.2.1 (I.of .i64 1)),())))),(x1.2.1,(x1.2.2.1,(x1.2.2.2.1,(x1.2.2.2.2.1,()))))))) (optF (.done (.done none)) (b1D ((y2.1.2.1,(x1.1.2.1,(I.of .u64 0,()))),())) fun y3 => brn (inB (I.add x1.1.1 x1.1.2.2.2.1) 4) (optF (.done (.done none)) (b1D (((@Arr.sel (I .u64) (I.of .u64 0) 4 x1.2.2.2.2.1 (I.nat (I.add x1.1.1 x1.1.2.2.2.1))),(y3.1.1,(I.of .u64 0,()))),())) fun y4 => brn (inB (I.add x1.1.1 x1.1.2.2.2.1) 4) (.again ((x1.1.1,((I.add (I.add y2.1.1 y3.1.2.1) y4.1.2.1),(x1.1.2.2.1,((I.add x1.1.2.2.2.1 (I.of .i64 1)),())))),(x1.2.1,(x1.2.2.1,(x1.2.2.2.1,((@Arr.upd (I .u64) 4 x1.2.2.2.2.1 (I.nat (I.add x1.1.1 x1.1.2.2.2.1)) y4.1.1),())))))) (.done (.done none))) (.done (.done none)))) (.done (.done none))) (.done (.done none))) (.done (brn (I.neb x1.1.2.1 (I.of .u64 0)) (.done (some (((I.of .u64 0,(I.of .u64 0,(I.of .u64 0,(I.of .u64 0,())))),(I.of .i64 4,())),()))) (.again (((I.add x1.1.2.2.1 (I.of .i64 1)),()),(x1.2.1,(x1.2.2.1,(x1.2.2.2.1,(x1.2.2.2.2.1,()))))))))) K0 ((x0.1.1,(I.of .u64 0,(x0.1.1,(I.of .i64 0,())))),(x0.2.1,(x0.2.2.1,(x0.2.2.2.1,(x0.2.2.2.2.1,())))))) (.done (some ((x0.2.2.2.2.1,(I.of .i64 0,())),())))) K0 ((I.of .i64 0,()),(a,(b,((I.of .u64 0,(I.of .u64 0,(I.of .u64 0,(I.of .u64 0,())))),((I.of .u64 0,(I.of .u64 0,(I.of .u64 0,(I.of .u64 0,())))),())))))
noncomputable def a0M (x : (⟨[.pl (.int .u64)], []⟩ : Tm).D) : Option (⟨[.pl (.arr 4 (.int .u64))], []⟩ : Tm).D :=
 let a : I .u64 := x.1.1
 some (((a,(I.of .u64 0,(I.of .u64 0,(I.of .u64 0,())))),()),())
noncomputable def a2E (x : (⟨[.pl (.arr 4 (.int .u64)), .pl (.arr 4 (.int .u64))], []⟩ : Tm).D) : Option (⟨[.pl (.arr 4 (.int .u64))], []⟩ : Tm).D :=
 let a : (I .u64) × (I .u64) × (I .u64) × (I .u64) × Unit := x.1.1
 let b : (I .u64) × (I .u64) × (I .u64) × (I .u64) × Unit := x.1.2.1
 optF none (a9N ((a,(b,())),())) fun y0 => some ((y0.1.1,()),())
end Sym

/- The given functions as plain functions, as the printer told them. -/
namespace Sym
open Go
noncomputable def b0W (x : (⟨[.pl (.arr 4 (.int .u64)), .pl (.sl (.arr 4 (.int .u64)))], []⟩ : Tm).D) : Option (⟨[.pl (.arr 4 (.int .u64))], []⟩ : Tm).D :=
 let a : (I .u64) × (I .u64) × (I .u64) × (I .u64) × Unit := x.1.1
 let b : List ((I .u64) × (I .u64) × (I .u64) × (I .u64) × Unit) := x.1.2.1
 iter none (fun x0 => brn (I.ltb x0.1.2.2.1 x0.1.2.1) (brn (inB x0.1.2.2.1 (@a0O ((I .u64) × ((I .u64) × ((I .u64) × ((I .u64) × Unit)))) x0.1.1)) (optF (.done none) (a4N (((@rdL ((I .u64) × ((I .u64) × ((I .u64) × ((I .u64) × Unit)))) (I.of .u64 0,(I.of .u64 0,(I.of .u64 0,(I.of .u64 0,())))) x0.1.1 (I.nat x0.1.2.2.1)),(x0.2.1,())),())) fun y1 => brn (I.ltb y1.1.1 (I.of .i64 0)) (.again ((x0.1.1,(x0.1.2.1,((I.add x0.1.2.2.1 (I.of .i64 1)),()))),((@rdL ((I .u64) × ((I .u64) × ((I .u64) × ((I .u64) × Unit)))) (I.of .u64 0,(I.of .u64 0,(I.of .u64 0,(I.of .u64 0,())))) x0.1.1 (I.nat x0.1.2.2.1)),(x0.2.2.1,())))) (.again ((x0.1.1,(x0.1.2.1,((I.add x0.1.2.2.1 (I.of .i64 1)),()))),(x0.2.1,(x0.2.2.1,()))))) (.done none)) (.done (some ((x0.2.1,()),())))) K0 ((b,((I.ofNat .i64 (@a0O ((I .u64) × ((I .u64) × ((I .u64) × ((I .u64) × Unit)))) b)),(I.of .i64 0,()))),(a,((I.of .u64 0,(I.of .u64 0,(I.of .u64 0,(I.of .u64 0,())))),())))
noncomputable def b2Y (x : (⟨[], []⟩ : Tm).D) : Option (⟨[.pl (.arr 4 (.int .u64))], []⟩ : Tm).D :=
 some (((I.of .u64 18446744073709551615,(I.of .u64 18446744073709551615,(I.of .u64 18446744073709551615,(I.of .u64 18446744073709551615,())))),()),())
noncomputable def a4O (x : (⟨[.pl (.arr 4 (.int .u64)), .pl (.arr 4 (.int .u64))], []⟩ : Tm).D) : Option (⟨[.pl (.arr 4 (.int .u64))], []⟩ : Tm).D :=
 let a : (I .u64) × (I .u64) × (I .u64) × (I .u64) × Unit := x.1.1
 let b : (I .u64) × (I .u64) × (I .u64) × (I .u64) × Unit := x.1.2.1
 optF none (a1Z ((a,(b,())),())) fun y0 => brn (I.eqb y0.1.2.1 (I.of .i64 0)) (some ((y0.1.1,()),())) (optF none (b2Y ((),())) fun y1 => some ((y1.1.1,()),()))
noncomputable def a9M (x : (⟨[.pl (.int .i64), .pl (.int .i64)], []⟩ : Tm).D) : Option (⟨[.pl (.int .i64)], []⟩ : Tm).D :=
 let a : I .i64 := x.1.1
 let b : I .i64 := x.1.2.1
 brn (I.nz (I.conv (k := .i64) .u64 b)) (some (((I.conv (k := .u64) .i64 (I.rem (I.conv (k := .i64) .u64 a) (I.conv (k := .i64) .u64 b))),()),())) none
noncomputable def a9F (x : (⟨[.pl (.sl (.int .i64)), .pl (.sl (.int .i64))], []⟩ : Tm).D) : Option (⟨[.pl (.sl (.int .i64))], []⟩ : Tm).D :=
 let a : List (I .i64) := x.1.1
 let b : List (I .i64) := x.1.2.1
 optF none (a3Q ((a,(b,())),())) fun y0 => brn (I.ltb (I.of .i64 0) y0.1.1) (some ((b,()),())) (some ((a,()),()))
end Sym

/- The given functions as plain functions, as the printer told them. -/
namespace Sym
open Go
noncomputable section
def a5I (x : (⟨[.pl .bool, .pl (.arr 4 (.int .u64))], []⟩ : Tm).D) : Option (⟨[.pl tY6], []⟩ : Tm).D :=
 let a : Bool := x.1.1
 let b : (I .u64) × (I .u64) × (I .u64) × (I .u64) × Unit := x.1.2.1
 brn a (some ((((a2R (Ty.eqb (.arr 4 (.int .u64)) b (I.of .u64 0,(I.of .u64 0,(I.of .u64 0,(I.of .u64 0,())))))),(b,())),()),())) (some (((false,(b,())),()),()))
def a1Y (x : (⟨[.pl tY6], []⟩ : Tm).D) : Option (⟨[.pl .bool], []⟩ : Tm).D :=
 let a : (Bool) × ((I .u64) × (I .u64) × (I .u64) × (I .u64) × Unit) × Unit := x.1.1
 brn (a2R a.1) (some ((true,()),())) (some (((a2R (Ty.eqb (.arr 4 (.int .u64)) a.2.1 (I.of .u64 0,(I.of .u64 0,(I.of .u64 0,(I.of .u64 0,())))))),()),()))
def a3P (x : (⟨[.pl tY6, .pl (.arr 4 (.int .u64))], []⟩ : Tm).D) : Option (⟨[.pl tY6, .pl (.int .i64)], []⟩ : Tm).D :=
 let a : (Bool) × ((I .u64) × (I .u64) × (I .u64) × (I .u64) × Unit) × Unit := x.1.1
 let b : (I .u64) × (I .u64) × (I .u64) × (I .u64) × Unit := x.1.2.1
 optF none (a1Y ((a,()),())) fun y0 => brn (a2R y0.1.1) (some (((false,((I.of .u64 0,(I.of .u64 0,(I.of .u64 0,(I.of .u64 0,())))),())),(I.of .i64 2,())),())) (optF none (a8H ((a.2.1,(b,())),())) fun y1 => brn (I.neb y1.1.2.2.1 (I.of .i64 0)) (some (((false,((I.of .u64 0,(I.of .u64 0,(I.of .u64 0,(I.of .u64 0,())))),())),(y1.1.2.2.1,())),())) (jn (fun (x2 : ((Bool × Unit) × ((Bool × (((I .u64) × ((I .u64) × ((I .u64) × ((I .u64) × Unit)))) × Unit)) × ((Bool × (((I .u64) × ((I .u64) × ((I .u64) × ((I .u64) × Unit)))) × Unit)) × (((I .u64) × ((I .u64) × ((I .u64) × ((I .u64) × Unit)))) × Unit))))) => brn x2.1.1 (optF none (a0M ((I.of .u64 1,()),())) fun y3 => optF none (a1Z ((x2.2.2.2.1,(y3.1.1,())),())) fun y4 => optF none (a5I ((x2.2.1.1,(y4.1.1,())),())) fun y5 => some ((y5.1.1,(I.of .i64 0,())),())) (optF none (a5I ((x2.2.1.1,(x2.2.2.2.1,())),())) fun y3 => some ((y3.1.1,(I.of .i64 0,())),()))) fun j2 => brn a.1 (j2 (((a2R (Ty.eqb (.arr 4 (.int .u64)) y1.1.2.1 (I.of .u64 0,(I.of .u64 0,(I.of .u64 0,(I.of .u64 0,())))))),()),(a,((false,((I.of .u64 0,(I.of .u64 0,(I.of .u64 0,(I.of .u64 0,())))),())),(y1.1.1,()))))) (j2 ((false,()),(a,((false,((I.of .u64 0,(I.of .u64 0,(I.of .u64 0,(I.of .u64 0,())))),())),(y1.1.1,())))))))
def a3E (x : (⟨[.pl tY6], []⟩ : Tm).D) : Option (⟨[.pl .bool], []⟩ : Tm).D :=
 let a : (Bool) × ((I .u64) × (I .u64) × (I .u64) × (I .u64) × Unit) × Unit := x.1.1
 brn a.1 (optF none (a3J ((a.2.1,()),())) fun y0 => some (((a2R y0.1.1),()),())) (some ((true,()),()))
def a5M (x : (⟨[.pl tY7], []⟩ : Tm).D) : Option (⟨[.pl tY6, .pl (.int .i64)], []⟩ : Tm).D :=
 let a : (Bool) × (List (I .i64)) × Unit := x.1.1
 optF none (a2N ((a.2.1,()),())) fun y0 => brn (I.neb y0.1.2.1 (I.of .i64 0)) (some (((false,((I.of .u64 0,(I.of .u64 0,(I.of .u64 0,(I.of .u64 0,())))),())),(y0.1.2.1,())),())) (some (((a.1,(y0.1.1,())),(I.of .i64 0,())),()))
def a2A (x : (⟨[.pl .bool, .pl (.sl (.int .i64))], []⟩ : Tm).D) : Option (⟨[.pl tY7], []⟩ : Tm).D :=
 let a : Bool := x.1.1
 let b : List (I .i64) := x.1.2.1
 brn a (some ((((I.ltb (I.of .i64 0) (I.ofNat .i64 (@a0O (I .i64) b))),(b,())),()),())) (some (((false,(b,())),()),()))
def a3G (x : (⟨[.pl tY7, .pl (.sl (.int .i64))], []⟩ : Tm).D) : Option (⟨[.pl tY7], []⟩ : Tm).D :=
 let a : (Bool) × (List (I .i64)) × Unit := x.1.1
 let b : List (I .i64) := x.1.2.1
 optF none (a4S ((a.2.1,(b,())),())) fun y0 => jn (fun (x1 : (((List (I .i64)) × (Bool × Unit)) × ((Bool × ((List (I .i64)) × Unit)) × ((Bool × ((List (I .i64)) × Unit)) × Unit)))) => brn x1.1.2.1 (optF none (a1J ((I.of .u64 1,()),())) fun y2 => optF none (a2G ((x1.1.1,(y2.1.1,())),())) fun y3 => optF none (a2A ((x1.2.1.1,(y3.1.1,())),())) fun y4 => some ((y4.1.1,()),())) (optF none (a2A ((x1.2.1.1,(x1.1.1,())),())) fun y2 => some ((y2.1.1,()),()))) fun j1 => brn a.1 (j1 ((y0.1.1,((I.ltb (I.of .i64 0) (I.ofNat .i64 (@a0O (I .i64) y0.1.2.1))),())),(a,((false,([],())),())))) (j1 ((y0.1.1,(false,())),(a,((false,([],())),()))))
def a2O (x : (⟨[.pl tY6], []⟩ : Tm).D) : Option (⟨[.pl tY7], []⟩ : Tm).D :=
 let a : (Bool) × ((I .u64) × (I .u64) × (I .u64) × (I .u64) × Unit) × Unit := x.1.1
 optF none (a0K ((a.2.1,()),())) fun y0 => optF none (a2A ((a.1,(y0.1.1,())),())) fun y1 => some ((y1.1.1,()),())
def a6N (x : (⟨[.pl (.arr 4 (.int .u64)), .pl tY6], []⟩ : Tm).D) : Option (⟨[.pl (.arr 4 (.int .u64)), .pl (.int .i64)], []⟩ : Tm).D :=
 let a : (I .u64) × (I .u64) × (I .u64) × (I .u64) × Unit := x.1.1
 let b : (Bool) × ((I .u64) × (I .u64) × (I .u64) × (I .u64) × Unit) × Unit := x.1.2.1
 optF none (a1Y ((b,()),())) fun y0 => brn (a2R y0.1.1) (some (((I.of .u64 0,(I.of .u64 0,(I.of .u64 0,(I.of .u64 0,())))),(I.of .i64 2,())),())) (brn b.1 (optF none (a2E ((a,(b.2.1,())),())) fun y1 => some ((y1.1.1,(I.of .i64 0,())),())) (optF none (a1Z ((a,(b.2.1,())),())) fun y1 => some ((y1.1.1,(y1.1.2.1,())),())))
def a5A (x : (⟨[.pl tY7, .pl tY7], []⟩ : Tm).D) : Option (⟨[.pl tY7], []⟩ : Tm).D :=
 let a : (Bool) × (List (I .i64)) × Unit := x.1.1
 let b : (Bool) × (List (I .i64)) × Unit := x.1.2.1
 brn (Ty.eqb .bool a.1 b.1) (optF none (a2G ((a.2.1,(b.2.1,())),())) fun y0 => optF none (a2A ((a.1,(y0.1.1,())),())) fun y1 => some ((y1.1.1,()),())) (optF none (a3Q ((a.2.1,(b.2.1,())),())) fun y0 => brn (I.leb (I.of .i64 0) y0.1.1) (optF none (a2X ((a.2.1,(b.2.1,())),())) fun y1 => optF none (a2A ((a.1,(y1.1.1,())),())) fun y2 => some ((y2.1.1,()),())) (optF none (a2X ((b.2.1,(a.2.1,())),())) fun y1 => optF none (a2A ((b.1,(y1.1.1,())),())) fun y2 => some ((y2.1.1,()),())))
def a5H (x : (⟨[.pl (.arr 4 (.int .u64)), .pl tY6], []⟩ : Tm).D) : Option (⟨[.pl (.arr 4 (.int .u64)), .pl (.int .i64)], []⟩ : Tm).D :=
 let a : (I .u64) × (I .u64) × (I .u64) × (I .u64) × Unit := x.1.1
 let b : (Bool) × ((I .u64) × (I .u64) × (I .u64) × (I .u64) × Unit) × Unit := x.1.2.1
 optF none (a3E ((b,()),())) fun y0 => brn (a2R y0.1.1) (some (((I.of .u64 0,(I.of .u64 0,(I.of .u64 0,(I.of .u64 0,())))),(I.of .i64 2,())),())) (optF none (a0K ((a,()),())) fun y1 => optF none (a2A ((false,(y1.1.1,())),())) fun y2 => optF none (a2O ((b,()),())) fun y3 => optF none (a5A ((y2.1.1,(y3.1.1,())),())) fun y4 => brn y4.1.1.1 (some (((I.of .u64 0,(I.of .u64 0,(I.of .u64 0,(I.of .u64 0,())))),(I.of .i64 0,())),())) (optF none (a2N ((y4.1.1.2.1,()),())) fun y5 => some ((y5.1.1,(y5.1.2.1,())),())))
def b0V (x : (⟨[.pl (.arr 4 (.int .u64)), .pl (.arr 4 (.int .u64))], []⟩ : Tm).D) : Option (⟨[.pl tY6], []⟩ : Tm).D :=
 let a : (I .u64) × (I .u64) × (I .u64) × (I .u64) × Unit := x.1.1
 let b : (I .u64) × (I .u64) × (I .u64) × (I .u64) × Unit := x.1.2.1
 optF none (a4N ((a,(b,())),())) fun y0 => brn (I.leb (I.of .i64 0) y0.1.1) (optF none (a2E ((a,(b,())),())) fun y1 => optF none (a5I ((false,(y1.1.1,())),())) fun y2 => some ((y2.1.1,()),())) (optF none (a2E ((b,(a,())),())) fun y1 => optF none (a5I ((true,(y1.1.1,())),())) fun y2 => some ((y2.1.1,()),()))
def a8U (x : (⟨[.pl (.arr 4 (.int .u64)), .pl (.arr 4 (.int .u64))], []⟩ : Tm).D) : Option (⟨[.pl tY6], []⟩ : Tm).D :=
 let a : (I .u64) × (I .u64) × (I .u64) × (I .u64) × Unit := x.1.1
 let b : (I .u64) × (I .u64) × (I .u64) × (I .u64) × Unit := x.1.2.1
 optF none (a0K ((a,()),())) fun y0 => optF none (a2A ((false,(y0.1.1,())),())) fun y1 => optF none (a0K ((b,()),())) fun y2 => optF none (a2A ((true,(y2.1.1,())),())) fun y3 => optF none (a5A ((y1.1.1,(y3.1.1,())),())) fun y4 => optF none (a5M ((y4.1.1,()),())) fun y5 => some ((y5.1.1,()),())
def b0X (x : (⟨[.pl tY6], []⟩ : Tm).D) : Option (⟨[.pl tY6, .pl (.int .i64)], []⟩ : Tm).D :=
 let a : (Bool) × ((I .u64) × (I .u64) × (I .u64) × (I .u64) × Unit) × Unit := x.1.1
 optF none (a1Y ((a,()),())) fun y0 => brn (a2R y0.1.1) (some (((false,((I.of .u64 0,(I.of .u64 0,(I.of .u64 0,(I.of .u64 0,())))),())),(I.of .i64 2,())),())) (optF none (a5I (((a2R a.1),(a.2.1,())),())) fun y1 => some ((y1.1.1,(I.of .i64 0,())),()))
def a3X (x : (⟨[.pl tY7], []⟩ : Tm).D) : Option (⟨[.pl tY7], []⟩ : Tm).D :=
 let a : (Bool) × (List (I .i64)) × Unit := x.1.1
 optF none (a2A (((a2R a.1),(a.2.1,())),())) fun y0 => some ((y0.1.1,()),())
def b5J (x : (⟨[.pl tY6, .pl tY6], []⟩ : Tm).D) : Option (⟨[.pl tY6, .pl (.int .i64)], []⟩ : Tm).D :=
 let a : (Bool) × ((I .u64) × (I .u64) × (I .u64) × (I .u64) × Unit) × Unit := x.1.1
 let b : (Bool) × ((I .u64) × (I .u64) × (I .u64) × (I .u64) × Unit) × Unit := x.1.2.1
 jn (fun (x0 : (Unit × ((Bool × (((I .u64) × ((I .u64) × ((I .u64) × ((I .u64) × Unit)))) × Unit)) × ((Bool × (((I .u64) × ((I .u64) × ((I .u64) × ((I .u64) × Unit)))) × Unit)) × ((Bool × (((I .u64) × ((I .u64) × ((I .u64) × ((I .u64) × Unit)))) × Unit)) × Unit))))) => brn (Ty.eqb .bool x0.2.1.1 x0.2.2.1.1) (optF none (a1Z ((x0.2.1.2.1,(x0.2.2.1.2.1,())),())) fun y1 => brn (I.neb y1.1.2.1 (I.of .i64 0)) (some (((false,((I.of .u64 0,(I.of .u64 0,(I.of .u64 0,(I.of .u64 0,())))),())),(y1.1.2.1,())),())) (optF none (a5I ((x0.2.1.1,(y1.1.1,())),())) fun y2 => some ((y2.1.1,(I.of .i64 0,())),()))) (brn x0.2.1.1 (optF none (b0V ((x0.2.2.1.2.1,(x0.2.1.2.1,())),())) fun y1 => some ((y1.1.1,(I.of .i64 0,())),())) (optF none (b0V ((x0.2.1.2.1,(x0.2.2.1.2.1,())),())) fun y1 => some ((y1.1.1,(I.of .i64 0,())),())))) fun j0 => optF none (a1Y ((a,()),())) fun y1 => brn (a2R y1.1.1) (some (((false,((I.of .u64 0,(I.of .u64 0,(I.of .u64 0,(I.of .u64 0,())))),())),(I.of .i64 2,())),())) (optF none (a1Y ((b,()),())) fun y2 => brn (a2R y2.1.1) (some (((false,((I.of .u64 0,(I.of .u64 0,(I.of .u64 0,(I.of .u64 0,())))),())),(I.of .i64 2,())),())) (j0 ((),(a,(b,((false,((I.of .u64 0,(I.of .u64 0,(I.of .u64 0,(I.of .u64 0,())))),())),()))))))
def a7V (x : (⟨[.pl tY7, .pl tY7], []⟩ : Tm).D) : Option (⟨[.pl tY7], []⟩ : Tm).D :=
 let a : (Bool) × (List (I .i64)) × Unit := x.1.1
 let b : (Bool) × (List (I .i64)) × Unit := x.1.2.1
 optF none (a5Q ((a.2.1,(b.2.1,())),())) fun y0 => optF none (a2A (((a2R (Ty.eqb .bool a.1 b.1)),(y0.1.1,())),())) fun y1 => some ((y1.1.1,()),())
def a8W (x : (⟨[.pl tY6, .pl tY6], []⟩ : Tm).D) : Option (⟨[.pl tY6, .pl (.int .i64)], []⟩ : Tm).D :=
 let a : (Bool) × ((I .u64) × (I .u64) × (I .u64) × (I .u64) × Unit) × Unit := x.1.1
 let b : (Bool) × ((I .u64) × (I .u64) × (I .u64) × (I .u64) × Unit) × Unit := x.1.2.1
 optF none (b0X ((b,()),())) fun y0 => jn (fun (x1 : (Unit × ((Bool × (((I .u64) × ((I .u64) × ((I .u64) × ((I .u64) × Unit)))) × Unit)) × ((Bool × (((I .u64) × ((I .u64) × ((I .u64) × ((I .u64) × Unit)))) × Unit)) × ((Bool × (((I .u64) × ((I .u64) × ((I .u64) × ((I .u64) × Unit)))) × Unit)) × Unit))))) => optF none (b5J ((x1.2.1,(x1.2.2.2.1,())),())) fun y2 => some ((y2.1.1,(y2.1.2.1,())),())) fun j1 => brn (I.neb y0.1.2.1 (I.of .i64 0)) (some (((false,((I.of .u64 0,(I.of .u64 0,(I.of .u64 0,(I.of .u64 0,())))),())),(I.of .i64 2,())),())) (optF none (a1Y ((a,()),())) fun y2 => brn (a2R y2.1.1) (some (((false,((I.of .u64 0,(I.of .u64 0,(I.of .u64 0,(I.of .u64 0,())))),())),(I.of .i64 2,())),())) (j1 ((),(a,((false,((I.of .u64 0,(I.of .u64 0,(I.of .u64 0,(I.of .u64 0,())))),())),(y0.1.1,()))))))
def a9S (x : (⟨[.pl tY6, .pl tY6], []⟩ : Tm).D) : Option (⟨[.pl tY6, .pl (.int .i64)], []⟩ : Tm).D :=
 let a : (Bool) × ((I .u64) × (I .u64) × (I .u64) × (I .u64) × Unit) × Unit := x.1.1
 let b : (Bool) × ((I .u64) × (I .u64) × (I .u64) × (I .u64) × Unit) × Unit := x.1.2.1
 jn (fun (x0 : (Unit × ((Bool × (((I .u64) × ((I .u64) × ((I .u64) × ((I .u64) × Unit)))) × Unit)) × ((Bool × (((I .u64) × ((I .u64) × ((I .u64) × ((I .u64) × Unit)))) × Unit)) × ((Bool × (((I .u64) × ((I .u64) × ((I .u64) × ((I .u64) × Unit)))) × Unit)) × Unit))))) => optF none (a8O ((x0.2.1.2.1,(x0.2.2.1.2.1,())),())) fun y1 => brn (I.neb y1.1.2.1 (I.of .i64 0)) (some (((false,((I.of .u64 0,(I.of .u64 0,(I.of .u64 0,(I.of .u64 0,())))),())),(y1.1.2.1,())),())) (optF none (a5I (((a2R (Ty.eqb .bool x0.2.1.1 x0.2.2.1.1)),(y1.1.1,())),())) fun y2 => some ((y2.1.1,(I.of .i64 0,())),()))) fun j0 => optF none (a1Y ((a,()),())) fun y1 => brn (a2R y1.1.1) (some (((false,((I.of .u64 0,(I.of .u64 0,(I.of .u64 0,(I.of .u64 0,())))),())),(I.of .i64 2,())),())) (optF none (a1Y ((b,()),())) fun y2 => brn (a2R y2.1.1) (some (((false,((I.of .u64 0,(I.of .u64 0,(I.of .u64 0,(I.of .u64 0,())))),())),(I.of .i64 2,())),())) (j0 ((),(a,(b,((false,((I.of .u64 0,(I.of .u64 0,(I.of .u64 0,(I.of .u64 0,())))),())),()))))))
end
end Sym

/- The given functions as plain functions, as the printer told them. -/
namespace Sym
open Go
noncomputable section
def a6F (x : (⟨[], []⟩ : Tm).D) : Option (⟨[.pl tY8], []⟩ : Tm).D :=
 optF none (a0M ((I.of .u64 100000000,()),())) fun y0 => optF none (a0M ((I.of .u64 60000000,()),())) fun y1 => optF none (a0M ((I.of .u64 10,()),())) fun y2 => some (((I.of .u64 7000000,(I.of .u64 10,(I.of .u64 102,(y0.1.1,(I.of .u64 32000000,(y1.1.1,(I.of .u64 1000,(y2.1.1,(I.of .u64 160000000,(I.of .u64 10,(I.of .u64 16,(I.of .u64 65536,())))))))))))),()),())
def a3K (x : (⟨[.pl (.arr 8 (.int .u64))], []⟩ : Tm).D) : Option (⟨[.pl tY8], []⟩ : Tm).D :=
 let a : (I .u64) × (I .u64) × (I .u64) × (I .u64) × (I .u64) × (I .u64) × (I .u64) × (I .u64) × Unit := x.1.1
 optF none (a6F ((),())) fun y0 => brn (I.nn (I.add (I.of .u64 1) (I.rem a.1 (I.of .u64 40)))) (brn (I.nz (I.shl (I.of .u64 1) (I.add (I.of .u64 1) (I.rem a.1 (I.of .u64 40))))) (brn (I.nn (I.add (I.of .u64 1) (I.rem a.2.2.2.1 (I.of .u64 60)))) (brn (I.nz (I.shl (I.of .u64 1) (I.add (I.of .u64 1) (I.rem a.2.2.2.1 (I.of .u64 60))))) (brn (I.nn (I.add (I.of .u64 10) (I.rem a.2.2.2.2.1 (I.of .u64 30)))) (brn (I.nz (I.shl (I.of .u64 1) (I.add (I.of .u64 10) (I.rem a.2.2.2.2.1 (I.of .u64 30))))) (brn (I.nn (I.add (I.of .u64 1) (I.rem a.2.2.2.2.2.1 (I.of .u64 60)))) (brn (I.nz (I.shl (I.of .u64 1) (I.add (I.of .u64 1) (I.rem a.2.2.2.2.2.1 (I.of .u64 60))))) (brn (I.nn (I.add (I.of .u64 1) (I.rem a.2.2.2.2.2.2.2.1 (I.of .u64 40)))) (brn (I.nz (I.shl (I.of .u64 1) (I.add (I.of .u64 1) (I.rem a.2.2.2.2.2.2.2.1 (I.of .u64 40))))) (some ((((I.add (I.of .u64 1) (I.rem a.1 (I.shl (I.of .u64 1) (I.add (I.of .u64 1) (I.rem a.1 (I.of .u64 40)))))),((I.rem a.2.1 (I.of .u64 40)),((I.add (I.of .u64 1) (I.rem a.2.2.1 (I.of .u64 300))),(((I.add (I.of .u64 1) (I.rem a.2.2.2.1 (I.shl (I.of .u64 1) (I.add (I.of .u64 1) (I.rem a.2.2.2.1 (I.of .u64 60)))))),(I.of .u64 0,(I.of .u64 0,(I.of .u64 0,())))),((I.add (I.of .u64 1) (I.rem a.2.2.2.2.1 (I.shl (I.of .u64 1) (I.add (I.of .u64 10) (I.rem a.2.2.2.2.1 (I.of .u64 30)))))),(((I.rem a.2.2.2.2.2.1 (I.shl (I.of .u64 1) (I.add (I.of .u64 1) (I.rem a.2.2.2.2.2.1 (I.of .u64 60))))),(I.of .u64 0,(I.of .u64 0,(I.of .u64 0,())))),((I.rem a.2.2.2.2.2.2.1 (I.of .u64 10001)),(((I.rem a.2.2.2.2.2.2.1 (I.of .u64 5000)),(I.of .u64 0,(I.of .u64 0,(I.of .u64 0,())))),((I.add (I.of .u64 1) (I.rem a.2.2.2.2.2.2.2.1 (I.shl (I.of .u64 1) (I.add (I.of .u64 1) (I.rem a.2.2.2.2.2.2.2.1 (I.of .u64 40)))))),((I.add (I.of .u64 1) (I.rem (I.quo a.2.2.2.2.2.2.2.1 (I.of .u64 7)) (I.of .u64 100))),y0.1.1.2.2.2.2.2.2.2.2.2.2)))))))))),()),())) none) none) none) none) none) none) none) none) none) none
def b5X (x : (⟨[.pl tY8, .pl (.int .i64)], []⟩ : Tm).D) : Option (⟨[.pl (.arr 4 (.int .u64)), .pl (.int .i64)], []⟩ : Tm).D :=
 let a : (I .u64) × (I .u64) × (I .u64) × ((I .u64) × (I .u64) × (I .u64) × (I .u64) × Unit) × (I .u64) × ((I .u64) × (I .u64) × (I .u64) × (I .u64) × Unit) × (I .u64) × ((I .u64) × (I .u64) × (I .u64) × (I .u64) × Unit) × (I .u64) × (I .u64) × (I .u64) × (I .u64) × Unit := x.1.1
 let b : I .i64 := x.1.2.1
 brn (I.eqb b (I.of .i64 4)) (some ((a.2.2.2.1,(I.of .i64 0,())),())) (brn (I.eqb b (I.of .i64 6)) (some ((a.2.2.2.2.2.1,(I.of .i64 0,())),())) (brn (I.eqb b (I.of .i64 8)) (some ((a.2.2.2.2.2.2.2.1,(I.of .i64 0,())),())) (brn (I.eqb b (I.of .i64 1)) (optF none (a0M ((a.1,()),())) fun y0 => some ((y0.1.1,(I.of .i64 0,())),())) (brn (I.eqb b (I.of .i64 2)) (optF none (a0M ((a.2.1,()),())) fun y0 => some ((y0.1.1,(I.of .i64 0,())),())) (brn (I.eqb b (I.of .i64 3)) (optF none (a0M ((a.2.2.1,()),())) fun y0 => some ((y0.1.1,(I.of .i64 0,())),())) (brn (I.eqb b (I.of .i64 5)) (optF none (a0M ((a.2.2.2.2.1,()),())) fun y0 => some ((y0.1.1,(I.of .i64 0,())),())) (brn (I.eqb b (I.of .i64 7)) (optF none (a0M ((a.2.2.2.2.2.2.1,()),())) fun y0 => some ((y0.1.1,(I.of .i64 0,())),())) (brn (I.eqb b (I.of .i64 9)) (optF none (a0M ((a.2.2.2.2.2.2.2.2.1,()),())) fun y0 => some ((y0.1.1,(I.of .i64 0,())),())) (brn (I.eqb b (I.of .i64 10)) (optF none (a0M ((a.2.2.2.2.2.2.2.2.2.1,()),())) fun y0 => some ((y0.1.1,(I.of .i64 0,())),())) (brn (I.eqb b (I.of .i64 11)) (optF none (a0M ((a.2.2.2.2.2.2.2.2.2.2.1,()),())) fun y0 => some ((y0.1.1,(I.of .i64 0,())),())) (brn (I.eqb b (I.of .i64 12)) (optF none (a0M ((a.2.2.2.2.2.2.2.2.2.2.2.1,()),())) fun y0 => some ((y0.1.1,(I.of .i64 0,())),())) (some (((I.of .u64 0,(I.of .u64 0,(I.of .u64 0,(I.of .u64 0,())))),(I.of .i64 17,())),())))))))))))))
def b1O (x : (⟨[.pl tY8, .pl (.int .i64)], []⟩ : Tm).D) : Option (⟨[.pl (.int .u64), .pl (.int .u64)], []⟩ : Tm).D :=
 let a : (I .u64) × (I .u64) × (I .u64) × ((I .u64) × (I .u64) × (I .u64) × (I .u64) × Unit) × (I .u64) × ((I .u64) × (I .u64) × (I .u64) × (I .u64) × Unit) × (I .u64) × ((I .u64) × (I .u64) × (I .u64) × (I .u64) × Unit) × (I .u64) × (I .u64) × (I .u64) × (I .u64) × Unit := x.1.1
 let b : I .i64 := x.1.2.1
 jn (fun (x0 : (((I .i64) × (Bool × Unit)) × (((I .u64) × ((I .u64) × ((I .u64) × (((I .u64) × ((I .u64) × ((I .u64) × ((I .u64) × Unit)))) × ((I .u64) × (((I .u64) × ((I .u64) × ((I .u64) × ((I .u64) × Unit)))) × ((I .u64) × (((I .u64) × ((I .u64) × ((I .u64) × ((I .u64) × Unit)))) × ((I .u64) × ((I .u64) × ((I .u64) × ((I .u64) × Unit)))))))))))) × Unit))) => brn x0.1.2.1 (some ((I.of .u64 1,(I.of .u64 1099511627776,())),())) (jn (fun (x1 : (((I .i64) × (Bool × Unit)) × (((I .u64) × ((I .u64) × ((I .u64) × (((I .u64) × ((I .u64) × ((I .u64) × ((I .u64) × Unit)))) × ((I .u64) × (((I .u64) × ((I .u64) × ((I .u64) × ((I .u64) × Unit)))) × ((I .u64) × (((I .u64) × ((I .u64) × ((I .u64) × ((I .u64) × Unit)))) × ((I .u64) × ((I .u64) × ((I .u64) × ((I .u64) × Unit)))))))))))) × Unit))) => brn x1.1.2.1 (some ((I.of .u64 0,(I.of .u64 1048576,())),())) (jn (fun (x2 : (((I .i64) × (Bool × Unit)) × (((I .u64) × ((I .u64) × ((I .u64) × (((I .u64) × ((I .u64) × ((I .u64) × ((I .u64) × Unit)))) × ((I .u64) × (((I .u64) × ((I .u64) × ((I .u64) × ((I .u64) × Unit)))) × ((I .u64) × (((I .u64) × ((I .u64) × ((I .u64) × ((I .u64) × Unit)))) × ((I .u64) × ((I .u64) × ((I .u64) × ((I .u64) × Unit)))))))))))) × Unit))) => brn x2.1.2.1 (some ((I.of .u64 1,(I.of .u64 1048576,())),())) (brn (I.eqb x2.1.1 (I.of .i64 4)) (some ((I.of .u64 1,(I.of .u64 18446744073709551615,())),())) (brn (I.eqb x2.1.1 (I.of .i64 7)) (some ((I.of .u64 0,(I.of .u64 10000,())),())) (brn (I.eqb x2.1.1 (I.of .i64 12)) (some ((x2.2.1.2.2.2.2.2.2.2.2.2.2.1,(I.of .u64 16777216,())),())) (some ((I.of .u64 0,(I.of .u64 18446744073709551615,())),())))))) fun j2 => brn (I.eqb x1.1.1 (I.of .i64 3)) (j2 ((x1.1.1,((I.eqb x1.1.1 (I.of .i64 3)),())),(x1.2.1,()))) (j2 ((x1.1.1,((I.eqb x1.1.1 (I.of .i64 10)),())),(x1.2.1,()))))) fun j1 => brn (I.eqb x0.1.1 (I.of .i64 2)) (j1 ((x0.1.1,((I.eqb x0.1.1 (I.of .i64 2)),())),(x0.2.1,()))) (j1 ((x0.1.1,((I.eqb x0.1.1 (I.of .i64 11)),())),(x0.2.1,()))))) fun j0 => brn (I.eqb b (I.of .i64 1)) (j0 ((b,((I.eqb b (I.of .i64 1)),())),(a,()))) (brn (I.eqb b (I.of .i64 5)) (j0 ((b,((I.eqb b (I.of .i64 5)),())),(a,()))) (j0 ((b,((I.eqb b (I.of .i64 9)),())),(a,()))))
def a4J (x : (⟨[.pl tY8], []⟩ : Tm).D) : Option (⟨[.pl (.int .i64)], []⟩ : Tm).D :=
 let a : (I .u64) × (I .u64) × (I .u64) × ((I .u64) × (I .u64) × (I .u64) × (I .u64) × Unit) × (I .u64) × ((I .u64) × (I .u64) × (I .u64) × (I .u64) × Unit) × (I .u64) × ((I .u64) × (I .u64) × (I .u64) × (I .u64) × Unit) × (I .u64) × (I .u64) × (I .u64) × (I .u64) × Unit := x.1.1
 iter none (fun x0 => brn (I.leb x0.1.1 (I.of .i64 12)) (optF (.done none) (b5X ((x0.2.1,(x0.1.1,())),())) fun y1 => optF (.done none) (b1O ((x0.2.1,(x0.1.1,())),())) fun y2 => optF (.done none) (a0M ((y2.1.1,()),())) fun y3 => optF (.done none) (a4N ((y1.1.1,(y3.1.1,())),())) fun y4 => brn (I.ltb y4.1.1 (I.of .i64 0)) (.done (some ((x0.1.1,()),()))) (optF (.done none) (a0M ((y2.1.2.1,()),())) fun y5 => optF (.done none) (a4N ((y1.1.1,(y5.1.1,())),())) fun y6 => brn (I.ltb (I.of .i64 0) y6.1.1) (.done (some ((x0.1.1,()),()))) (.again (((I.add x0.1.1 (I.of .i64 1)),()),(x0.2.1,()))))) (.done (some ((I.of .i64 0,()),())))) K0 ((I.of .i64 1,()),(a,()))
def a7I (x : (⟨[.pl tY8], []⟩ : Tm).D) : Option (⟨[.pl .bool], []⟩ : Tm).D :=
 let a : (I .u64) × (I .u64) × (I .u64) × ((I .u64) × (I .u64) × (I .u64) × (I .u64) × Unit) × (I .u64) × ((I .u64) × (I .u64) × (I .u64) × (I .u64) × Unit) × (I .u64) × ((I .u64) × (I .u64) × (I .u64) × (I .u64) × Unit) × (I .u64) × (I .u64) × (I .u64) × (I .u64) × Unit := x.1.1
 optF none (a4J ((a,()),())) fun y0 => some (((I.eqb y0.1.1 (I.of .i64 0)),()),())
def a8M (x : (⟨[.pl tY6, .pl tY6, .pl (.int .u64), .pl tY8], []⟩ : Tm).D) : Option (⟨[.pl tY6, .pl (.int .i64)], []⟩ : Tm).D :=
 let a : (Bool) × ((I .u64) × (I .u64) × (I .u64) × (I .u64) × Unit) × Unit := x.1.1
 let b : (Bool) × ((I .u64) × (I .u64) × (I .u64) × (I .u64) × Unit) × Unit := x.1.2.1
 let c : I .u64 := x.1.2.2.1
 let d : (I .u64) × (I .u64) × (I .u64) × ((I .u64) × (I .u64) × (I .u64) × (I .u64) × Unit) × (I .u64) × ((I .u64) × (I .u64) × (I .u64) × (I .u64) × Unit) × (I .u64) × ((I .u64) × (I .u64) × (I .u64) × (I .u64) × Unit) × (I .u64) × (I .u64) × (I .u64) × (I .u64) × Unit := x.1.2.2.2.1
 jn (fun (x0 : (((I .u64) × Unit) × ((Bool × (((I .u64) × ((I .u64) × ((I .u64) × ((I .u64) × Unit)))) × Unit)) × ((Bool × (((I .u64) × ((I .u64) × ((I .u64) × ((I .u64) × Unit)))) × Unit)) × (((I .u64) × ((I .u64) × ((I .u64) × (((I .u64) × ((I .u64) × ((I .u64) × ((I .u64) × Unit)))) × ((I .u64) × (((I .u64) × ((I .u64) × ((I .u64) × ((I .u64) × Unit)))) × ((I .u64) × (((I .u64) × ((I .u64) × ((I .u64) × ((I .u64) × Unit)))) × ((I .u64) × ((I .u64) × ((I .u64) × ((I .u64) × Unit)))))))))))) × ((Bool × (((I .u64) × ((I .u64) × ((I .u64) × ((I .u64) × Unit)))) × Unit)) × Unit)))))) => optF none (b0X ((x0.2.1,()),())) fun y1 => optF none (a0M ((x0.2.2.2.1.2.2.2.2.2.2.2.2.1,()),())) fun y2 => optF none (a3P ((y1.1.1,(y2.1.1,())),())) fun y3 => optF none (a8W ((x0.2.1,(x0.2.2.1,())),())) fun y4 => brn (I.neb y4.1.2.1 (I.of .i64 0)) (some (((false,((I.of .u64 0,(I.of .u64 0,(I.of .u64 0,(I.of .u64 0,())))),())),(y4.1.2.1,())),())) (optF none (a0M ((x0.1.1,()),())) fun y5 => optF none (a3P ((y4.1.1,(y5.1.1,())),())) fun y6 => optF none (a8W ((y3.1.1,(y6.1.1,())),())) fun y7 => brn (I.neb y7.1.2.1 (I.of .i64 0)) (some (((false,((I.of .u64 0,(I.of .u64 0,(I.of .u64 0,(I.of .u64 0,())))),())),(y7.1.2.1,())),())) (optF none (a0M ((x0.1.1,()),())) fun y8 => optF none (a9S ((y7.1.1,((false,(y8.1.1,())),())),())) fun y9 => brn (I.neb y9.1.2.1 (I.of .i64 0)) (some (((false,((I.of .u64 0,(I.of .u64 0,(I.of .u64 0,(I.of .u64 0,())))),())),(y9.1.2.1,())),())) (brn (I.nz x0.2.2.2.1.2.2.2.2.2.2.2.2.2.1) (optF none (a0M (((I.quo x0.2.2.2.1.2.2.2.2.2.2.2.2.1 x0.2.2.2.1.2.2.2.2.2.2.2.2.2.1),()),())) fun y10 => optF none (a0M ((x0.1.1,()),())) fun y11 => optF none (a4O ((y10.1.1,(y11.1.1,())),())) fun y12 => optF none (a3P ((y9.1.1,(y12.1.1,())),())) fun y13 => some ((y13.1.1,(y13.1.2.1,())),())) none)))) fun j0 => optF none (a7I ((d,()),())) fun y1 => brn (a2R y1.1.1) (some (((false,((I.of .u64 0,(I.of .u64 0,(I.of .u64 0,(I.of .u64 0,())))),())),(I.of .i64 15,())),())) (optF none (a1Y ((a,()),())) fun y2 => brn (a2R y2.1.1) (some (((false,((I.of .u64 0,(I.of .u64 0,(I.of .u64 0,(I.of .u64 0,())))),())),(I.of .i64 2,())),())) (optF none (a1Y ((b,()),())) fun y3 => brn (a2R y3.1.1) (some (((false,((I.of .u64 0,(I.of .u64 0,(I.of .u64 0,(I.of .u64 0,())))),())),(I.of .i64 2,())),())) (brn (I.eqb c (I.of .u64 0)) (some (((false,((I.of .u64 0,(I.of .u64 0,(I.of .u64 0,(I.of .u64 0,())))),())),(I.of .i64 2,())),())) (j0 ((c,()),(a,(b,(d,((false,((I.of .u64 0,(I.of .u64 0,(I.of .u64 0,(I.of .u64 0,())))),())),())))))))))
def a2T (x : (⟨[.pl (.int .u64), .pl (.int .u64), .pl (.int .u64)], []⟩ : Tm).D) : Option (⟨[.pl .bool], []⟩ : Tm).D :=
 let a : I .u64 := x.1.1
 let b : I .u64 := x.1.2.1
 let c : I .u64 := x.1.2.2.1
 brn (I.leb b a) (some (((I.leb a c),()),())) (some ((false,()),()))
def a7D (x : (⟨[.pl (.arr 4 (.int .u64))], []⟩ : Tm).D) : Option (⟨[.pl (.int .u64), .pl .bool], []⟩ : Tm).D :=
 let a : (I .u64) × (I .u64) × (I .u64) × (I .u64) × Unit := x.1.1
 brn (I.neb a.2.1 (I.of .u64 0)) (some ((I.of .u64 0,(false,())),())) (brn (I.neb a.2.2.1 (I.of .u64 0)) (some ((I.of .u64 0,(false,())),())) (brn (I.neb a.2.2.2.1 (I.of .u64 0)) (some ((I.of .u64 0,(false,())),())) (some ((a.1,(true,())),()))))
def a3U (x : (⟨[.pl (.arr 4 (.int .u64)), .pl (.int .u64)], []⟩ : Tm).D) : Option (⟨[.pl .bool], []⟩ : Tm).D :=
 let a : (I .u64) × (I .u64) × (I .u64) × (I .u64) × Unit := x.1.1
 let b : I .u64 := x.1.2.1
 optF none (a7D ((a,()),())) fun y0 => brn y0.1.2.1 (some (((I.leb b y0.1.1),()),())) (some ((false,()),()))
def a4D (x : (⟨[.pl tY8], []⟩ : Tm).D) : Option (⟨[.pl (.int .i64)], []⟩ : Tm).D :=
 let a : (I .u64) × (I .u64) × (I .u64) × ((I .u64) × (I .u64) × (I .u64) × (I .u64) × Unit) × (I .u64) × ((I .u64) × (I .u64) × (I .u64) × (I .u64) × Unit) × (I .u64) × ((I .u64) × (I .u64) × (I .u64) × (I .u64) × Unit) × (I .u64) × (I .u64) × (I .u64) × (I .u64) × Unit := x.1.1
 optF none (a2T ((a.1,(I.of .u64 1,(I.of .u64 1099511627776,()))),())) fun y0 => optF none (a2T ((a.2.1,(I.of .u64 0,(I.of .u64 1048576,()))),())) fun y1 => optF none (a2T ((a.2.2.1,(I.of .u64 1,(I.of .u64 1048576,()))),())) fun y2 => optF none (a3U ((a.2.2.2.1,(I.of .u64 1,())),())) fun y3 => optF none (a2T ((a.2.2.2.2.1,(I.of .u64 1,(I.of .u64 1099511627776,()))),())) fun y4 => optF none (a3U ((a.2.2.2.2.2.1,(I.of .u64 0,())),())) fun y5 => optF none (a2T ((a.2.2.2.2.2.2.1,(I.of .u64 0,(I.of .u64 10000,()))),())) fun y6 => optF none (a3U ((a.2.2.2.2.2.2.2.1,(I.of .u64 0,())),())) fun y7 => optF none (a2T ((a.2.2.2.2.2.2.2.2.1,(I.of .u64 1,(I.of .u64 1099511627776,()))),())) fun y8 => optF none (a2T ((a.2.2.2.2.2.2.2.2.2.1,(I.of .u64 1,(I.of .u64 1048576,()))),())) fun y9 => optF none (a2T ((a.2.2.2.2.2.2.2.2.2.2.1,(I.of .u64 0,(I.of .u64 1048576,()))),())) fun y10 => optF none (a2T ((a.2.2.2.2.2.2.2.2.2.2.2.1,(a.2.2.2.2.2.2.2.2.2.2.1,(I.of .u64 16777216,()))),())) fun y11 => brn (a2R y0.1.1) (some ((I.of .i64 1,()),())) (brn (a2R y1.1.1) (some ((I.of .i64 2,()),())) (brn (a2R y2.1.1) (some ((I.of .i64 3,()),())) (brn (a2R y3.1.1) (some ((I.of .i64 4,()),())) (brn (a2R y4.1.1) (some ((I.of .i64 5,()),())) (brn (a2R y5.1.1) (some ((I.of .i64 6,()),())) (brn (a2R y6.1.1) (some ((I.of .i64 7,()),())) (brn (a2R y7.1.1) (some ((I.of .i64 8,()),())) (brn (a2R y8.1.1) (some ((I.of .i64 9,()),())) (brn (a2R y9.1.1) (some ((I.of .i64 10,()),())) (brn (a2R y10.1.1) (some ((I.of .i64 11,()),())) (brn (a2R y11.1.1) (some ((I.of .i64 12,()),())) (some ((I.of .i64 0,()),())))))))))))))
def a4U (x : (⟨[.pl tY8], []⟩ : Tm).D) : Option (⟨[.pl .bool], []⟩ : Tm).D :=
 let a : (I .u64) × (I .u64) × (I .u64) × ((I .u64) × (I .u64) × (I .u64) × (I .u64) × Unit) × (I .u64) × ((I .u64) × (I .u64) × (I .u64) × (I .u64) × Unit) × (I .u64) × ((I .u64) × (I .u64) × (I .u64) × (I .u64) × Unit) × (I .u64) × (I .u64) × (I .u64) × (I .u64) × Unit := x.1.1
 optF none (a4D ((a,()),())) fun y0 => some (((I.eqb y0.1.1 (I.of .i64 0)),()),())
def a7M (x : (⟨[.pl tY6, .pl tY6, .pl (.int .u64), .pl tY8], []⟩ : Tm).D) : Option (⟨[.pl tY6, .pl (.int .i64)], []⟩ : Tm).D :=
 let a : (Bool) × ((I .u64) × (I .u64) × (I .u64) × (I .u64) × Unit) × Unit := x.1.1
 let b : (Bool) × ((I .u64) × (I .u64) × (I .u64) × (I .u64) × Unit) × Unit := x.1.2.1
 let c : I .u64 := x.1.2.2.1
 let d : (I .u64) × (I .u64) × (I .u64) × ((I .u64) × (I .u64) × (I .u64) × (I .u64) × Unit) × (I .u64) × ((I .u64) × (I .u64) × (I .u64) × (I .u64) × Unit) × (I .u64) × ((I .u64) × (I .u64) × (I .u64) × (I .u64) × Unit) × (I .u64) × (I .u64) × (I .u64) × (I .u64) × Unit := x.1.2.2.2.1
 optF none (a4U ((d,()),())) fun y0 => brn (a2R y0.1.1) (some (((false,((I.of .u64 0,(I.of .u64 0,(I.of .u64 0,(I.of .u64 0,())))),())),(I.of .i64 15,())),())) (jn (fun (x1 : (((I .u64) × Unit) × ((Bool × (((I .u64) × ((I .u64) × ((I .u64) × ((I .u64) × Unit)))) × Unit)) × ((Bool × (((I .u64) × ((I .u64) × ((I .u64) × ((I .u64) × Unit)))) × Unit)) × (((I .u64) × ((I .u64) × ((I .u64) × (((I .u64) × ((I .u64) × ((I .u64) × ((I .u64) × Unit)))) × ((I .u64) × (((I .u64) × ((I .u64) × ((I .u64) × ((I .u64) × Unit)))) × ((I .u64) × (((I .u64) × ((I .u64) × ((I .u64) × ((I .u64) × Unit)))) × ((I .u64) × ((I .u64) × ((I .u64) × ((I .u64) × Unit)))))))))))) × ((Bool × (((I .u64) × ((I .u64) × ((I .u64) × ((I .u64) × Unit)))) × Unit)) × Unit)))))) => optF none (a2O ((x1.2.1,()),())) fun y2 => optF none (a3X ((y2.1.1,()),())) fun y3 => optF none (a1J ((x1.2.2.2.1.2.2.2.2.2.2.2.2.1,()),())) fun y4 => optF none (a3G ((y3.1.1,(y4.1.1,())),())) fun y5 => optF none (a2O ((x1.2.1,()),())) fun y6 => optF none (a2O ((x1.2.2.1,()),())) fun y7 => optF none (a3X ((y7.1.1,()),())) fun y8 => optF none (a5A ((y6.1.1,(y8.1.1,())),())) fun y9 => optF none (a1J ((x1.1.1,()),())) fun y10 => optF none (a3G ((y9.1.1,(y10.1.1,())),())) fun y11 => optF none (a3X ((y11.1.1,()),())) fun y12 => optF none (a5A ((y5.1.1,(y12.1.1,())),())) fun y13 => optF none (a1J ((x1.1.1,()),())) fun y14 => optF none (a7V ((y13.1.1,((false,(y14.1.1,())),())),())) fun y15 => jn (fun (x16 : (((I .u64) × Unit) × (((I .u64) × ((I .u64) × ((I .u64) × (((I .u64) × ((I .u64) × ((I .u64) × ((I .u64) × Unit)))) × ((I .u64) × (((I .u64) × ((I .u64) × ((I .u64) × ((I .u64) × Unit)))) × ((I .u64) × (((I .u64) × ((I .u64) × ((I .u64) × ((I .u64) × Unit)))) × ((I .u64) × ((I .u64) × ((I .u64) × ((I .u64) × Unit)))))))))))) × ((Bool × (((I .u64) × ((I .u64) × ((I .u64) × ((I .u64) × Unit)))) × Unit)) × ((Bool × ((List (I .i64)) × Unit)) × Unit))))) => optF none (a1J ((x16.2.1.2.2.2.2.2.2.2.2.1,()),())) fun y17 => optF none (a1J ((x16.2.1.2.2.2.2.2.2.2.2.2.1,()),())) fun y18 => optF none (a4S ((y17.1.1,(y18.1.1,())),())) fun y19 => optF none (a1J ((x16.1.1,()),())) fun y20 => optF none (a2G ((y19.1.1,(y20.1.1,())),())) fun y21 => optF none (a3G ((x16.2.2.2.1,(y21.1.1,())),())) fun y22 => optF none (a5M ((y22.1.1,()),())) fun y23 => some ((y23.1.1,(y23.1.2.1,())),())) fun j16 => optF none (a2W ((y9.1.1.2.1,()),())) fun y17 => brn (a2R y17.1.1) (some (((false,((I.of .u64 0,(I.of .u64 0,(I.of .u64 0,(I.of .u64 0,())))),())),(I.of .i64 4,())),())) (optF none (a2W ((y13.1.1.2.1,()),())) fun y18 => brn (a2R y18.1.1) (some (((false,((I.of .u64 0,(I.of .u64 0,(I.of .u64 0,(I.of .u64 0,())))),())),(I.of .i64 4,())),())) (optF none (a2W ((y15.1.1.2.1,()),())) fun y19 => brn (a2R y19.1.1) (some (((false,((I.of .u64 0,(I.of .u64 0,(I.of .u64 0,(I.of .u64 0,())))),())),(I.of .i64 4,())),())) (j16 ((x1.1.1,()),(x1.2.2.2.1,(x1.2.2.2.2.1,(y15.1.1,())))))))) fun j1 => optF none (a3E ((a,()),())) fun y2 => brn (a2R y2.1.1) (some (((false,((I.of .u64 0,(I.of .u64 0,(I.of .u64 0,(I.of .u64 0,())))),())),(I.of .i64 2,())),())) (optF none (a3E ((b,()),())) fun y3 => brn (a2R y3.1.1) (some (((false,((I.of .u64 0,(I.of .u64 0,(I.of .u64 0,(I.of .u64 0,())))),())),(I.of .i64 2,())),())) (brn (I.eqb c (I.of .u64 0)) (some (((false,((I.of .u64 0,(I.of .u64 0,(I.of .u64 0,(I.of .u64 0,())))),())),(I.of .i64 2,())),())) (j1 ((c,()),(a,(b,(d,((false,((I.of .u64 0,(I.of .u64 0,(I.of .u64 0,(I.of .u64 0,())))),())),())))))))))
def a9B (x : (⟨[.pl (.arr 4 (.int .u64)), .pl tY6, .pl tY6, .pl (.int .u64), .pl tY8], []⟩ : Tm).D) : Option (⟨[.pl (.arr 4 (.int .u64)), .pl (.int .i64)], []⟩ : Tm).D :=
 let a : (I .u64) × (I .u64) × (I .u64) × (I .u64) × Unit := x.1.1
 let b : (Bool) × ((I .u64) × (I .u64) × (I .u64) × (I .u64) × Unit) × Unit := x.1.2.1
 let c : (Bool) × ((I .u64) × (I .u64) × (I .u64) × (I .u64) × Unit) × Unit := x.1.2.2.1
 let d : I .u64 := x.1.2.2.2.1
 let e : (I .u64) × (I .u64) × (I .u64) × ((I .u64) × (I .u64) × (I .u64) × (I .u64) × Unit) × (I .u64) × ((I .u64) × (I .u64) × (I .u64) × (I .u64) × Unit) × (I .u64) × ((I .u64) × (I .u64) × (I .u64) × (I .u64) × Unit) × (I .u64) × (I .u64) × (I .u64) × (I .u64) × Unit := x.1.2.2.2.2.1
 jn (fun (x0 : (((I .u64) × Unit) × (((I .u64) × ((I .u64) × ((I .u64) × ((I .u64) × Unit)))) × ((Bool × (((I .u64) × ((I .u64) × ((I .u64) × ((I .u64) × Unit)))) × Unit)) × ((Bool × (((I .u64) × ((I .u64) × ((I .u64) × ((I .u64) × Unit)))) × Unit)) × (((I .u64) × ((I .u64) × ((I .u64) × (((I .u64) × ((I .u64) × ((I .u64) × ((I .u64) × Unit)))) × ((I .u64) × (((I .u64) × ((I .u64) × ((I .u64) × ((I .u64) × Unit)))) × ((I .u64) × (((I .u64) × ((I .u64) × ((I .u64) × ((I .u64) × Unit)))) × ((I .u64) × ((I .u64) × ((I .u64) × ((I .u64) × Unit)))))))))))) × (((I .u64) × ((I .u64) × ((I .u64) × ((I .u64) × Unit)))) × Unit))))))) => optF none (a8M ((x0.2.2.1,(x0.2.2.2.1,(x0.1.1,(x0.2.2.2.2.1,())))),())) fun y1 => brn (I.neb y1.1.2.1 (I.of .i64 0)) (some (((I.of .u64 0,(I.of .u64 0,(I.of .u64 0,(I.of .u64 0,())))),(y1.1.2.1,())),())) (optF none (a6N ((x0.2.1,(y1.1.1,())),())) fun y2 => some ((y2.1.1,(y2.1.2.1,())),()))) fun j0 => optF none (a7I ((e,()),())) fun y1 => brn (a2R y1.1.1) (some (((I.of .u64 0,(I.of .u64 0,(I.of .u64 0,(I.of .u64 0,())))),(I.of .i64 15,())),())) (jn (fun (x2 : (((I .u64) × (Bool × Unit)) × (((I .u64) × ((I .u64) × ((I .u64) × ((I .u64) × Unit)))) × ((Bool × (((I .u64) × ((I .u64) × ((I .u64) × ((I .u64) × Unit)))) × Unit)) × ((Bool × (((I .u64) × ((I .u64) × ((I .u64) × ((I .u64) × Unit)))) × Unit)) × (((I .u64) × ((I .u64) × ((I .u64) × (((I .u64) × ((I .u64) × ((I .u64) × ((I .u64) × Unit)))) × ((I .u64) × (((I .u64) × ((I .u64) × ((I .u64) × ((I .u64) × Unit)))) × ((I .u64) × (((I .u64) × ((I .u64) × ((I .u64) × ((I .u64) × Unit)))) × ((I .u64) × ((I .u64) × ((I .u64) × ((I .u64) × Unit)))))))))))) × (((I .u64) × ((I .u64) × ((I .u64) × ((I .u64) × Unit)))) × Unit))))))) => brn x2.1.2.1 (some (((I.of .u64 0,(I.of .u64 0,(I.of .u64 0,(I.of .u64 0,())))),(I.of .i64 2,())),())) (brn (I.eqb x2.1.1 (I.of .u64 0)) (some ((x2.2.1,(I.of .i64 0,())),())) (j0 ((x2.1.1,()),(x2.2.1,(x2.2.2.1,(x2.2.2.2.1,(x2.2.2.2.2.1,(x2.2.2.2.2.2.1,()))))))))) fun j2 => optF none (a1Y ((b,()),())) fun y3 => brn (a2R y3.1.1) (j2 ((d,(true,())),(a,(b,(c,(e,((I.of .u64 0,(I.of .u64 0,(I.of .u64 0,(I.of .u64 0,())))),()))))))) (optF none (a1Y ((c,()),())) fun y4 => j2 ((d,((a2R y4.1.1),())),(a,(b,(c,(e,((I.of .u64 0,(I.of .u64 0,(I.of .u64 0,(I.of .u64 0,())))),()))))))))
def a8C (x : (⟨[.pl (.arr 4 (.int .u64)), .pl tY6, .pl tY6, .pl (.int .u64), .pl tY8], []⟩ : Tm).D) : Option (⟨[.pl (.arr 4 (.int .u64)), .pl (.int .i64)], []⟩ : Tm).D :=
 let a : (I .u64) × (I .u64) × (I .u64) × (I .u64) × Unit := x.1.1
 let b : (Bool) × ((I .u64) × (I .u64) × (I .u64) × (I .u64) × Unit) × Unit := x.1.2.1
 let c : (Bool) × ((I .u64) × (I .u64) × (I .u64) × (I .u64) × Unit) × Unit := x.1.2.2.1
 let d : I .u64 := x.1.2.2.2.1
 let e : (I .u64) × (I .u64) × (I .u64) × ((I .u64) × (I .u64) × (I .u64) × (I .u64) × Unit) × (I .u64) × ((I .u64) × (I .u64) × (I .u64) × (I .u64) × Unit) × (I .u64) × ((I .u64) × (I .u64) × (I .u64) × (I .u64) × Unit) × (I .u64) × (I .u64) × (I .u64) × (I .u64) × Unit := x.1.2.2.2.2.1
 optF none (a4U ((e,()),())) fun y0 => brn (a2R y0.1.1) (some (((I.of .u64 0,(I.of .u64 0,(I.of .u64 0,(I.of .u64 0,())))),(I.of .i64 15,())),())) (jn (fun (x1 : (((I .u64) × Unit) × (((I .u64) × ((I .u64) × ((I .u64) × ((I .u64) × Unit)))) × ((Bool × (((I .u64) × ((I .u64) × ((I .u64) × ((I .u64) × Unit)))) × Unit)) × ((Bool × (((I .u64) × ((I .u64) × ((I .u64) × ((I .u64) × Unit)))) × Unit)) × (((I .u64) × ((I .u64) × ((I .u64) × (((I .u64) × ((I .u64) × ((I .u64) × ((I .u64) × Unit)))) × ((I .u64) × (((I .u64) × ((I .u64) × ((I .u64) × ((I .u64) × Unit)))) × ((I .u64) × (((I .u64) × ((I .u64) × ((I .u64) × ((I .u64) × Unit)))) × ((I .u64) × ((I .u64) × ((I .u64) × ((I .u64) × Unit)))))))))))) × (((I .u64) × ((I .u64) × ((I .u64) × ((I .u64) × Unit)))) × Unit))))))) => brn (I.eqb x1.1.1 (I.of .u64 0)) (some ((x1.2.1,(I.of .i64 0,())),())) (optF none (a7M ((x1.2.2.1,(x1.2.2.2.1,(x1.1.1,(x1.2.2.2.2.1,())))),())) fun y2 => brn (I.neb y2.1.2.1 (I.of .i64 0)) (some (((I.of .u64 0,(I.of .u64 0,(I.of .u64 0,(I.of .u64 0,())))),(y2.1.2.1,())),())) (optF none (a5H ((x1.2.1,(y2.1.1,())),())) fun y3 => some ((y3.1.1,(y3.1.2.1,())),())))) fun j1 => optF none (a3E ((b,()),())) fun y2 => brn (a2R y2.1.1) (some (((I.of .u64 0,(I.of .u64 0,(I.of .u64 0,(I.of .u64 0,())))),(I.of .i64 2,())),())) (optF none (a3E ((c,()),())) fun y3 => brn (a2R y3.1.1) (some (((I.of .u64 0,(I.of .u64 0,(I.of .u64 0,(I.of .u64 0,())))),(I.of .i64 2,())),())) (j1 ((d,()),(a,(b,(c,(e,((I.of .u64 0,(I.of .u64 0,(I.of .u64 0,(I.of .u64 0,())))),())))))))))
def a8E (x : (⟨[.pl (.arr 4 (.int .u64)), .pl (.arr 4 (.int .u64))], []⟩ : Tm).D) : Option (⟨[.pl tY6], []⟩ : Tm).D :=
 let a : (I .u64) × (I .u64) × (I .u64) × (I .u64) × Unit := x.1.1
 let b : (I .u64) × (I .u64) × (I .u64) × (I .u64) × Unit := x.1.2.1
 optF none (b0V ((a,(b,())),())) fun y0 => some ((y0.1.1,()),())
end
end Sym

/- The given functions as plain functions, as the printer told them. -/
namespace Sym
open Go
noncomputable def b0Y (x : (⟨[.pl (.arr 4 (.int .u64)), .pl (.arr 4 (.int .u64))], []⟩ : Tm).D) : Option (⟨[.pl (.arr 4 (.int .u64)), .pl (.arr 4 (.int .u64))], []⟩ : Tm).D :=
 let a : (I .u64) × (I .u64) × (I .u64) × (I .u64) × Unit := x.1.1
 let b : (I .u64) × (I .u64) × (I .u64) × (I .u64) × Unit := x.1.2.1
 iter none (fun x0 => brn (I.ltb x0.1.1 (I.of .i64 4)) (iter (.done none) (fun x1 => brn (I.ltb x1.1.2.2.2.1 (I.of .i64 4)) (brn (inB x1.1.1 4) (brn (inB x1.1.2.2.2.1 4) (optF (.done (.done none)) (a6O (((@Arr.sel (I .u64) (I.of .u64 0) 4 x1.2.1 (I.nat x1.1.1)),((@Arr.sel (I .u64) (I.of .u64 0) 4 x1.2.2.1 (I.nat x1.1.2.2.2.1)),())),())) fun y2 => optF (.done (.done none)) (b1D ((y2.1.2.1,(x1.1.2.1,(I.of .u64 0,()))),())) fun y3 => brn (inB (I.add x1.1.1 x1.1.2.2.2.1) 8) (optF (.done (.done none)) (b1D (((@Arr.sel (I .u64) (I.of .u64 0) 8 x1.2.2.2.2.2.1 (I.nat (I.add x1.1.1 x1.1.2.2.2.1))),(y3.1.1,(I.of .u64 0,()))),())) fun y4 => brn (inB (I.add x1.1.1 x1.1.2.2.2.1) 8) (.again ((x1.1.1,((I.add (I.add y2.1.1 y3.1.2.1) y4.1.2.1),(x1.1.2.2.1,((I.add x1.1.2.2.2.1 (I.of .i64 1)),())))),(x1.2.1,(x1.2.2.1,(x1.2.2.2.1,(x1.2.2.2.2.1,((@Arr.upd (I .u64) 8 x1.2.2.2.2.2.1 (I.nat (I.add x1.1.1 x1.1.2.2.2.1)) y4.1.1),()))))))) (.done (.done none))) (.done (.done none))) (.done (.done none))) (.done (.done none))) (.done (brn (inB (I.add x1.1.1 (I.of .i64 4)) 8) (.again (((I.add x1.1.2.2.1 (I.of .i64 1)),()),(x1.2.1,(x1.2.2.1,(x1.2.2.2.1,(x1.2.2.2.2.1,((@Arr.upd (I .u64) 8 x1.2.2.2.2.2.1 (I.nat (I.add x1.1.1 (I.of .i64 4))) x1.1.2.1),()))))))) (.done none)))) K0 ((x0.1.1,(I.of .u64 0,(x0.1.1,(I.of .i64 0,())))),(x0.2.1,(x0.2.2.1,(x0.2.2.2.1,(x0.2.2.2.2.1,(x0.2.2.2.2.2.1,()))))))) (.done (some (((@Arr.ofList (I .u64) (I.of .u64 0) 4 (@a6E (I .u64) (@Arr.list (I .u64) 8 x0.2.2.2.2.2.1) 0 4)),((@Arr.ofList (I .u64) (I.of .u64 0) 4 (@a6E (I .u64) (@Arr.list (I .u64) 8 x0.2.2.2.2.2.1) 4 4)),())),())))) K0 ((I.of .i64 0,()),(a,(b,((I.of .u64 0,(I.of .u64 0,(I.of .u64 0,(I.of .u64 0,())))),((I.of .u64 0,(I.of .u64 0,(I.of .u64 0,(I.of .u64 0,())))),((I.of .u64 0,(I.of .u64 0,(I.of .u64 0,(I.of .u64 0,(I.of .u64 0,(I.of .u64 0,(I.of .u64 0,(I.of .u64 0,())))))))),()))))))
noncomputable def a4A (x : (⟨[.pl (.arr 4 (.int .u64)), .pl (.arr 4 (.int .u64)), .pl (.arr 4 (.int .u64))], []⟩ : Tm).D) : Option (⟨[.pl (.arr 4 (.int .u64)), .pl (.int .i64)], []⟩ : Tm).D :=
 let a : (I .u64) × (I .u64) × (I .u64) × (I .u64) × Unit := x.1.1
 let b : (I .u64) × (I .u64) × (I .u64) × (I .u64) × Unit := x.1.2.1
 let c : (I .u64) × (I .u64) × (I .u64) × (I .u64) × Unit := x.1.2.2.1
 optF none (b0Y ((a,(b,())),())) fun y0 => optF none (a5N ((y0.1.1,(y0.1.2.1,(c,()))),())) fun y1 => some ((y1.1.1,(y1.1.2.2.1,())),())
end Sym
