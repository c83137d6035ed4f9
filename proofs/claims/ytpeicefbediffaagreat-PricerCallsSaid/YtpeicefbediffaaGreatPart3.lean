/- Every operation that the evaluator answers is answered by the machine. -/
import Derived.Laws.Sem
import Derived.Test.YtpeicefbediffaaGreatPart2
import Derived.Test.YtpeicefbediffaaGreatPart1
namespace Sym
open Go
structure EnvOk (E : Env) : Prop where
 ty : ∀ id t, E.ty id = some t → TI E.P id t
 eqT : ∀ id t, E.eqT id = some t → EqI E.P id t
 con : ∀ f C, E.how f = some (.con C) → a1G E.P f C
 fresh : ∀ f C, E.how f = some (.fresh C) → ConFresh E.P f C
 mixed : E.P.follows .mixedOrders = true
 meth : ∀ t name f d, E.meth t name = some (f, d) → c1R E.P t name f d
def OpOk (E : Env) (o : Oper) (args : List PV) (rd : List Nat) (H : List Blk) (nb : Nat) (pv : PV) (δ : List (Nat × Blk)) : Prop :=
 ∀ (base : World) (G0 own0 : Nat → Prop) (a : Act) (c : Cx), Mem base G0 own0 c → Ag H c.H rd → All2 (VOk c) args (o.op.operands.toList.map a.eval) →
  (∀ p ∈ δ, nb ≤ p.1 → a0H c.H p.1 = .unborn) → (∀ p ∈ δ, p.1 < nb → a0H c.H p.1 = a0H H p.1) → a3R E.P base G0 own0 o a c pv δ
section
variable {E : Env} {R : Type} {T : R → Prop} {fail : R} {o : Oper} {args : List PV} {H : List Blk} {nb : Nat} {K : PV → List (Nat × Blk) → R}
abbrev d7I (E : Env) (T : R → Prop) (o : Oper) (args : List PV) (rd : List Nat) (H : List Blk) (nb : Nat) (K : PV → List (Nat × Blk) → R) : Prop := ∃ pv δ, T (K pv δ) ∧ OpOk E o args rd H nb pv δ
abbrev Goal (E : Env) (T : R → Prop) (o : Oper) (args : List PV) (H : List Blk) (nb : Nat) (K : PV → List (Nat × Blk) → R) : Prop := d7I E T o args (a8K args) H nb K
theorem b2E (hf : ¬ T fail) {b : Bool} {r : R} (h : T (obl fail b r)) : b = true ∧ T r := by
 cases b
 ·
  exact absurd h hf
 ·
  exact ⟨rfl, h⟩
theorem f9S (hf : ¬ T fail) {x : Operand} (ho : o.op = .move x) (h : T (evOp E fail o args H nb K)) : d7I E T o args [] H nb K := by
 simp only [evOp, ho] at h
 split at h
 ·
  refine ⟨_, _, h, fun base G0 own0 a c hM hag ha hn _ => c6U hM (.inl ho) ?_⟩
  rw [ho] at ha; exact ha.1
 ·
  exact absurd h hf
theorem e3N (hf : ¬ T fail) {x : Operand} (ho : o.op = .assign x) (h : T (evOp E fail o args H nb K)) : d7I E T o args [] H nb K := by
 simp only [evOp, ho] at h
 split at h
 ·
  rename_i t h1 h2
  have hx : x = .const (.slice none 0 0) := by
   unfold isNil at h1
   split at h1
   ·
    rfl
   ·
    cases h1
  subst hx
  exact ⟨_, _, h, fun base G0 own0 a c hM hag ha hn _ => c5K hM (hn (nb, .row t []) (by simp) (Nat.le_refl _)) t ho⟩
 ·
  split at h
  ·
   refine ⟨_, _, h, fun base G0 own0 a c hM hag ha hn _ => c6U hM (.inr ho) ?_⟩
   rw [ho] at ha; exact ha.1
  ·
   exact absurd h hf
theorem f5B (hf : ¬ T fail) {x y z : Operand} (ho : o.op = .pick x y z) (h : T (evOp E fail o args H nb K)) : Goal E T o args H nb K := by
 simp only [evOp, ho] at h
 split at h
 ·
  refine ⟨_, _, h, fun base G0 own0 a c hM hag ha hn _ => ?_⟩
  rw [ho] at ha
  exact c9B hM ho ha.1 ha.2.1 ha.2.2.1
 ·
  rename_i p u v _
  cases hp : (show Bool from p) with
  | true =>
   simp only [hp, brn, cond_true] at h
   refine ⟨_, _, h, fun base G0 own0 a c hM hag ha hn _ => ?_⟩
   rw [ho] at ha
   exact d4T hM ho ha.1 (fun _ => ha.2.1) (fun h => by cases h)
  | false =>
   simp only [hp, brn, cond_false] at h
   refine ⟨_, _, h, fun base G0 own0 a c hM hag ha hn _ => ?_⟩
   rw [ho] at ha
   exact d4T hM ho ha.1 (fun h => by cases h) (fun _ => ha.2.2.1)
 ·
  exact absurd h hf
theorem f0L (hE : EnvOk E) (hf : ¬ T fail) {id : TypeId} (ho : o.op = .alloc id) (h : T (evOp E fail o args H nb K)) : Goal E T o args H nb K := by
 simp only [evOp, ho] at h
 split at h
 ·
  rename_i t ht
  split at h
  ·
   rename_i hz
   simp only [Bool.and_eq_true, Bool.not_eq_true'] at hz
   split at h
   ·
    refine ⟨_, _, h, fun base G0 own0 a c hM hag ha hn _ => e2D hM ho (hE.ty _ _ ht) hz.1 ?_ (hn _ (List.mem_singleton.2 rfl) (Nat.le_refl _))⟩
    rintro rfl; exact absurd hz.2 (by simp [Ty.isOpq])
   ·
    refine ⟨_, _, h, fun base G0 own0 a c hM hag ha hn _ => c7P hM ho (hE.ty _ _ ht) hz.1 ?_ (fun p hp => ?_) ?_⟩
    ·
     rintro rfl; exact absurd hz.2 (by simp [Ty.isOpq])
    ·
     exact hn p (List.mem_append_left _ hp) (c0C _ _ _ p hp).1
    ·
     exact hn _ (List.mem_append_right _ (List.mem_singleton.2 rfl)) (Nat.le_add_right _ _)
  ·
   exact absurd h hf
 ·
  exact absurd h hf
theorem c3Z (hE : EnvOk E) (hf : ¬ T fail) {id : TypeId} {x : Operand} (ho : o.op = .makeInterface id x) (h : T (evOp E fail o args H nb K)) : d7I E T o args [] H nb K := by
 simp only [evOp, ho] at h
 split at h
 ·
  rename_i t v ht
  split at h
  ·
   rename_i hp
   refine ⟨_, _, h, fun base G0 own0 a c hM hag ha hn _ => ?_⟩
   rw [ho] at ha
   exact c0P hM ho (hE.ty _ _ ht).ok hp ha.1
  ·
   exact absurd h hf
 ·
  exact absurd h hf
theorem d1X (hE : EnvOk E) (hf : ¬ T fail) {x : Operand} {xt id : TypeId} {ok : Bool} (ho : o.op = .typeAssert x xt id ok) (h : T (evOp E fail o args H nb K)) : Goal E T o args H nb K := by
 simp only [evOp, ho] at h
 split at h
 ·
  rename_i t u v ht
  split at h
  ·
   rename_i hb
   have hb := Nat.eq_of_beq_eq_true hb
   subst hb
   cases ok with
   | true =>
    refine ⟨_, _, h, fun base G0 own0 a c hM hag ha hn _ => ?_⟩
    rw [ho] at ha
    exact b8F hM ho (hE.ty _ _ ht).ok ha.1
   | false =>
    refine ⟨_, _, h, fun base G0 own0 a c hM hag ha hn _ => ?_⟩
    rw [ho] at ha
    exact b8F hM ho (hE.ty _ _ ht).ok ha.1
  ·
   exact absurd h hf
 ·
  exact absurd h hf
theorem d6Y (hf : ¬ T fail) {fn : Fn} {first caps : Array Operand} (ho : o.op = .makeFunc fn first caps) (h : T (evOp E fail o args H nb K)) : Goal E T o args H nb K := by
 cases fn with
 | func f =>
  simp only [evOp, ho] at h
  split at h
  ·
   rename_i hc
   simp only [Bool.and_eq_true] at hc
   refine ⟨_, _, h, fun base G0 own0 a c hM hag ha hn _ => ?_⟩
   rw [ho] at ha
   exact d1U hM ho (Nat.eq_of_beq_eq_true hc.1) hc.2 ha
  ·
   exact absurd h hf
 | _ => simp only [evOp, ho] at h; exact absurd h hf
theorem g2N (hf : ¬ T fail) {id : TypeId} {x : Operand} (ho : o.op = .box id x) (h : T (evOp E fail o args H nb K)) : Goal E T o args H nb K := by
 simp only [evOp, ho] at h
 split at h
 ·
  rename_i t v ht
  split at h
  ·
   rename_i hz
   refine ⟨_, _, h, fun base G0 own0 a c hM hag ha hn _ => ?_⟩
   rw [ho] at ha
   exact f2A hM ho ha.1 hz (hn _ (List.mem_singleton.2 rfl) (Nat.le_refl _))
  ·
   exact absurd h hf
 ·
  exact absurd h hf
theorem f1B (hE : EnvOk E) (hf : ¬ T fail) {id : TypeId} {ps : Array (Nat × Operand)} (ho : o.op = .build id ps) (h : T (evOp E fail o args H nb K)) : Goal E T o args H nb K := by
 simp only [evOp, ho] at h
 split at h
 ·
  rename_i t ht
  split at h
  ·
   rename_i hz
   simp only [Bool.and_eq_true] at hz
   split at h
   ·
    rename_i v hv
    split at h
    ·
     refine ⟨_, _, h, fun base G0 own0 a c hM hag ha hn _ => ?_⟩
     rw [ho] at ha
     exact c9W hM ho (hE.ty _ _ ht) hz.1 hz.2 (by simpa [Op.operands, List.map_map, Function.comp_def] using ha) hv
    ·
     refine ⟨_, _, h, fun base G0 own0 a c hM hag ha hn _ => ?_⟩
     rw [ho] at ha
     have hb := c9W hM ho (hE.ty _ _ ht) hz.1 hz.2 (by simpa [Op.operands, List.map_map, Function.comp_def] using ha) hv
     cases hpl : b5M v with
     | true => exact e0H t hpl (fun p hp => hn p hp (c0C t v nb p hp).1) hb
     | false =>
      have hno : (a2V t v nb) = (v, []) := by
       cases v with
       | tup a => cases t <;> rfl
       | undef => cases t <;> rfl
       | _ => cases hpl
      rw [hno]; exact hb
   ·
    exact absurd h hf
  ·
   split at h
   ·
    rename_i n u _
    split at h
    ·
     rename_i hq
     split at h
     ·
      rename_i x lent hv
      refine ⟨_, _, h, fun base G0 own0 a c hM hag ha hn _ => ?_⟩
      rw [ho] at ha
      have hv := (c6W (H := H) (H' := c.H) u _ _ (d9U _ args hag)).trans hv
      exact c9Z hM ho (hE.ty _ _ ht) hq (by simpa [Op.operands, List.map_map, Function.comp_def] using ha) hv
     ·
      exact absurd h hf
    ·
     exact absurd h hf
   ·
    exact absurd h hf
 ·
  exact absurd h hf
theorem d0B (hE : EnvOk E) (hf : ¬ T fail) {id : TypeId} {n : Nat} {ps : Array (Nat × Operand)} (ho : o.op = .buildSlice id n ps) (h : T (evOp E fail o args H nb K)) : Goal E T o args H nb K := by
 simp only [evOp, ho] at h
 split at h
 ·
  rename_i t ht
  split at h
  ·
   rename_i hz
   simp only [Bool.and_eq_true] at hz
   split at h
   ·
    rename_i l lent hv
    obtain ⟨hb, h⟩ := b2E hf h
    refine ⟨_, _, h, fun base G0 own0 a c hM hag ha hn _ => ?_⟩
    rw [ho] at ha
    rw [← c6X t _ _ (d9U _ args hag)] at hv
    exact c5U hM ho (hE.ty _ _ ht) hz.1 (Nat.le_of_ble_eq_true hz.2) (by simpa [Op.operands, List.map_map, Function.comp_def] using ha) hv hb (hn (nb, .row t l) (by simp) (Nat.le_refl _))
   ·
    exact absurd h hf
  ·
   exact absurd h hf
 ·
  exact absurd h hf
theorem f8J (hE : EnvOk E) (hf : ¬ T fail) {id : TypeId} {x : Operand} (ho : o.op = .load id x) (h : T (evOp E fail o args H nb K)) : Goal E T o args H nb K := by
 simp only [evOp, ho] at h
 split at h
 ·
  rename_i t b p ht
  split at h
  ·
   rename_i s v hb
   split at h
   ·
    rename_i hti
    split at h
    ·
     rename_i u hu
     refine ⟨_, _, h, fun base G0 own0 a c hM hag ha hn _ => ?_⟩
     rw [ho] at ha
     have hag : a0H c.H b = a0H H b := hag b (by simp [a8K, blks])
     exact d1E hM ho (hE.ty _ _ ht).ok ha.1 (hag.trans hb) hti hu
    ·
     exact absurd h hf
   ·
    exact absurd h hf
  ·
   rename_i s l hb
   split at h
   ·
    rename_i i p
    split at h
    ·
     rename_i hti
     split at h
     ·
      rename_i u hu
      refine ⟨_, _, h, fun base G0 own0 a c hM hag ha hn _ => ?_⟩
      rw [ho] at ha
      have hag : a0H c.H b = a0H H b := hag b (by simp [a8K, blks])
      exact d1L hM ho (hE.ty _ _ ht).ok ha.1 (hag.trans hb) hti hu
     ·
      exact absurd h hf
    ·
     exact absurd h hf
   ·
    exact absurd h hf
  ·
   exact absurd h hf
 ·
  rename_i t u y ht
  split at h
  ·
   rename_i hb
   have := Ty.beq_eq hb
   subst this
   refine ⟨_, _, h, fun base G0 own0 a c hM hag ha hn _ => ?_⟩
   rw [ho] at ha
   exact c7T hM ho (hE.ty _ _ ht).ok ha.1
  ·
   exact absurd h hf
 ·
  exact absurd h hf
theorem e9I (hE : EnvOk E) (hf : ¬ T fail) {id : TypeId} {x y : Operand} (ho : o.op = .store id x y) (h : T (evOp E fail o args H nb K)) : Goal E T o args H nb K := by
 simp only [evOp, ho] at h
 split at h
 ·
  rename_i t b p v ht
  split at h
  ·
   rename_i hfit
   split at h
   ·
    rename_i s u hb
    split at h
    ·
     rename_i hti
     split at h
     ·
      rename_i u' hu
      refine ⟨_, _, h, fun base G0 own0 a c hM hag ha hn _ => ?_⟩
      rw [ho] at ha
      have hag : a0H c.H b = a0H H b := hag b (by simp [a8K, blks])
      exact c7S hM ho (hE.ty _ _ ht).ok ha.1 ha.2.1 hfit (hag.trans hb) hti hu
     ·
      exact absurd h hf
    ·
     exact absurd h hf
   ·
    rename_i s l hb
    split at h
    ·
     rename_i i p
     split at h
     ·
      rename_i hti
      split at h
      ·
       rename_i yv lent hv
       split at h
       ·
        rename_i z hz hnl
        refine ⟨_, _, h, fun base G0 own0 a c hM hag ha hn _ => ?_⟩
        rw [ho] at ha
        have hag1 : a0H c.H b = a0H H b := hag b (by simp [a8K, blks])
        rw [← b2T (H' := c.H) t v (fun i hi => hag i (by simp [a8K, hi]))] at hv
        refine c8U hM ho (hE.ty _ _ ht).ok ha.1 ha.2.1 hfit (hag1.trans hb) hti hv (fun hm => ?_) hz
        rw [List.any_eq_false] at hnl
        exact hnl b hm (Nat.beq_refl b)
       ·
        exact absurd h hf
      ·
       exact absurd h hf
     ·
      exact absurd h hf
    ·
     exact absurd h hf
   ·
    exact absurd h hf
  ·
   exact absurd h hf
 ·
  exact absurd h hf
theorem d6Z (hf : ¬ T fail) {x : Operand} (ho : o.op = .nilCheck x) (h : T (evOp E fail o args H nb K)) : Goal E T o args H nb K := by
 simp only [evOp, ho] at h
 split at h
 ·
  split at h
  ·
   exact absurd h hf
  ·
   rename_i hn
   refine ⟨_, _, h, fun base G0 own0 a c hM hag ha _ _ => ?_⟩
   rw [ho] at ha
   exact d0J hM ho hn ha.1
 ·
  exact absurd h hf
theorem e0L (hE : EnvOk E) (hf : ¬ T fail) {s d : TypeId} {x : Operand} (ho : o.op = .convert s d x) (h : T (evOp E fail o args H nb K)) : Goal E T o args H nb K := by
 simp only [evOp, ho] at h
 split at h
 ·
  rename_i k0 l k i hs hd
  refine ⟨_, _, h, fun base G0 own0 a c hM hag ha _ _ => ?_⟩
  rw [ho] at ha
  exact d2N hM ho (hE.ty _ _ hs).ok (hE.ty _ _ hd).ok ha.1
 ·
  rename_i y hs hd
  refine ⟨_, _, h, fun base G0 own0 a c hM hag ha _ _ => ?_⟩
  rw [ho] at ha
  exact d1V hM ho (hE.ty _ _ hs).ok (hE.ty _ _ hd).ok ha.1
 ·
  rename_i y hs hd
  split at h
  ·
   rename_i l lent hv
   refine ⟨_, _, h, fun base G0 own0 a c hM hag ha _ _ => ?_⟩
   rw [ho] at ha
   exact c5L hM ho (hE.ty _ _ hs).ok (hE.ty _ _ hd).ok ((b2T _ _ hag.left).trans hv) ha.1
  ·
   exact absurd h hf
 ·
  exact absurd h hf
theorem e0X (hf : ¬ T fail) {x : Operand} {i : Nat} (ho : o.op = .extract x i) (h : T (evOp E fail o args H nb K)) : d7I E T o args [] H nb K := by
 simp only [evOp, ho] at h
 split at h
 ·
  split at h
  ·
   rename_i hu
   refine ⟨_, _, h, fun base G0 own0 a c hM hag ha _ _ => ?_⟩
   rw [ho] at ha
   exact d3W hM ho ha.1 hu
  ·
   exact absurd h hf
 ·
  exact absurd h hf
theorem d3F (hE : EnvOk E) (hf : ¬ T fail) {id : TypeId} {x y : Operand} (ho : o.op = .makeSlice id x y) (h : T (evOp E fail o args H nb K)) : Goal E T o args H nb K := by
 simp only [evOp, ho] at h
 split at h
 ·
  rename_i t k n l m ht
  split at h
  ·
   rename_i hq
   obtain ⟨h1, h⟩ := b2E hf h
   obtain ⟨h2, h⟩ := b2E hf h
   refine ⟨_, _, h, fun base G0 own0 a c hM hag ha hn _ => ?_⟩
   rw [ho] at ha
   exact c7N hM ho (hE.ty _ _ ht) hq h1 h2 ha.1 ha.2.1 (hn _ (List.mem_singleton.2 rfl) (Nat.le_refl _))
  ·
   exact absurd h hf
 ·
  exact absurd h hf
theorem f0Z (hE : EnvOk E) (hf : ¬ T fail) {op : BinOp} {id yt : TypeId} {x y : Operand} (ho : o.op = .binOp op id x y yt) (h : T (evOp E fail o args H nb K)) : Goal E T o args H nb K := by
 simp only [evOp, ho] at h
 split at h
 ·
  rename_i u v
  obtain ⟨pv, h1, h2⟩ := e4B (P := E.P) (fun r => T r) hf (K := fun v => K v []) h id (fun t ht => hE.eqT _ _ ht) x y
  refine ⟨pv, [], h1, fun base G0 own0 a c hM hag ha _ _ => ?_⟩
  rw [ho] at ha
  obtain ⟨r, h3, h4⟩ := h2 c.w c _ _ ha.1 ha.2.1
  refine a1A hM (v := r) ?_ h3
  simp only [execOp, ho]
  rw [Sem.run_bind, h4]
  rfl
 ·
  exact absurd h hf
theorem d2C (hE : EnvOk E) (hf : ¬ T fail) {id : TypeId} {x : Operand} {f : Nat} (ho : o.op = .fieldAddr id x f) (h : T (evOp E fail o args H nb K)) : Goal E T o args H nb K := by
 simp only [evOp, ho] at h
 split at h
 ·
  rename_i t b p ht
  split at h
  ·
   rename_i off u hoff
   split at h
   ·
    rename_i hc
    simp only [Bool.and_eq_true] at hc
    refine ⟨_, _, h, fun base G0 own0 a c hM hag ha _ _ => ?_⟩
    rw [ho] at ha
    have hag : a0H c.H b = a0H H b := hag b (by simp [a8K, blks])
    exact c9L hM ho (hE.ty _ _ ht).ok hoff (Nat.le_of_ble_eq_true hc.2) (by rw [c8T hag]; exact hc.1) ha.1
   ·
    exact absurd h hf
  ·
   exact absurd h hf
 ·
  rename_i t v y ht
  split at h
  ·
   rename_i z off u hz hoff
   split at h
   ·
    rename_i w q hs hg
    obtain ⟨e, rfl⟩ := a6K hz
    refine ⟨_, _, h, fun base G0 own0 a c hM hag ha _ _ => ?_⟩
    rw [ho] at ha
    subst e
    exact c4U hM ho (hE.ty _ _ ht).ok hoff (Nat.le_of_ble_eq_true hs) hg ha.1
   ·
    exact absurd h hf
  ·
   exact absurd h hf
 ·
  exact absurd h hf
theorem e9N (hE : EnvOk E) (hf : ¬ T fail) {id : TypeId} {x : Operand} {f : Nat} (ho : o.op = .field id x f) (h : T (evOp E fail o args H nb K)) : Goal E T o args H nb K := by
 simp only [evOp, ho] at h
 split at h
 ·
  rename_i t v ht
  split at h
  ·
   rename_i q u hfit hoff hg
   refine ⟨_, _, h, fun base G0 own0 a c hM hag ha _ _ => ?_⟩
   rw [ho] at ha
   exact d9C hM ho (hE.ty _ _ ht).ok (off := q.1) (u := q.2) hoff hfit hg ha.1
  ·
   exact absurd h hf
 ·
  exact absurd h hf
theorem d3O (hE : EnvOk E) (hf : ¬ T fail) {id : TypeId} {x y : Operand} (ho : o.op = .indexAddr id x y) (h : T (evOp E fail o args H nb K)) : Goal E T o args H nb K := by
 simp only [evOp, ho] at h
 split at h
 ·
  rename_i n u b p k i ht
  split at h
  ·
   rename_i hp
   obtain ⟨hi, h⟩ := b2E hf h
   refine ⟨_, _, h, fun base G0 own0 a c hM hag ha _ _ => ?_⟩
   rw [ho] at ha
   have hag : a0H c.H b = a0H H b := hag b (by simp [a8K, blks])
   exact c1M hM ho (hE.ty _ _ ht).ok hi (by rw [c8T hag]; exact hp) ha.1 ha.2.1
  ·
   exact absurd h hf
 ·
  rename_i n u v z k i ht
  split at h
  ·
   rename_i z' hz
   obtain ⟨hi, h⟩ := b2E hf h
   obtain ⟨e, rfl⟩ := a6K hz
   refine ⟨_, _, h, fun base G0 own0 a c hM hag ha _ _ => ?_⟩
   rw [ho] at ha
   subst e
   exact b9J hM ho (hE.ty _ _ ht).ok hi ha.1 ha.2.1
  ·
   exact absurd h hf
 ·
  rename_i u b k i ht
  split at h
  ·
   rename_i s l hb
   split at h
   ·
    rename_i hs
    have := Ty.beq_eq hs
    subst this
    obtain ⟨hi, h⟩ := b2E hf h
    refine ⟨_, _, h, fun base G0 own0 a c hM hag ha _ _ => ?_⟩
    rw [ho] at ha
    have hag : a0H c.H b = a0H H b := hag b (by simp [a8K, blks])
    exact b8S hM ho (hE.ty _ _ ht).ok (hag.trans hb) hi ha.1 ha.2.1
   ·
    exact absurd h hf
  ·
   exact absurd h hf
 ·
  rename_i u b lo n k i ht
  split at h
  ·
   rename_i s l hb
   split at h
   ·
    rename_i hs
    have := Ty.beq_eq hs
    subst this
    obtain ⟨hi, h⟩ := b2E hf h
    refine ⟨_, _, h, fun base G0 own0 a c hM hag ha _ _ => ?_⟩
    rw [ho] at ha
    have hag : a0H c.H b = a0H H b := hag b (by simp [a8K, blks])
    exact c0W hM ho (hE.ty _ _ ht).ok (hag.trans hb) hi ha.1 ha.2.1
   ·
    exact absurd h hf
  ·
   exact absurd h hf
 ·
  rename_i u v z k i ht
  split at h
  ·
   rename_i z' hz
   obtain ⟨hi, h⟩ := b2E hf h
   obtain ⟨e, rfl⟩ := a6K hz
   refine ⟨_, _, h, fun base G0 own0 a c hM hag ha _ _ => ?_⟩
   rw [ho] at ha
   subst e
   exact c1L hM ho (hE.ty _ _ ht).ok hi ha.1 ha.2.1
  ·
   exact absurd h hf
 ·
  exact absurd h hf
theorem f0X (hE : EnvOk E) (hf : ¬ T fail) {id : TypeId} {x y : Operand} (ho : o.op = .index id x y) (h : T (evOp E fail o args H nb K)) : Goal E T o args H nb K := by
 simp only [evOp, ho] at h
 split at h
 ·
  rename_i n u v z k i ht
  split at h
  ·
   rename_i z' hz
   obtain ⟨hi, h⟩ := b2E hf h
   obtain ⟨e, rfl⟩ := a6K hz
   refine ⟨_, _, h, fun base G0 own0 a c hM hag ha _ _ => ?_⟩
   rw [ho] at ha
   subst e
   exact c8B hM ho (hE.ty _ _ ht).ok hi ha.1 ha.2.1
  ·
   exact absurd h hf
 ·
  rename_i x k i ht
  obtain ⟨hi, h⟩ := b2E hf h
  refine ⟨_, _, h, fun base G0 own0 a c hM hag ha _ _ => ?_⟩
  rw [ho] at ha
  exact c8W hM ho (hE.ty _ _ ht).ok hi ha.1 ha.2.1
 ·
  exact absurd h hf
theorem f4J (hf : ¬ T fail) {op : UnOp} {id : TypeId} {x : Operand} (ho : o.op = .unOp op id x) (h : T (evOp E fail o args H nb K)) : Goal E T o args H nb K := by
 simp only [evOp, ho] at h
 split at h
 ·
  rename_i u
  obtain ⟨pv, h1, h2⟩ := e9A (P := E.P) (fun r => T r) hf (K := fun v => K v []) h
  refine ⟨pv, [], h1, fun base G0 own0 a c hM hag ha _ _ => ?_⟩
  rw [ho] at ha
  obtain ⟨r, h3, h4⟩ := h2 c.w c _ ha.1
  refine a1A hM (v := r) ?_ h3
  simp only [execOp, ho]
  rw [Sem.run_bind, h4]
  rfl
 ·
  exact absurd h hf
theorem d1D {c : Cx} {id : Nat} {t : Ty} {x : PV} (ht : E.ty id = some (.sl t)) (hag : Ag H c.H (blks x)) : d1N E H id x = a6O c.H x := by
 rw [d4N x hag]; simp only [d1N, ht]
theorem f1K (hE : EnvOk E) (hf : ¬ T fail) {id : TypeId} {x : Operand} {lo hi mx : Option Operand} (ho : o.op = .slice id x lo hi mx) (h : T (evOp E fail o args H nb K)) : Goal E T o args H nb K := by
 simp only [evOp, ho] at h
 split at h
 ·
  rename_i m0 b kd i kd2 j
  split at h
  ·
   rename_i y0 t s xs ht hbl
   split at h
   ·
    rename_i hs
    have := Ty.beq_eq hs
    subst this
    have ⟨h1, g1⟩ := b2E hf h
    clear h
    have ⟨h2, h⟩ := b2E hf g1
    clear g1
    refine ⟨_, _, h, fun base G0 own0 a c hM hag ha _ _ => ?_⟩
    rw [ho] at ha
    simp only [Op.operands, Array.toList_append, Option.toArray, List.map_append] at ha
    have ha : All2 (VOk c) [.whole b, .val (.int kd) i, .val (.int kd2) j] [a.eval x, a.eval y0, a.eval m0] := by simpa using ha
    have hag : a0H c.H b = a0H H b := hag b (by simp [a8K, blks])
    exact c8G hM ho (hE.ty _ _ ht).ok (hag.trans hbl) h1 (of_decide_eq_true (show decide _ = true from h2)) ha.1 ha.2.1 ha.2.2.1
   ·
    exact absurd h hf
  ·
   exact absurd h hf
 ·
  rename_i px bs
  split at h
  ·
   rename_i n b1 b2 hb
   have ⟨h1, g1⟩ := b2E hf h
   clear h
   have ⟨h2, h⟩ := b2E hf g1
   clear g1
   have hsp : ∀ (a : Act) (c : Cx), All2 (VOk c) (px :: bs) (o.op.operands.toList.map a.eval) → VOk c px (a.eval x) ∧ All2 (VOk c) bs (lo.toList.map a.eval ++ hi.toList.map a.eval) := by
    intro a c ha
    rw [ho] at ha
    simp only [Op.operands, Array.toList_append, Option.toArray, List.map_append] at ha
    cases lo <;> cases hi <;> (simp at ha ⊢; exact ha)
   split at h
   ·
    rename_i t ht
    refine ⟨_, _, h, fun base G0 own0 a c hM hag ha _ _ => ?_⟩
    have ⟨hx, hbs⟩ := hsp a c ha
    rw [d1D ht hag.left] at hb
    exact c5O hM ho (hE.ty _ _ ht).ok hbs hb h1 h2 hx
   ·
    rename_i t u y ht
    split at h
    ·
     rename_i y' hy
     obtain ⟨e, rfl⟩ := a6K hy
     refine ⟨_, _, h, fun base G0 own0 a c hM hag ha _ _ => ?_⟩
     have ⟨hx, hbs⟩ := hsp a c ha
     subst e
     rw [d1D ht hag.left] at hb
     exact c7X hM ho (hE.ty _ _ ht).ok hbs hb h1 h2 hx
    ·
     exact absurd h hf
   ·
    rename_i t b ht
    split at h
    ·
     rename_i s l hbl
     split at h
     ·
      rename_i hs
      have := Ty.beq_eq hs
      subst this
      split at h
      ·
       rename_i hown
       simp only [Bool.and_eq_true, Bool.not_eq_true'] at hown
       have hlo : lo = none := by cases lo <;> first | rfl | cases hown.2
       subst hlo
       refine ⟨_, _, h, fun base G0 own0 a c hM hag ha hn _ => ?_⟩
       have ⟨hx, hbs⟩ := hsp a c ha
       rw [d1D ht hag.left] at hb
       have hag : a0H c.H b = a0H H b := hag b (by simp [a8K, blks])
       exact c8P hM ho (hE.ty _ _ ht).ok hbs (hag.trans hbl) hb h1 h2 hx (hn (nb, .row s (subL l 0 b2.2)) (by simp) (Nat.le_refl _))
      ·
       refine ⟨_, _, h, fun base G0 own0 a c hM hag ha _ _ => ?_⟩
       have ⟨hx, hbs⟩ := hsp a c ha
       rw [d1D ht hag.left] at hb
       have hag : a0H c.H b = a0H H b := hag b (by simp [a8K, blks])
       exact c2S hM ho (hE.ty _ _ ht).ok hbs (hag.trans hbl) hb h1 h2 hx
     ·
      exact absurd h hf
    ·
     exact absurd h hf
   ·
    rename_i t b s k ht
    split at h
    ·
     rename_i u l hbl
     split at h
     ·
      rename_i hs
      have := Ty.beq_eq hs
      subst this
      refine ⟨_, _, h, fun base G0 own0 a c hM hag ha _ _ => ?_⟩
      have ⟨hx, hbs⟩ := hsp a c ha
      rw [d1D ht hag.left] at hb
      have hag : a0H c.H b = a0H H b := hag b (by simp [a8K, blks])
      exact c8Q hM ho (hE.ty _ _ ht).ok hbs (hag.trans hbl) hb h1 h2 hx
     ·
      exact absurd h hf
    ·
     exact absurd h hf
   ·
    rename_i m t b p ht
    split at h
    ·
     rename_i hc
     simp only [Bool.and_eq_true] at hc
     split at h
     ·
      rename_i s v0 hbl
      refine ⟨_, _, h, fun base G0 own0 a c hM hag ha _ _ => ?_⟩
      have ⟨hx, hbs⟩ := hsp a c ha
      have hag : a0H c.H b = a0H H b := hag b (by simp [a8K, blks])
      have hb : a7O (some m) lo.isSome hi.isSome bs = some (n, b1, b2) := by simpa only [d1N, ht] using hb
      exact c8A hM ho (hE.ty _ _ ht).ok hbs (hag.trans hbl) (by rw [c8T hag]; exact hc.1) (Nat.le_of_ble_eq_true hc.2) hb h1 h2 hx
     ·
      exact absurd h hf
    ·
     exact absurd h hf
   ·
    rename_i y ht
    refine ⟨_, _, h, fun base G0 own0 a c hM hag ha _ _ => ?_⟩
    have ⟨hx, hbs⟩ := hsp a c ha
    have hb : a7O (some (lenL y)) lo.isSome hi.isSome bs = some (n, b1, b2) := by simpa only [d1N, ht, a6O] using hb
    exact c8N hM ho (hE.ty _ _ ht).ok hbs hb h1 h2 hx
   ·
    exact absurd h hf
  ·
   exact absurd h hf
 ·
  exact absurd h hf
theorem b2G {k : Call} {b : Builtin} (hk : k.callee = .builtin b) (a : Act) : (Op.call k).operands.toList.map a.eval = k.args.toList.map a.eval := by
 simp [Op.operands, Call.operands, hk]
theorem b5P {c : Cx} {x y : PV} {l : Array Operand} {a : Act} (h : All2 (VOk c) [x, y] (l.toList.map a.eval)) : ∃ p q, l = #[p, q] ∧ VOk c x (a.eval p) ∧ VOk c y (a.eval q) := by
 obtain ⟨l⟩ := l
 match l, h with
 | [p, q], h => exact ⟨p, q, rfl, h.1, h.2.1⟩
 | [], h => exact h.elim
 | [_], h => exact h.2.elim
 | _ :: _ :: _ :: _, h => exact h.2.2.elim
theorem e2H {c : Cx} {x : PV} {l : Array Operand} {a : Act} (h : All2 (VOk c) [x] (l.toList.map a.eval)) : ∃ p, l = #[p] ∧ VOk c x (a.eval p) := by
 obtain ⟨l⟩ := l
 match l, h with
 | [p], h => exact ⟨p, rfl, h.1⟩
 | [], h => exact h.elim
 | _ :: _ :: _, h => exact h.2.elim
theorem g3C (hE : EnvOk E) (hf : ¬ T fail) {k : Call} (ho : o.op = .call k) (hk : k.callee = .builtin .len) (h : T (evOp E fail o args H nb K)) : Goal E T o args H nb K := by
 simp only [evOp, ho, hk] at h
 split at h
 ·
  rename_i px t ht hsz
  split at h
  ·
   rename_i n hn
   refine ⟨_, _, h, fun base G0 own0 a c hM hag ha _ _ => ?_⟩
   rw [ho, b2G hk] at ha
   obtain ⟨x, hargs, hx⟩ := e2H ha
   have hat : k.argTypes[0]? = some (k.argTypes.getD 0 0) := by
    have h0 : 0 < k.argTypes.size := Nat.le_of_ble_eq_true hsz
    simp [Array.getElem?_eq_getElem h0]
   have hok := (hE.ty _ _ ht).ok
   have hlag : a6O c.H px = a6O H px := d4N px (fun b hb => hag b (by simp [a8K, hb]))
   have hstr : b4E px = true ↔ ∃ l, px = .val .str l := by
    constructor
    ·
     intro h
     unfold b4E at h
     split at h
     ·
      exact ⟨_, rfl⟩
     ·
      cases h
    ·
     rintro ⟨l, rfl⟩; rfl
   unfold lenOf at hn
   split at hn
   ·
    split at hn
    ·
     rename_i hle
     simp only [Option.some.injEq] at hn
     subst hn
     exact d2Z hM ho hk hargs hat hok (Nat.le_of_ble_eq_true hle)
    ·
     cases hn
   ·
    split at hn
    ·
     cases hn
    ·
     rename_i hs
     refine e0J hM ho hk hargs hat hok (.inl ⟨_, rfl⟩) ⟨fun h => (by cases h), fun h => ?_⟩ (hlag.trans hn) hx
     rw [hstr.2 h] at hs; cases hs
   ·
    split at hn
    ·
     rename_i hs
     exact e0J hM ho hk hargs hat hok (.inr rfl) ⟨fun _ => hstr.1 hs, fun _ => rfl⟩ (hlag.trans hn) hx
    ·
     cases hn
   ·
    cases hn
  ·
   exact absurd h hf
 ·
  exact absurd h hf
theorem g2C (hf : ¬ T fail) {k : Call} (ho : o.op = .call k) (hk : k.callee = .builtin .min) (h : T (evOp E fail o args H nb K)) : Goal E T o args H nb K := by
 simp only [evOp, ho, hk] at h
 split at h
 ·
  rename_i kd p l q
  split at h
  ·
   rename_i q' hq
   obtain ⟨e, rfl⟩ := a6K hq
   injection e with e
   subst e
   refine ⟨_, _, h, fun base G0 own0 a c hM hag ha _ _ => ?_⟩
   rw [ho, b2G hk] at ha
   obtain ⟨x, y, hargs, hx, hy⟩ := b5P ha
   exact f9K hM ho hk hargs hx hy
  ·
   exact absurd h hf
 ·
  exact absurd h hf
theorem g4A (hf : ¬ T fail) {k : Call} (ho : o.op = .call k) (hk : k.callee = .builtin .max) (h : T (evOp E fail o args H nb K)) : Goal E T o args H nb K := by
 simp only [evOp, ho, hk] at h
 split at h
 ·
  rename_i kd p l q
  split at h
  ·
   rename_i q' hq
   obtain ⟨e, rfl⟩ := a6K hq
   injection e with e
   subst e
   refine ⟨_, _, h, fun base G0 own0 a c hM hag ha _ _ => ?_⟩
   rw [ho, b2G hk] at ha
   obtain ⟨x, y, hargs, hx, hy⟩ := b5P ha
   exact f3J hM ho hk hargs hx hy
  ·
   exact absurd h hf
 ·
  exact absurd h hf
theorem f6S (hE : EnvOk E) (hf : ¬ T fail) {k : Call} (ho : o.op = .call k) {fo : Operand} (hk : k.callee = .value fo) (h : T (evOp E fail o args H nb K)) : Goal E T o args H nb K := by
 simp only [evOp, ho, hk] at h
 split at h
 ·
  rename_i f vs
  have hsp : ∀ (c : Cx) (a : Act), All2 (VOk c) (.fn f :: vs) (o.op.operands.toList.map a.eval) → All2 (VOk c) vs (k.args.toList.map a.eval) ∧ (execOp a.eval o).run E.P c.w = (callFunc f (k.args.toList.map a.eval).toArray).run E.P c.w := by
   intro c a ha
   have ha' : All2 (VOk c) (.fn f :: vs) (a.eval fo :: k.args.toList.map a.eval) := by
    rw [ho] at ha
    simp only [Op.operands, Call.operands, hk] at ha
    simpa using ha
   have hfv : a.eval fo = .func (.func f) #[] ([] : List Value).toArray := by
    obtain ⟨cs, h1, h2⟩ := ha'.1
    simp only [a0W] at h1
    subst h1; exact h2
   refine ⟨ha'.2, ?_⟩
   have := c8V (P := E.P) ho hk hfv c.w
   simpa using this
  split at h
  ·
   rename_i C hC
   obtain ⟨pv, δ, h1, h2⟩ := c6L hf (hE.con _ _ hC) h
   refine ⟨pv, δ, h1, fun base G0 own0 a c hM hag ha hn hag2 => ?_⟩
   obtain ⟨ha', hex⟩ := hsp c a ha
   exact h2 base G0 own0 o a c _ hM (fun b hb => hag b (by simp [a8K, blks, hb])) ha' hex hn hag2
  ·
   rename_i C hC
   unfold c9U at h
   split at h
   ·
    rename_i hin hout hsh
    split at h
    ·
     rename_i x m hx hl
     unfold optF at h
     split at h
     ·
      rename_i y hy
      refine ⟨_, _, h, fun base G0 own0 a c hM hag ha hn _ => ?_⟩
      obtain ⟨ha', hex⟩ := hsp c a ha
      rw [← d4M hin vs (H' := c.H) (fun b hb => hag b (by simp [a8K, blks, hb]))] at hx
      exact c9I hM hex (hE.fresh _ _ hC) hin hout hsh ha' (Nat.eq_of_beq_eq_true hl) hx hy
     ·
      exact absurd h hf
    ·
     exact absurd h hf
   ·
    exact absurd h hf
  ·
   exact absurd h hf
 ·
  exact absurd h hf
theorem e4H (hE : EnvOk E) (hf : ¬ T fail) {k : Call} (ho : o.op = .call k) (hk : k.callee = .builtin .append) (h : T (evOp E fail o args H nb K)) : Goal E T o args H nb K := by
 simp only [evOp, ho, hk] at h
 split at h
 ·
  rename_i t px py ht
  split at h
  ·
   rename_i hc
   simp only [Bool.and_eq_true] at hc
   obtain ⟨hq, hsz, ha0, ha1⟩ := hc
   have hat : ∃ id, k.argTypes = #[id, id] ∧ E.ty id = some (.sl t) := by
    have h1 := Nat.eq_of_beq_eq_true ha1
    have h0 := Nat.eq_of_beq_eq_true ha0
    obtain ⟨l⟩ : ∃ l : Array TypeId, l = k.argTypes := ⟨_, rfl⟩
    generalize k.argTypes = l at *
    obtain ⟨l⟩ := l
    match l, h1 with
    | [p, q], _ =>
     simp at h0 ht
     exact ⟨p, by rw [h0], ht⟩
   obtain ⟨id, hat, hid⟩ := hat
   unfold d4F at h
   split at h
   ·
    rename_i ys lent hv
    split at h
    ·
     have ⟨h1, g⟩ := b2E hf h
     refine ⟨_, _, g, fun base G0 own0 a c hM hag ha hn _ => ?_⟩
     rw [ho, b2G hk] at ha
     obtain ⟨x, y, hargs, hx, hy⟩ := b5P ha
     rw [← b2T (H' := c.H) _ py (fun b hb => hag b (by simp [a8K, hb]))] at hv
     exact c4G hM ho hk hargs hat (hE.ty _ _ hid) hq (Nat.le_of_ble_eq_true hsz) hx hy hv h1 (hn (nb, .row t ys) (by simp) (Nat.le_refl _))
    ·
     rename_i b
     split at h
     ·
      rename_i u l hb
      split at h
      ·
       rename_i xs hxs
       obtain ⟨e, rfl⟩ := a6K hxs
       injection e with e
       subst e
       split at h
       ·
        exact absurd h hf
       ·
        rename_i hnl
        have ⟨h1, g⟩ := b2E hf h
        refine ⟨_, _, g, fun base G0 own0 a c hM hag ha hn _ => ?_⟩
        rw [ho, b2G hk] at ha
        obtain ⟨x, y, hargs, hx, hy⟩ := b5P ha
        have hag1 : a0H c.H b = a0H H b := hag b (by simp [a8K, blks])
        rw [← b2T (H' := c.H) _ py (fun b hb => hag b (by simp [a8K, hb]))] at hv
        exact c5I hM ho hk hargs hat (hE.ty _ _ hid) hq (Nat.le_of_ble_eq_true hsz) (hag1.trans hb) (fun hm => by rw [List.any_eq_false] at hnl; exact hnl b hm (Nat.beq_refl b)) hx hy hv h1 (hn (nb, .row u ((show List u.D from l) ++ (show List u.D from ys))) (by simp) (Nat.le_refl _))
      ·
       exact absurd h hf
     ·
      exact absurd h hf
    ·
     rename_i b n
     split at h
     ·
      rename_i u l hb
      split at h
      ·
       rename_i xs hxs
       obtain ⟨e, rfl⟩ := a6K hxs
       injection e with e
       subst e
       split at h
       ·
        exact absurd h hf
       ·
        rename_i hnl
        have ⟨h1, g⟩ := b2E hf h
        cases h0 : c1X (lenL (show List u.D from ys)) with
        | true =>
         rw [h0] at g
         have g : T (K (.row b 0 n) []) := g
         refine ⟨_, _, g, fun base G0 own0 a c hM hag ha hn _ => ?_⟩
         rw [ho, b2G hk] at ha
         obtain ⟨x, y, hargs, hx, hy⟩ := b5P ha
         have hag1 : a0H c.H b = a0H H b := hag b (by simp [a8K, blks])
         rw [← b2T (H' := c.H) _ py (fun b hb => hag b (by simp [a8K, hb]))] at hv
         exact c5D hM ho hk hargs hat (hE.ty _ _ hid) (hag1.trans hb) hx hy hv (Nat.eq_of_beq_eq_true h0)
        | false =>
         rw [h0] at g
         have g : T (K (.whole nb) (kill (c2B u lent) ++ [(nb, .row u (appL (subL (show List u.D from l) 0 n) (show List u.D from ys)))])) := g
         refine ⟨_, _, g, fun base G0 own0 a c hM hag ha hn _ => ?_⟩
         rw [ho, b2G hk] at ha
         obtain ⟨x, y, hargs, hx, hy⟩ := b5P ha
         have hag1 : a0H c.H b = a0H H b := hag b (by simp [a8K, blks])
         rw [← b2T (H' := c.H) _ py (fun b hb => hag b (by simp [a8K, hb]))] at hv
         have hsub : subL (show List u.D from l) 0 n = (show List u.D from l).take n := by simp [subL]
         rw [hsub] at h1 hn ⊢
         exact c5T hM ho hk hargs hat (hE.ty _ _ hid) hq (Nat.le_of_ble_eq_true hsz) (hag1.trans hb) (fun hm => by rw [List.any_eq_false] at hnl; exact hnl b hm (Nat.beq_refl b)) hx hy hv (fun e => by rw [show lenL (show List u.D from ys) = 0 from e] at h0; cases h0) h1 (hn (nb, .row u ((show List u.D from l).take n ++ (show List u.D from ys))) (by simp) (Nat.le_refl _))
      ·
       exact absurd h hf
     ·
      exact absurd h hf
    ·
     exact absurd h hf
   ·
    exact absurd h hf
  ·
   exact absurd h hf
 ·
  exact absurd h hf
theorem g0D (hE : EnvOk E) (hf : ¬ T fail) {k : Call} (ho : o.op = .call k) (hk : k.callee = .builtin .copy) (h : T (evOp E fail o args H nb K)) : Goal E T o args H nb K := by
 simp only [evOp, ho, hk] at h
 split at h
 ·
  rename_i t px py ht
  split at h
  ·
   rename_i hc
   have hat : ∃ id id2, k.argTypes = #[id, id2] ∧ E.ty id = some (.sl t) := by
    have h1 := Nat.eq_of_beq_eq_true hc
    obtain ⟨l⟩ : ∃ l : Array TypeId, l = k.argTypes := ⟨_, rfl⟩
    generalize k.argTypes = l at *
    obtain ⟨l⟩ := l
    match l, h1 with
    | [p, q], _ =>
     simp at ht
     exact ⟨p, q, rfl, ht⟩
   obtain ⟨id, id2, hat, hid⟩ := hat
   unfold e7A at h
   split at h
   ·
    rename_i kd b m b2 lo n
    split at h
    ·
     rename_i m' k' v s m2 u z hb hb2
     split at h
     ·
      rename_i z' hz
      split at h
      ·
       rename_i hcond
       simp only [Bool.and_eq_true] at hcond
       obtain ⟨g1, g2, g3, g4, g5⟩ := hcond
       have g1 := Nat.eq_of_beq_eq_true g1
       have g2 := Ty.beq_eq g2
       have g3 := Nat.eq_of_beq_eq_true g3
       have g4 := Nat.le_of_ble_eq_true g4
       have g5 := Nat.le_of_ble_eq_true g5
       subst g1 g3
       injection g2 with g2
       subst g2
       obtain ⟨e, rfl⟩ := a6K hz
       injection e with e1 e2
       subst e2
       refine ⟨_, _, h, fun base G0 own0 a c hM hag ha _ _ => ?_⟩
       rw [ho, b2G hk] at ha
       obtain ⟨x, y, hargs, hx, hy⟩ := b5P ha
       have hag1 : a0H c.H b = a0H H b := hag b (by simp [a8K, blks])
       have hag2 : a0H c.H b2 = a0H H b2 := hag b2 (by simp [a8K, blks])
       exact e4M hM ho hk hargs hat (hE.ty _ _ hid) hx hy (hag1.trans hb) (hag2.trans hb2) g4 g5
      ·
       exact absurd h hf
     ·
      exact absurd h hf
    ·
     exact absurd h hf
   ·
    exact absurd h hf
  ·
   exact absurd h hf
 ·
  exact absurd h hf
theorem d9R (hE : EnvOk E) (hf : ¬ T fail) (h : T (evOp E fail o args H nb K)) : d7I E T o args (rdOf o args) H nb K := by
 have hno : ∀ {x : Prop}, T fail → x := fun h => absurd h hf
 unfold rdOf
 cases ho : o.op with
 | move x => exact f9S hf ho h
 | assign x => exact e3N hf ho h
 | pick x y z => exact f5B hf ho h
 | alloc t => exact f0L hE hf ho h
 | box t x => exact g2N hf ho h
 | build t ps => exact f1B hE hf ho h
 | makeInterface t x => exact c3Z hE hf ho h
 | typeAssert x t u ok => exact d1X hE hf ho h
 | makeFunc fn p q => exact d6Y hf ho h
 | buildSlice t n ps => exact d0B hE hf ho h
 | load t x => exact f8J hE hf ho h
 | store t x y => exact e9I hE hf ho h
 | nilCheck x => exact d6Z hf ho h
 | binOp op t x y u => exact f0Z hE hf ho h
 | unOp op t x => exact f4J hf ho h
 | convert s d x => exact e0L hE hf ho h
 | fieldAddr t x f => exact d2C hE hf ho h
 | field t x f => exact e9N hE hf ho h
 | indexAddr t x y => exact d3O hE hf ho h
 | index t x y => exact f0X hE hf ho h
 | slice t x lo hi mx => exact f1K hE hf ho h
 | extract x i => exact e0X hf ho h
 | makeSlice t x y => exact d3F hE hf ho h
 | call k =>
  cases hk : k.callee with
  | value fo => exact f6S hE hf ho hk h
  | invoke r m => simp only [evOp, ho, hk] at h; exact hno h
  | builtin b =>
   cases b with
   | len => exact g3C hE hf ho hk h
   | append => exact e4H hE hf ho hk h
   | copy => exact g0D hE hf ho hk h
   | min => exact g2C hf ho hk h
   | max => exact g4A hf ho hk h
   | _ => simp only [evOp, ho, hk] at h; exact hno h
 | _ => simp only [evOp, ho] at h; exact hno h
end
end Sym

/- What a symbolic state says of the machine's; a region whose operations go in the order of the text. -/
namespace Sym
open Go
structure Rep (base : World) (G0 own0 : Nat → Prop) (sz : Nat) (fr : List (List Value)) (c : Cx) (st : St) (a : Act) : Prop where
 mem : Mem base G0 own0 c
 heap : c.H = st.heap
 slots : All2 (VOk c) st.slots a.tmps.toList
 stk : All2 (All2 (VOk c)) st.stk fr
 size : a.tmps.size = sz
 defers : a.defers = []
theorem All2.mono {X Y : Type} {R S : X → Y → Prop} (h : ∀ a b, R a b → S a b) : ∀ (l : List X) (r : List Y), All2 R l r → All2 S l r
 | [], [], _ => trivial
 | x :: l, y :: r, hh => ⟨h _ _ hh.1, All2.mono h l r hh.2⟩
 | [], _ :: _, hh => hh.elim
 | _ :: _, [], hh => hh.elim
theorem All2.len {X Y : Type} {R : X → Y → Prop} : ∀ {l : List X} {r : List Y}, All2 R l r → l.length = r.length
 | [], [], _ => rfl
 | x :: l, y :: r, h => by simp [All2.len h.2]
 | [], _ :: _, h => h.elim
 | _ :: _, [], h => h.elim
theorem b4N {c : Cx} : ∀ {vs : List PV} {us : List Value} (t : Nat), All2 (VOk c) vs us → VOk c (a5G vs t) (us.getD t undef)
 | [], [], t, _ => by cases t <;> trivial
 | v :: vs, u :: us, 0, h => h.1
 | v :: vs, u :: us, t + 1, h => by
  have := b4N t h.2
  simpa [a5G] using this
 | [], _ :: _, _, h => h.elim
 | _ :: _, [], _, h => h.elim
theorem d6G {c : Cx} {v : PV} {u : Value} (hv : VOk c v u) : ∀ {vs : List PV} {us : List Value} (t : Nat), All2 (VOk c) vs us → All2 (VOk c) (setAt vs t v) (us.set t u)
 | [], [], t, _ => trivial
 | _ :: _, _ :: _, 0, h => ⟨hv, h.2⟩
 | _ :: _, _ :: _, t + 1, h => ⟨h.1, d6G hv t h.2⟩
 | [], _ :: _, _, h => h.elim
 | _ :: _, [], _, h => h.elim
theorem getD_toList (a : Array Value) (t : Nat) : a.getD t undef = a.toList.getD t undef := by
 simp [Array.getD_eq_getD_getElem?]
theorem d4R {c : Cx} (vs : List PV) (v : Value) : VOk c (opd vs (.const v)) v := by
 cases v with
 | int k n =>
  simp only [opd]
  split
  ·
   rename_i h
   have h := of_decide_eq_true h
   exact ⟨_, rfl, by show Value.int k n = .int k (k.wrap n); rw [h]⟩
  ·
   trivial
 | bool b => exact ⟨_, rfl, rfl⟩
 | slice ad n cap =>
  unfold opd
  split <;> rename_i heq <;> first
   | trivial
   | (cases heq; done)
   | (cases heq; exact ⟨_, rfl, rfl⟩)
 | pointer ad => cases ad with
  | none => exact ⟨_, rfl, rfl⟩
  | some ad => trivial
 | string s =>
  simp only [opd]
  split
  ·
   rename_i h
   have h := Nat.le_of_ble_eq_true h
   refine ⟨_, ⟨rfl, by show (List.map _ _).length ≤ LIM; rw [List.length_map]; simp only [LIM]; omega⟩, ?_⟩
   show Value.string s = .string (bytesOf _)
   congr 1
   obtain ⟨⟨l⟩⟩ := s
   unfold bytesOf
   congr 1
   simp only [List.map_map]
   apply Array.ext'
   simp only
   symm
   rw [show l = l.map id by simp]
   simp only [List.map_map]
   apply List.map_congr_left
   intro b _
   have hb : b.toNat < 256 := b.toNat_lt
   have : (I.of .u8 (b.toNat : Int)).val = b.toNat := by
    show IntKind.u8.wrap b.toNat = b.toNat
    simp only [IntKind.wrap, IntKind.bits, IntKind.signed, Bool.false_and, Bool.false_eq_true, if_false]
    omega
   simp only [Function.comp_apply, this, id]
   simp
  ·
   trivial
 | _ => trivial
theorem e6H {c : Cx} {vs : List PV} {a : Act} (h : All2 (VOk c) vs a.tmps.toList) (x : Operand) : VOk c (opd vs x) (a.eval x) := by
 cases x with
 | tmp t => show VOk c (a5G vs t) (a.tmps.getD t undef); rw [getD_toList]; exact b4N t h
 | const v => exact d4R vs v
 | global g => exact trivial
 | func f => exact ⟨_, rfl, rfl⟩
theorem f1M {c : Cx} {st : St} {a : Act} (h : All2 (VOk c) st.slots a.tmps.toList) (o : Oper) : All2 (VOk c) (a9L o st) (o.op.operands.toList.map a.eval) := by
 unfold a9L
 generalize o.op.operands.toList = l
 induction l with
 | nil => trivial
 | cons x l ih => exact ⟨e6H h x, ih⟩
theorem d7V (a : Act) (d : Option Tmp) (v : Value) : (a.put d v).tmps.toList = match d with | some d => a.tmps.toList.set d v | none => a.tmps.toList := by
 cases d <;> simp [Act.put]
theorem d6H (a : Act) (d : Option Tmp) (v : Value) : (a.put d v).tmps.size = a.tmps.size := by
 cases d <;> simp [Act.put]
theorem put_defers (a : Act) (d : Option Tmp) (v : Value) : (a.put d v).defers = a.defers := by
 cases d <;> rfl
section
variable {P : Program} {base : World} {G0 own0 : Nat → Prop} {sz : Nat} {fr : List (List Value)}
theorem Rep.put {c c' : Cx} {st : St} {a : Act} (h : Rep base G0 own0 sz fr c st a) (hE : Ext c c') (hM : Mem base G0 own0 c') {pv : PV} {v : Value} {δ : List (Nat × Blk)} (hH : c'.H = a1X c.H δ) (hv : VOk c' pv v) (d : Option Nat) :
  Rep base G0 own0 sz fr c' (st.put d pv δ) (a.put d v) := by
 refine ⟨hM, by rw [hH, h.heap]; rfl, ?_, All2.mono (fun _ _ hl => All2.mono (fun _ _ => c4S hE) _ _ hl) _ _ h.stk, by rw [d6H]; exact h.size, by rw [put_defers]; exact h.defers⟩
 have h1 := All2.mono (fun _ _ => c4S hE) _ _ h.slots
 rw [d7V]
 cases d with
 | none => exact h1
 | some d => exact d6G hv d h1
theorem d5V : ∀ (vs : List PV) (d : Nat), setAt vs d (a5G vs d) = vs
 | [], _ => rfl
 | _ :: _, 0 => rfl
 | v :: vs, d + 1 => by simp [setAt, a5G, d5V vs d]
theorem c9J {c : Cx} : VOk c b8U undef := ⟨[], rfl, rfl⟩
theorem c6H {ops : Array Oper} {g d : Nat} (hd : c9A ops g = some d) (tmps : Array Value) : yielded ops tmps g = match tmps.getD d undef with | .bool b => some b | _ => none := by
 unfold yielded
 unfold c9A at hd
 rw [hd]
 simp only [Option.bind_some]
 cases h : tmps[d]? with
 | none => simp [Array.getD_eq_getD_getElem?, h, undef]
 | some v => simp only [Array.getD_eq_getD_getElem?, h, Option.getD_some]; cases v <;> rfl
def GuardIs (ops : Array Oper) (o : Oper) (f : Nat → PV) (b : Bool) : Prop :=
 ∀ (c : Cx) (tmps : Array Value), (∀ d ∈ o.looksAt ops, VOk c (f d) (tmps.getD d undef)) → Region.wanted o (yielded ops tmps) = b
theorem d0G {R : Type} {T : R → Prop} {fail : R} (hf : ¬ T fail) {ops : Array Oper} {o : Oper} {st : St} {run skip : St → R} (h : T (d4Y fail ops o st run skip)) :
  (T (run st) ∧ GuardIs ops o (a5G st.slots) true) ∨ (T (skip st) ∧ GuardIs ops o (a5G st.slots) false) := by
 unfold d4Y at h
 split at h
 ·
  rename_i hg
  exact .inl ⟨h, fun c tmps _ => by simp [Region.wanted, hg]⟩
 ·
  rename_i g want hg
  split at h
  ·
   exact absurd h hf
  ·
   rename_i d hd
   have hlook : d ∈ o.looksAt ops := by
    unfold c9A at hd
    simp [Oper.looksAt, hg, hd]
   split at h
   ·
    rename_i p hp
    have hset : ∀ b, p = b → (⟨setAt st.slots d (.val .bool b), st.stk, st.heap⟩ : St) = st := by
     rintro b rfl
     rw [← hp, d5V]
    have hval : ∀ (c : Cx) (tmps : Array Value), (∀ d ∈ o.looksAt ops, VOk c (a5G st.slots d) (tmps.getD d undef)) → yielded ops tmps g = some (show Bool from p) := by
     intro c tmps hok
     have := hok d hlook
     rw [hp] at this
     rw [c6H hd, c3L this]
    cases hpb : (show Bool from p) with
    | true =>
     simp only [hpb, brn, cond_true] at h
     rw [hset true hpb] at h
     cases want with
     | true => exact .inl ⟨h, fun c tmps hok => by simp [Region.wanted, hg, hval c tmps hok, hpb]⟩
     | false => exact .inr ⟨h, fun c tmps hok => by simp [Region.wanted, hg, hval c tmps hok, hpb]⟩
    | false =>
     simp only [hpb, brn, cond_false] at h
     rw [hset false hpb] at h
     cases want with
     | false => exact .inl ⟨h, fun c tmps hok => by simp [Region.wanted, hg, hval c tmps hok, hpb]⟩
     | true => exact .inr ⟨h, fun c tmps hok => by simp [Region.wanted, hg, hval c tmps hok, hpb]⟩
   ·
    rename_i hp
    refine .inr ⟨h, fun c tmps hok => ?_⟩
    have := hok d hlook
    rw [hp] at this
    obtain ⟨vs, e, he⟩ := this
    have : vs = [] := he
    subst this
    simp only [Region.wanted, hg]
    rw [c6H hd, e]
    simp
   ·
    exact absurd h hf
theorem GuardIs.of_rep {ops : Array Oper} {o : Oper} {c : Cx} {st : St} {a : Act} {b : Bool} (h : GuardIs ops o (a5G st.slots) b) (hs : All2 (VOk c) st.slots a.tmps.toList) : Region.wanted o (yielded ops a.tmps) = b :=
 h c a.tmps fun d _ => by rw [getD_toList]; exact b4N d hs
def g3I (E : Env) (base : World) (G0 own0 : Nat → Prop) (sz : Nat) (fr : List (List Value)) {R : Type} (T : R → Prop) (inl : Nat → FuncId → List PV → St → (PV → St → R) → R) : Prop :=
 ∀ (i : Nat) (f : FuncId) (vs : List PV) (st : St) (next : PV → St → R) (c : Cx) (a : Act) (us : List Value) (Kw : Value → World → Prop), T (inl i f vs st next) → E.how f = some .inl → Rep base G0 own0 sz fr c st a → All2 (VOk c) vs us →
  (∀ pv st' c' v, T (next pv st') → Rep base G0 own0 sz fr c' st' a → VOk c' pv v → Kw v c'.w) →
  (callFunc f us.toArray).run E.P c.w = .ok (.enter f us.toArray) c.w ∧ Calls E.P f us.toArray c.w fun e w' => ∃ v, e = .returned v ∧ Kw v w'
theorem e3L {E : Env} (hE : EnvOk E) {R : Type} {T : R → Prop} {fail : R} (hf : ¬ T fail) {inl : Nat → FuncId → List PV → St → (PV → St → R) → R} (hI : g3I E base G0 own0 sz fr T inl) (ops : Array Oper) {Q : Exit → Act → World → Prop} {K : St → R}
  (hK : ∀ st c a, T (K st) → Rep base G0 own0 sz fr c st a → Q .normal a c.w) : ∀ (l : List Oper) (pre : List Oper) (st : St) (c : Cx) (a : Act), ops.toList = pre ++ l → T (c9X E fail inl ops pre.length l st K) → Rep base G0 own0 sz fr c st a →
  wpOps E.P ops Q (List.range' pre.length l.length) a c.w := by
 intro l
 induction l with
 | nil => intro pre st c a _ h hr; exact hK st c a h hr
 | cons o l ih =>
  intro pre st c a ho h hr
  have hget : ops[pre.length]? = some o := by
   rw [← Array.getElem?_toList, ho]
   simp
  have ho' : ops.toList = (pre ++ [o]) ++ l := by simp [ho]
  have ih := fun st c a h hr => ih (pre ++ [o]) st c a ho' h hr
  simp only [List.length_append, List.length_singleton] at ih
  simp only [List.length_cons, List.range'_succ]
  simp only [wpOps, hget]
  simp only [c9X] at h
  rcases d0G hf h with ⟨h, hg⟩ | ⟨h, hg⟩
  ·
   rw [if_pos (hg.of_rep hr.slots)]
   left
   have ha := f1M hr.slots o
   split at h
   ·
    rename_i f vs hinl
    rw [← hr.heap] at hinl
    obtain ⟨hhow, us, hus, hex⟩ := e2N (fun id t h => (hE.ty id t h).ok) hE.meth hr.mem hinl ha
    obtain ⟨h1, h2⟩ := hI pre.length f vs st _ c a us (fun v w' => wpOps E.P ops Q (List.range' (pre.length + 1) l.length) (a.put o.dst v) w') h hhow hr hus (fun pv st' c' v ht hr' hv => ih _ _ _ ht (hr'.put (Ext.refl c') hr'.mem rfl hv o.dst))
    unfold Oper.wp
    rw [hex, h1]
    refine Calls.mono h2 ?_
    rintro e w' ⟨v, rfl, hv⟩
    exact hv
   ·
    split at h
    ·
     rename_i g C vs hvia
     rw [← hr.heap] at hvia
     obtain ⟨hhow, us, hus, hex⟩ := e3Y (fun id t h => (hE.ty id t h).ok) hE.meth hr.mem hvia ha
     obtain ⟨pv, δ, ht, hok⟩ := c6L hf (hE.con _ _ hhow) h
     refine hok base G0 own0 o a c us hr.mem (fun b _ => by rw [hr.heap]) hus hex (fun p _ hp => by rw [hr.heap]; exact b0X _ _ hp) (fun p _ _ => by rw [hr.heap]) _ _ fun v c' hE' hM' hH' hv => ?_
     exact ih _ _ _ ht (hr.put hE' hM' hH' hv o.dst)
    ·
     split at h
     ·
      rename_i op px hnil
      unfold f2Z at hnil
      split at hnil
      ·
       rename_i op' id xo yo yt hop
       split at hnil
       ·
        rename_i px' hargs
        split at hnil
        ·
         rename_i t ht
         simp only [Option.some.injEq, Prod.mk.injEq] at hnil
         obtain ⟨rfl, rfl⟩ := hnil
         rw [hargs, hop] at ha
         have ha : All2 (VOk c) [px', .nils] [a.eval xo, a.eval yo] := ha
         rw [← hr.heap] at h
         obtain ⟨hop2, ad, n, cap, e1, h⟩ := f2I hf hr.mem h ha.1
         have e2 : a.eval yo = .slice none 0 0 := by
          obtain ⟨cs, k1, k2⟩ := ha.2.1
          simp only [a0W] at k1
          subst k1; exact k2
         obtain ⟨_, e, hu, _⟩ := (hE.ty _ _ ht).ok
         refine a1A hr.mem (d7Q hu hop hop2 e1 e2 c.w) (b1A _) _ _ fun v c' hE' hM' hH' hv => ?_
         exact ih _ _ _ h (hr.put hE' hM' hH' hv o.dst)
        ·
         cases hnil
       ·
        cases hnil
      ·
       cases hnil
     ·
      obtain ⟨pv, δ, ht, hok⟩ := d9R hE hf h
      refine hok base G0 own0 a c hr.mem (fun b _ => by rw [hr.heap]) ha (fun p _ hp => by rw [hr.heap]; exact b0X _ _ hp) (fun p _ _ => by rw [hr.heap]) _ _ fun v c' hE' hM' hH' hv => ?_
      exact ih _ _ _ ht (hr.put hE' hM' hH' hv o.dst)
  ·
   rw [if_neg (by rw [hg.of_rep hr.slots]; simp)]
   exact ih _ _ _ h (hr.put (Ext.refl c) hr.mem rfl c9J o.dst)
end
end Sym

/- A region whose operations may come in any order that its edges allow. -/
namespace Sym
open Go
section
variable {X : Type} (w : Nat → Nat → Option X) (init : Nat → X)
def b7V (L : Nat → Bool) : Nat → Nat → X
 | 0, k => init k
 | n + 1, k => match L n with
  | true => match w n k with
   | some x => x
   | none => b7V L n k
  | false => b7V L n k
theorem b3C {L L' : Nat → Bool} {k : Nat} : ∀ (n : Nat), (∀ j, j < n → L j ≠ L' j → w j k = none) → b7V w init L n k = b7V w init L' n k
 | 0, _ => rfl
 | n + 1, h => by
  have ih := b3C n fun j hj => h j (by omega)
  simp only [b7V]
  by_cases hn : L n = L' n
  ·
   rw [hn, ih]
  ·
   have := h n (by omega) hn
   rw [this, ih]
   cases L n <;> cases L' n <;> rfl
theorem c0D {L L' : Nat → Bool} {i k : Nat} (hi : L i = false) (hL' : ∀ j, L' j = if j = i then true else L j) : ∀ (n : Nat), i < n → (∀ j, i < j → j < n → L j = true → w j k = none ∨ w i k = none) →
  b7V w init L' n k = match w i k with | some x => x | none => b7V w init L n k := by
 cases hw : w i k with
 | none =>
  intro n _ _
  refine b3C w init n fun j _ hne => ?_
  by_cases hji : j = i
  ·
   subst hji; exact hw
  ·
   rw [hL', if_neg hji] at hne; exact absurd rfl hne
 | some x =>
  intro n
  induction n with
  | zero => intro h; omega
  | succ n ih =>
   intro hin h
   simp only [b7V]
   by_cases hn : n = i
   ·
    subst hn
    rw [hL', if_pos rfl, hw]
   ·
    have ih := ih (by omega) fun j h1 h2 => h j h1 (by omega)
    simp only at ih
    rw [hL', if_neg hn]
    cases hLn : L n with
    | false => exact ih
    | true =>
     have := (h n (by omega) (by omega) hLn).resolve_right (by simp)
     simp only [this]
     exact ih
end
def lk : List (Nat × Blk) → Nat → Option Blk
 | [], _ => none
 | (i, x) :: l, b => match lk l b with
  | some y => some y
  | none => if b = i then some x else none
theorem c0U : ∀ (δ : List (Nat × Blk)) (H : List Blk) (b : Nat), a0H (a1X H δ) b = match lk δ b with | some x => x | none => a0H H b
 | [], _, _ => rfl
 | (i, x) :: l, H, b => by
  simp only [a1X, lk]
  rw [c0U l]
  cases h : lk l b with
  | some y => rfl
  | none =>
   simp only
   rw [a4F]
   split
   ·
    rfl
   ·
    rfl
theorem c8C : ∀ (δ : List (Nat × Blk)) (b : Nat), b ∉ δ.map (·.1) → lk δ b = none
 | [], _, _ => rfl
 | (i, x) :: l, b, h => by
  simp only [List.map_cons, List.mem_cons, not_or] at h
  simp only [lk]
  rw [c8C l b h.2]
  simp [h.1]
def Disj (l r : List Nat) : Prop := ∀ x, x ∈ l → x ∉ r
def Fine (m : Nat) (e : Ent) (rd wr : List Nat) : Prop := m.testBit e.i = true ∨ (Disj e.wr rd ∧ Disj e.wr wr ∧ Disj e.rd wr)
theorem d6I : ∀ (b : Nat) (l : List Nat), memN b l = true ↔ b ∈ l
 | b, [] => by simp [memN]
 | b, c :: l => by simp [memN, d6I b l, Nat.beq_eq]
theorem c9C : ∀ (l r : List Nat), disj l r = true → Disj l r
 | [], r, _, x, hx => by simp at hx
 | b :: l, r, h, x, hx => by
  simp only [disj, Bool.and_eq_true, Bool.not_eq_true'] at h
  simp only [List.mem_cons] at hx
  rcases hx with rfl | hx
  ·
   intro hr; rw [(d6I x r).2 hr] at h; cases h.1
  ·
   exact c9C l r h.2 x hx
theorem d5X : ∀ (log : List Ent) (m : Nat) (rd wr : List Nat), e3P m rd wr log = true → ∀ e ∈ log, Fine m e rd wr
 | [], _, _, _, _, e, he => by simp at he
 | e0 :: log, m, rd, wr, h, e, he => by
  simp only [e3P, Bool.and_eq_true, Bool.or_eq_true] at h
  simp only [List.mem_cons] at he
  rcases he with rfl | he
  ·
   exact h.1.imp id fun h => ⟨c9C _ _ h.1, c9C _ _ h.2.1, c9C _ _ h.2.2⟩
  ·
   exact d5X log m rd wr h.2 e he
theorem d1Q : ∀ (l : List Oper) (acc : List Nat), ∃ r, masks l acc = acc ++ r
 | [], acc => ⟨[], by simp [masks]⟩
 | o :: l, acc => by
  obtain ⟨r, hr⟩ := d1Q l (acc ++ [c1Q acc o])
  exact ⟨c1Q acc o :: r, by simp [masks, hr]⟩
theorem d1H : ∀ (l : List Oper) (acc : List Nat) (j : Nat) (o : Oper), l[j]? = some o → (masks l acc).getD (acc.length + j) 0 = c1Q ((masks l acc).take (acc.length + j)) o
 | [], _, _, _, h => by simp at h
 | o0 :: l, acc, 0, o, h => by
  simp only [List.getElem?_cons_zero, Option.some.injEq] at h
  subst h
  obtain ⟨r, hr⟩ := d1Q l (acc ++ [c1Q acc o0])
  simp only [masks, hr]
  simp
 | o0 :: l, acc, j + 1, o, h => by
  have := d1H l (acc ++ [c1Q acc o0]) j o (by simpa using h)
  simp only [List.length_append, List.length_singleton] at this
  simp only [masks]
  rw [show acc.length + (j + 1) = acc.length + 1 + j by omega]
  exact this
theorem e3J (acc : List Nat) (o : Oper) (i : Nat) (h : (c1Q acc o).testBit i = true) : ∃ e ∈ o.after, Region.binds .any e = true ∧ (i = e.on ∨ (acc.getD e.on 0).testBit i = true) := by
 unfold c1Q at h
 have key : ∀ (l : List Edge) (s : Nat), (l.foldl (fun s e => match Region.binds .any e with | true => (s ||| 2 ^ e.on) ||| acc.getD e.on 0 | false => s) s).testBit i = true → s.testBit i = true ∨ ∃ e ∈ l, Region.binds .any e = true ∧ (i = e.on ∨ (acc.getD e.on 0).testBit i = true) := by
  intro l
  induction l with
  | nil => intro s h; exact .inl h
  | cons e l ih =>
   intro s h
   simp only [List.foldl_cons] at h
   rcases ih _ h with h | ⟨e', he', h'⟩
   ·
    split at h
    ·
     rename_i hb
     simp only [Nat.testBit_or, Bool.or_eq_true, Nat.testBit_two_pow, decide_eq_true_eq] at h
     rcases h with (h | h) | h
     ·
      exact .inl h
     ·
      exact .inr ⟨e, by simp, hb, .inl h.symm⟩
     ·
      exact .inr ⟨e, by simp, hb, .inr h⟩
    ·
     exact .inl h
   ·
    exact .inr ⟨e', by simp [he'], h'⟩
 rcases key _ _ h with h | ⟨e, he, h⟩
 ·
  simp at h
 ·
  exact ⟨e, by simpa using he, h⟩
def Closed (ops : Array Oper) (L : Nat → Bool) : Prop := ∀ j o, ops[j]? = some o → L j = true → ∀ e ∈ o.after, Region.binds .any e = true → L e.on = true
theorem c3B {ops : Array Oper} {L : Nat → Bool} (hC : Closed ops L) : ∀ (j : Nat) (o : Oper), ops[j]? = some o → (∀ e ∈ o.after, Region.binds .any e = true → L e.on = true) → ∀ i, ((masks ops.toList []).getD j 0).testBit i = true → L i = true := by
 intro j
 induction j using Nat.strongRecOn with
 | _ j ih =>
  intro o ho hd i hi
  have := d1H ops.toList [] j o (by rw [Array.getElem?_toList]; exact ho)
  simp only [List.length_nil, Nat.zero_add] at this
  rw [this] at hi
  obtain ⟨e, he, hb, h⟩ := e3J _ _ _ hi
  rcases h with rfl | h
  ·
   exact hd e he hb
  ·
   by_cases hlt : e.on < j
   ·
    have hoe : ∃ o', ops[e.on]? = some o' := by
     have := (Array.getElem?_eq_some_iff.1 ho).1
     exact ⟨ops[e.on]'(by omega), Array.getElem?_eq_getElem (by omega)⟩
    obtain ⟨o', ho'⟩ := hoe
    refine ih e.on hlt o' ho' (hC e.on o' ho' (hd e he hb)) i ?_
    have : ((masks ops.toList []).take j).getD e.on 0 = (masks ops.toList []).getD e.on 0 := by
     simp [List.getD_eq_getElem?_getD, List.getElem?_take, hlt]
    rw [this] at h
    exact h
   ·
    have : ((masks ops.toList []).take j).getD e.on 0 = 0 := by
     rw [List.getD_eq_getElem?_getD, List.getElem?_eq_none (by simp; omega)]
     rfl
    rw [this] at h
    simp at h
def cnt (L : Nat → Bool) : Nat → Nat
 | 0 => 0
 | n + 1 => cnt L n + if L n then 0 else 1
theorem d8Q {L L' : Nat → Bool} {i : Nat} (hi : L i = false) (hL' : ∀ j, L' j = if j = i then true else L j) : ∀ (n : Nat), (i < n → cnt L' n + 1 = cnt L n) ∧ (n ≤ i → cnt L' n = cnt L n)
 | 0 => ⟨fun h => by omega, fun _ => rfl⟩
 | n + 1 => by
  obtain ⟨h1, h2⟩ := d8Q hi hL' n
  refine ⟨fun h => ?_, fun h => ?_⟩
  ·
   by_cases hn : n = i
   ·
    subst hn
    have := h2 (Nat.le_refl _)
    simp [cnt, hL', hi, this]
   ·
    have := h1 (by omega)
    simp only [cnt, hL', if_neg hn]
    omega
  ·
   have := h2 (by omega)
   simp only [cnt, hL', if_neg (show n ≠ i by omega), this]
theorem d6B {L : Nat → Bool} : ∀ (n : Nat), cnt L n = 0 → ∀ j, j < n → L j = true
 | 0, _, j, h => by omega
 | n + 1, h, j, hj => by
  simp only [cnt] at h
  by_cases hn : L n = true
  ·
   by_cases hjn : j = n
   ·
    subst hjn; exact hn
   ·
    exact d6B n (by omega) j (by omega)
  ·
   simp [hn] at h
theorem least {L : Nat → Bool} (n : Nat) (j : Nat) (hj : j < n) (h : L j = false) : ∃ i, i < n ∧ L i = false ∧ ∀ k, k < i → L k = true := by
 induction j using Nat.strongRecOn with
 | _ j ih =>
  by_cases hex : ∃ k, k < j ∧ L k = false
  ·
   obtain ⟨k, h1, h2⟩ := hex
   exact ih k h1 (by omega) h2
  ·
   refine ⟨j, hj, h, fun k hk => ?_⟩
   cases hb : L k with
   | true => rfl
   | false => exact absurd ⟨k, hk, hb⟩ hex
end Sym

/- A region whose order is drawn: it does what the text's order does. -/
namespace Sym
open Go
section
variable {base : World} {G0 own0 : Nat → Prop} {sz : Nat} {fr : List (List Value)}
structure Walk (E : Env) (ops : Array Oper) (ms : List Nat) (i n : Nat) (S : Nat → St) (rn : Nat → Bool) (pv : Nat → PV) (δ : Nat → List (Nat × Blk)) : Prop where
 at_ : ∀ j, i ≤ j → j < n → ∃ o, ops[j]? = some o ∧ S (j + 1) = (S j).put o.dst (pv j) (δ j) ∧ GuardIs ops o (a5G (S j).slots) (rn j) ∧
  (rn j = true → OpOk E o (a9L o (S j)) (rdOf o (a9L o (S j))) (S j).heap (S j).heap.length (pv j) (δ j)) ∧ (rn j = false → pv j = b8U ∧ δ j = [])
 fine : ∀ j k o o', i ≤ k → k < j → j < n → ops[j]? = some o → ops[k]? = some o' → rn k = true → rn j = true → Fine (ms.getD j 0) ⟨k, rdOf o' (a9L o' (S k)), (δ k).map (·.1)⟩ (rdOf o (a9L o (S j))) ((δ j).map (·.1))
theorem e0O {E : Env} (hE : EnvOk E) {R : Type} {T : R → Prop} {fail : R} (hf : ¬ T fail) (ops : Array Oper) (ms : List Nat) {K : St → R} :
  ∀ (l pre : List Oper) (log : List Ent) (st : St), ops.toList = pre ++ l → T (c3P E fail ops ms pre.length l log st K) →
  ∃ S rn pv δ, S pre.length = st ∧ T (K (S (pre.length + l.length))) ∧ Walk E ops ms pre.length (pre.length + l.length) S rn pv δ ∧
   ∀ j o, pre.length ≤ j → j < pre.length + l.length → ops[j]? = some o → rn j = true → ∀ e ∈ log, Fine (ms.getD j 0) e (rdOf o (a9L o (S j))) ((δ j).map (·.1)) := by
 intro l
 induction l with
 | nil =>
  intro pre log st _ h
  exact ⟨fun _ => st, fun _ => true, fun _ => .undef, fun _ => [], rfl, h, ⟨fun j h1 h2 => by simp at h2; omega, fun j k o o' h1 h2 h3 => by simp at h3; omega⟩, fun j o h1 h2 => by simp at h2; omega⟩
 | cons o l ih =>
  intro pre log st ho h
  have hget : ops[pre.length]? = some o := by
   rw [← Array.getElem?_toList, ho]
   simp
  have ho' : ops.toList = (pre ++ [o]) ++ l := by simp [ho]
  simp only [c3P] at h
  have build : ∀ (log' : List Ent) (b : Bool) (p : PV) (d : List (Nat × Blk)), T (c3P E fail ops ms (pre.length + 1) l log' (st.put o.dst p d) K) → GuardIs ops o (a5G st.slots) b →
    (b = true → OpOk E o (a9L o st) (rdOf o (a9L o st)) st.heap st.heap.length p d ∧ log' = ⟨pre.length, rdOf o (a9L o st), d.map (·.1)⟩ :: log ∧ ∀ e ∈ log, Fine (ms.getD pre.length 0) e (rdOf o (a9L o st)) (d.map (·.1))) →
    (b = false → p = b8U ∧ d = [] ∧ log' = log) → ∃ S rn pv δ, S pre.length = st ∧ T (K (S (pre.length + (o :: l).length))) ∧ Walk E ops ms pre.length (pre.length + (o :: l).length) S rn pv δ ∧
   ∀ j o', pre.length ≤ j → j < pre.length + (o :: l).length → ops[j]? = some o' → rn j = true → ∀ e ∈ log, Fine (ms.getD j 0) e (rdOf o' (a9L o' (S j))) ((δ j).map (·.1)) := by
   intro log' b p d h hg hb1 hb0
   obtain ⟨S, rn, pv, δ, g1, g2, g3, g4⟩ := ih (pre ++ [o]) log' (st.put o.dst p d) ho' (by simpa using h)
   simp only [List.length_append, List.length_singleton] at g1 g2 g3 g4
   have hlen : pre.length + (o :: l).length = pre.length + 1 + l.length := by simp; omega
   have hlog : ∀ e ∈ log, e ∈ log' := by
    intro e he
    cases b with
    | true => rw [(hb1 rfl).2.1]; exact List.mem_cons_of_mem _ he
    | false => rw [(hb0 rfl).2.2]; exact he
   rw [hlen]
   refine ⟨fun k => if k = pre.length then st else S k, fun k => if k = pre.length then b else rn k, fun k => if k = pre.length then p else pv k, fun k => if k = pre.length then d else δ k, by simp, ?_, ⟨?_, ?_⟩, ?_⟩
   ·
    simp only
    rw [if_neg (by omega)]
    exact g2
   ·
    intro j h1 h2
    by_cases hj : j = pre.length
    ·
     subst hj
     refine ⟨o, hget, ?_, ?_, ?_, ?_⟩
     ·
      simp [g1]
     ·
      simpa using hg
     ·
      intro hb
      simp only [if_true] at hb ⊢
      exact (hb1 hb).1
     ·
      intro hb
      simp only [if_true] at hb ⊢
      exact ⟨(hb0 hb).1, (hb0 hb).2.1⟩
    ·
     simp only [if_neg hj, if_neg (show j + 1 ≠ pre.length by omega)]
     exact g3.at_ j (by omega) h2
   ·
    intro j k q q' h1 h2 h3 hq hq' hk hj
    have hjn : j ≠ pre.length := by omega
    simp only [if_neg hjn] at hj ⊢
    by_cases hkp : k = pre.length
    ·
     subst hkp
     simp only [if_true] at hk ⊢
     have : q' = o := by rw [hget] at hq'; exact (Option.some.inj hq').symm
     subst this
     exact g4 j q (by omega) h3 hq hj _ (by rw [(hb1 hk).2.1]; simp)
    ·
     simp only [if_neg hkp] at hk ⊢
     exact g3.fine j k q q' (by omega) h2 h3 hq hq' hk hj
   ·
    intro j q h1 h2 hq hj e he
    by_cases hjp : j = pre.length
    ·
     subst hjp
     simp only [if_true] at hj ⊢
     have : q = o := by rw [hget] at hq; exact (Option.some.inj hq).symm
     subst this
     exact (hb1 hj).2.2 e he
    ·
     simp only [if_neg hjp] at hj ⊢
     exact g4 j q (by omega) h2 hq hj e (hlog e he)
  rcases d0G hf h with ⟨h, hg⟩ | ⟨h, hg⟩
  ·
   obtain ⟨p, d, ht, hok⟩ := d9R hE hf h
   simp only at ht
   split at ht
   ·
    rename_i he
    exact build _ true p d ht hg (fun _ => ⟨hok, rfl, d5X _ _ _ _ he⟩) (fun h => by cases h)
   ·
    exact absurd ht hf
  ·
   exact build _ false b8U [] h hg (fun h => by cases h) (fun _ => ⟨rfl, rfl, rfl⟩)
theorem e3I {c : Cx} {st : St} {ops : Array Oper} {o : Oper} {a : Act} (h : ∀ d ∈ o.looksAt ops, VOk c (a5G st.slots d) (a.tmps.getD d undef)) : All2 (VOk c) (a9L o st) (o.op.operands.toList.map a.eval) := by
 unfold a9L
 have key : ∀ l : List Operand, (∀ t, Operand.tmp t ∈ l → VOk c (a5G st.slots t) (a.tmps.getD t undef)) → All2 (VOk c) (l.map (opd st.slots)) (l.map a.eval) := by
  intro l
  induction l with
  | nil => intro _; trivial
  | cons x l ih =>
   intro h
   refine ⟨?_, ih fun t ht => h t (by simp [ht])⟩
   cases x with
   | tmp t => exact h t (by simp)
   | const v => exact d4R _ v
   | global g => exact trivial
   | func f => exact ⟨_, rfl, rfl⟩
 refine key _ fun t ht => h t ?_
 unfold Oper.looksAt
 exact List.mem_append_left _ (List.mem_filterMap.2 ⟨.tmp t, ht, rfl⟩)
theorem c7Q {ops : Array Oper} {ms : List Nat} (h : b8H ops ms = true) {i j : Nat} {x y : Oper} (hij : i < j) (hi : ops[i]? = some x) (hj : ops[j]? = some y) (hb : (ms.getD j 0).testBit i = false) : Oper.apart ops x y = true := by
 unfold b8H at h
 rw [List.all_eq_true] at h
 have := h j (List.mem_range.2 (Array.getElem?_eq_some_iff.1 hj).1)
 simp only [hj, Bool.and_eq_true] at this
 have := this.2
 rw [List.all_eq_true] at this
 have := this i (List.mem_range.2 hij)
 simp only [hi, hb, Bool.false_or] at this
 exact this
theorem f0J {ops : Array Oper} {ms : List Nat} (h : b8H ops ms = true) {j : Nat} {y : Oper} (hj : ops[j]? = some y) : ∀ e ∈ y.after, Region.binds .any e = true → e.on < j := by
 unfold b8H at h
 rw [List.all_eq_true] at h
 have := h j (List.mem_range.2 (Array.getElem?_eq_some_iff.1 hj).1)
 simp only [hj, Bool.and_eq_true] at this
 have := this.1
 rw [List.all_eq_true] at this
 intro e he hb
 have := this e (by simpa using he)
 simp only [hb, Bool.not_true, Bool.false_or] at this
 exact Nat.le_of_ble_eq_true this
def wS (ops : Array Oper) (len : Nat) (pv : Nat → PV) (j d : Nat) : Option PV :=
 match ops[j]? with
 | some o => if o.dst = some d ∧ d < len then some (pv j) else none
 | none => none
def wH (δ : Nat → List (Nat × Blk)) (j b : Nat) : Option Blk := lk (δ j) b
theorem c7D : ∀ (vs : List PV) (d e : Nat) (v : PV), a5G (setAt vs d v) e = if e = d ∧ d < vs.length then v else a5G vs e
 | [], d, e, v => by simp [setAt]
 | _ :: _, 0, 0, v => by simp [setAt, a5G]
 | _ :: _, 0, e + 1, v => by simp [setAt, a5G]
 | _ :: _, d + 1, 0, v => by simp [setAt, a5G]
 | x :: vs, d + 1, e + 1, v => by simp [setAt, a5G, c7D vs d e v]
theorem d7O (st : St) (d : Option Nat) (p : PV) (δ : List (Nat × Blk)) (e : Nat) : a5G (st.put d p δ).slots e = if d = some e ∧ e < st.slots.length then p else a5G st.slots e := by
 cases d with
 | none => simp [St.put, c8D]
 | some d =>
  simp only [St.put, c8D, c7D, Option.some.injEq]
  by_cases h : e = d
  ·
   subst h; simp
  ·
   rw [if_neg (by simp [h]), if_neg (by rintro ⟨h', _⟩; exact h h'.symm)]
theorem f0E (st : St) (d : Option Nat) (p : PV) (δ : List (Nat × Blk)) : (st.put d p δ).slots.length = st.slots.length := by
 cases d <;> simp [St.put, c8D, b9F]
theorem d0E {E : Env} {ops : Array Oper} {ms : List Nat} {n : Nat} {S : Nat → St} {rn : Nat → Bool} {pv : Nat → PV} {δ : Nat → List (Nat × Blk)} (hW : Walk E ops ms 0 n S rn pv δ) : ∀ i, i ≤ n →
  (S i).slots.length = (S 0).slots.length ∧ (S i).stk = (S 0).stk ∧ (∀ d, a5G (S i).slots d = b7V (wS ops (S 0).slots.length pv) (a5G (S 0).slots) (fun j => decide (j < i)) n d) ∧
  ∀ b, a0H (S i).heap b = b7V (wH δ) (a0H (S 0).heap) (fun j => decide (j < i)) n b := by
 have zero : ∀ {X : Type} (w : Nat → Nat → Option X) (init : Nat → X) (n k : Nat), b7V w init (fun j => decide (j < 0)) n k = init k := by
  intro X w init n k
  induction n with
  | zero => rfl
  | succ n ih => simp [b7V] at ih ⊢; exact ih
 intro i
 induction i with
 | zero => intro _; exact ⟨rfl, rfl, fun d => (zero _ _ _ _).symm, fun b => (zero _ _ _ _).symm⟩
 | succ i ih =>
  intro hi
  obtain ⟨h1, h2, h3, h4⟩ := ih (by omega)
  obtain ⟨o, ho, hS, _⟩ := hW.at_ i (Nat.zero_le _) (by omega)
  have hL : ∀ j, (decide (j < i + 1)) = if j = i then true else decide (j < i) := by
   intro j
   by_cases hj : j = i
   ·
    simp [hj]
   ·
    rw [if_neg hj]
    by_cases hlt : j < i
    ·
     simp [hlt]; omega
    ·
     simp [hlt]; omega
  have hnot : decide (i < i) = false := by simp
  refine ⟨by rw [hS, f0E, h1], by rw [hS]; exact h2, fun d => ?_, fun b => ?_⟩
  ·
   rw [hS, d7O, c0D _ _ (L := fun j => decide (j < i)) hnot hL n (by omega) (fun j h1 _ h => by simp at h; omega), h3, h1]
   simp only [wS, ho]
   split <;> rfl
  ·
   rw [hS]
   show a0H (a1X (S i).heap (δ i)) b = _
   rw [c0U, c0D _ _ (L := fun j => decide (j < i)) hnot hL n (by omega) (fun j h1 _ h => by simp at h; omega), h4]
   cases h : lk (δ i) b <;> simp [wH, h]
end
end Sym

/- A region whose order is drawn: any order. -/
namespace Sym
open Go
theorem Mem.swap {base : World} {G0 own0 : Nat → Prop} {c : Cx} (hM : Mem base G0 own0 c) {w' : World} {H' : List Blk} (hos : w'.os = c.w.os) (ht : w'.tape = c.w.tape) (ho : w'.output = c.w.output) (hh : w'.heap = c.w.heap) (hH : ∀ b, a0H H' b = a0H c.H b) :
  Ext c (Cx.next base G0 w' c.ρ H') ∧ Mem base G0 own0 (Cx.next base G0 w' c.ρ H') := by
 have hT : Turn base G0 own0 c (Cx.next base G0 w' c.ρ H') (fun _ => False) :=
  ⟨hos, ht, ho, by simp [Cx.next, hh], fun _ _ => rfl, fun b _ => hH b, fun r _ _ => by simp [Cx.next, hh], fun _ h => h.elim, fun _ _ h => h.elim, fun _ _ _ h => h.elim, rfl⟩
 exact ⟨hT.ext hM, hT.mem hM fun b h => h.elim⟩
theorem b9B {c : Cx} : ∀ {vs : List PV} {us : List Value}, vs.length = us.length → (∀ d, VOk c (a5G vs d) (us.getD d undef)) → All2 (VOk c) vs us
 | [], [], _, _ => trivial
 | v :: vs, u :: us, h, hh => ⟨hh 0, b9B (by simpa using h) fun d => by have := hh (d + 1); simpa [a5G] using this⟩
 | [], _ :: _, h, _ => by simp at h
 | _ :: _, [], h, _ => by simp at h
section
variable {base : World} {G0 own0 : Nat → Prop} {sz : Nat} {fr : List (List Value)}
structure Inv (base : World) (G0 own0 : Nat → Prop) (sz : Nat) (fr : List (List Value)) (ops : Array Oper) (S0 : St) (pv : Nat → PV) (δ : Nat → List (Nat × Blk)) (L : Nat → Bool) (c : Cx) (a : Act) : Prop where
 mem : Mem base G0 own0 c
 heap : ∀ b, a0H c.H b = b7V (wH δ) (a0H S0.heap) L ops.size b
 slots : ∀ d, VOk c (b7V (wS ops S0.slots.length pv) (a5G S0.slots) L ops.size d) (a.tmps.getD d undef)
 stk : All2 (All2 (VOk c)) S0.stk fr
 size : a.tmps.size = sz
 len : S0.slots.length = sz
 defers : a.defers = []
theorem e2T (a : Act) (d : Option Tmp) (v : Value) (e : Nat) : (a.put d v).tmps.getD e undef = if d = some e ∧ e < a.tmps.size then v else a.tmps.getD e undef := by
 cases d with
 | none => simp [Act.put]
 | some d =>
  simp only [Act.put, Option.some.injEq, Array.getD_eq_getD_getElem?, Array.getElem?_setIfInBounds]
  by_cases h : d = e
  ·
   subst h
   by_cases h2 : d < a.tmps.size
   ·
    simp [h2]
   ·
    simp [h2]
  ·
   rw [if_neg h, if_neg (by simp [h])]
theorem d7Y {E : Env} (hE : EnvOk E) {ops : Array Oper} {S : Nat → St} {rn : Nat → Bool} {pv : Nat → PV} {δ : Nat → List (Nat × Blk)} (hA : b8H ops (masks ops.toList []) = true) (hW : Walk E ops (masks ops.toList []) 0 ops.size S rn pv δ)
  {Q : Exit → Act → World → Prop} (hQ : ∀ c a, Rep base G0 own0 sz fr c (S ops.size) a → Q .normal a c.w) :
  ∀ (fuel : Nat) (listed : Array Bool) (a : Act) (c : Cx), listed.size = ops.size → cnt (fun j => listed.getD j false) ops.size ≤ fuel → Closed ops (fun j => listed.getD j false) → Inv base G0 own0 sz fr ops (S 0) pv δ (fun j => listed.getD j false) c a → wpAny E.P .any ops Q fuel listed a c.w := by
 have fin : ∀ (listed : Array Bool) (a : Act) (c : Cx), (∀ j, j < ops.size → listed.getD j false = true) → Inv base G0 own0 sz fr ops (S 0) pv δ (fun j => listed.getD j false) c a → Q .normal a c.w := by
  intro listed a c hall hI
  obtain ⟨h1, h2, h3, h4⟩ := d0E hW ops.size (Nat.le_refl _)
  have hL : ∀ j, j < ops.size → (fun j => decide (j < ops.size)) j = (fun j => listed.getD j false) j := fun j hj => by simp only [hall j hj]; simpa using hj
  obtain ⟨hE', hM'⟩ := hI.mem.swap (w' := c.w) (H' := (S ops.size).heap) rfl rfl rfl rfl (fun b => by rw [h4 b, hI.heap b]; exact b3C _ _ _ fun j hj hne => absurd (hL j hj) hne)
  refine hQ (Cx.next base G0 c.w c.ρ (S ops.size).heap) a ⟨hM', rfl, b9B (by rw [h1, hI.len, ← hI.size]; simp) fun d => ?_, ?_, hI.size, hI.defers⟩
  ·
   rw [← getD_toList, h3 d, b3C _ _ _ fun j hj hne => absurd (hL j hj) hne]
   exact c4S hE' (hI.slots d)
  ·
   rw [h2]; exact All2.mono (fun _ _ hl => All2.mono (fun _ _ => c4S hE') _ _ hl) _ _ hI.stk
 have getD_lt : ∀ (listed : Array Bool) (j : Nat) (x y : Bool), j < listed.size → listed.getD j x = listed.getD j y := fun listed j x y h => by simp [h]
 intro fuel
 induction fuel with
 | zero =>
  intro listed a c hsz hc hC hI
  have hall := d6B ops.size (Nat.le_zero.1 hc)
  refine ⟨?_, fin listed a c hall hI⟩
  rw [List.eq_nil_iff_forall_not_mem]
  intro j hj
  obtain ⟨h1, o, ho, _⟩ := mem_ready.1 hj
  have hlt := (Array.getElem?_eq_some_iff.1 ho).1
  have h2 : listed.getD j false = true := hall j hlt
  rw [getD_lt listed j false true (by omega)] at h2
  rw [h1] at h2; cases h2
 | succ fuel ih =>
  intro listed a c hsz hc hC hI
  refine ⟨fun hempty => fin listed a c (fun j hj => ?_) hI, fun i hi => ?_⟩
  ·
   cases hb : listed.getD j false with
   | true => rfl
   | false =>
    obtain ⟨i, h1, h2, h3⟩ := least (L := fun j => listed.getD j false) ops.size j hj hb
    have : i ∈ Region.ready .any ops listed := by
     refine mem_ready.2 ⟨by rw [getD_lt listed i true false (by omega)]; exact h2, ops[i], Array.getElem?_eq_getElem h1, fun e he hbd => ?_⟩
     exact h3 _ (f0J hA (Array.getElem?_eq_getElem h1) e he hbd)
    rw [hempty] at this; cases this
  ·
   obtain ⟨h1, o, ho, hd⟩ := mem_ready.1 hi
   have hlt := (Array.getElem?_eq_some_iff.1 ho).1
   have hLi : listed.getD i false = false := by rw [getD_lt listed i false true (by omega)]; exact h1
   obtain ⟨o', ho', hS, hG, hrun, hskip⟩ := hW.at_ i (Nat.zero_le _) hlt
   have : o' = o := by rw [ho] at ho'; exact (Option.some.inj ho').symm
   subst this
   obtain ⟨hlen, hstk, htS, htH⟩ := d0E hW i (by omega)
   have hun : ∀ j, j < ops.size → listed.getD j false ≠ decide (j < i) → (j < i ∧ ((masks ops.toList []).getD i 0).testBit j = false) ∨ (i < j ∧ listed.getD j false = true ∧ ((masks ops.toList []).getD j 0).testBit i = false) := by
    intro j hj hne
    by_cases hji : j < i
    ·
     left
     refine ⟨hji, ?_⟩
     cases hb : ((masks ops.toList []).getD i 0).testBit j with
     | false => rfl
     | true =>
      have : listed.getD j false = true := c3B hC i o' ho hd j hb
      rw [this] at hne
      simp [hji] at hne
    ·
     right
     have hLj : listed.getD j false = true := by
      cases hb : listed.getD j false with
      | true => rfl
      | false => rw [hb] at hne; simp [hji] at hne
     have hij : i < j := by
      rcases Nat.lt_or_ge i j with h | h
      ·
       exact h
      ·
       have : j = i := by omega
       subst this; rw [hLi] at hLj; cases hLj
     refine ⟨hij, hLj, ?_⟩
     cases hb : ((masks ops.toList []).getD j 0).testBit i with
     | false => rfl
     | true =>
      have hoj := Array.getElem?_eq_getElem hj
      have : listed.getD i false = true := c3B hC j _ hoj (hC j _ hoj hLj) i hb
      rw [hLi] at this; cases this
   have hlater : ∀ j, i < j → j < ops.size → listed.getD j false = true → ((masks ops.toList []).getD j 0).testBit i = false := by
    intro j hij hj hLj
    rcases hun j hj (by rw [hLj]; simp; omega) with h | h
    ·
     omega
    ·
     exact h.2.2
   have hslot : ∀ d ∈ o'.looksAt ops, VOk c (a5G (S i).slots d) (a.tmps.getD d undef) := by
    intro d hdl
    rw [htS d, ← b3C (wS ops (S 0).slots.length pv) (a5G (S 0).slots) (L := fun j => listed.getD j false) ops.size fun j hj hne => ?_]
    ·
     exact hI.slots d
    ·
     have hoj := Array.getElem?_eq_getElem hj
     simp only [wS, hoj]
     refine if_neg fun ⟨hdst, _⟩ => ?_
     rcases hun j hj hne with ⟨hji, hb⟩ | ⟨hij, _, hb⟩
     ·
      exact (Oper.apart_spec (c7Q hA hji hoj ho hb)).1 d hdst hdl
     ·
      exact (Oper.apart_spec (c7Q hA hij ho hoj hb)).2.2 d hdst hdl
   have hheap : rn i = true → ∀ b, (b ∈ rdOf o' (a9L o' (S i)) ∨ b ∈ (δ i).map (·.1)) → a0H c.H b = a0H (S i).heap b := by
    intro hr b hb
    rw [hI.heap b, htH b]
    refine b3C _ _ _ fun j hj hne => ?_
    have hoj := Array.getElem?_eq_getElem hj
    obtain ⟨oj, hoj', _, _, _, hsk⟩ := hW.at_ j (Nat.zero_le _) hj
    have : oj = ops[j] := by rw [hoj] at hoj'; exact (Option.some.inj hoj').symm
    subst this
    cases hrj : rn j with
    | false => simp [wH, (hsk hrj).2, lk]
    | true =>
     refine c8C _ _ fun hbj => ?_
     rcases hun j hj hne with ⟨hji, hbit⟩ | ⟨hij, _, hbit⟩
     ·
      have hfine := (hW.fine i j o' _ (Nat.zero_le _) hji hlt ho hoj hrj hr).resolve_left (by simp only; rw [hbit]; simp)
      rcases hb with hb | hb
      ·
       exact hfine.1 b hbj hb
      ·
       exact hfine.2.1 b hbj hb
     ·
      have hfine := (hW.fine j i _ o' (Nat.zero_le _) hij hj hoj ho hr hrj).resolve_left (by simp only; rw [hbit]; simp)
      rcases hb with hb | hb
      ·
       exact hfine.2.2 b hb hbj
      ·
       exact hfine.2.1 b hb hbj
   have hL' : ∀ j, (listed.setIfInBounds i true).getD j false = if j = i then true else listed.getD j false := by
    intro j
    by_cases hj : j = i
    ·
     subst hj
     rw [if_pos rfl]
     simp [show j < listed.size by omega]
    ·
     rw [if_neg hj, getD_set_ne false (fun h => hj h.symm)]
   have after : ∀ (v : Value) (c' : Cx), Ext c c' → Mem base G0 own0 c' → c'.H = a1X c.H (δ i) → VOk c' (pv i) v → wpAny E.P .any ops Q fuel (listed.setIfInBounds i true) (a.put o'.dst v) c'.w := by
    intro v c' hE' hM' hH' hv
    refine ih _ _ c' (by simp [hsz]) ?_ ?_ ?_
    ·
     have := (d8Q (L := fun j => listed.getD j false) (L' := fun j => (listed.setIfInBounds i true).getD j false) hLi hL' ops.size).1 hlt
     omega
    ·
     intro j oj hoj hLj e he hb
     simp only at hLj ⊢
     rw [hL'] at hLj ⊢
     split
     ·
      rfl
     ·
      by_cases hji : j = i
      ·
       subst hji
       have : oj = o' := by rw [ho] at hoj; exact (Option.some.inj hoj).symm
       subst this
       exact hd e he hb
      ·
       rw [if_neg hji] at hLj
       exact hC j oj hoj hLj e he hb
    ·
     refine ⟨hM', fun b => ?_, fun d => ?_, All2.mono (fun _ _ hl => All2.mono (fun _ _ => c4S hE') _ _ hl) _ _ hI.stk, by rw [d6H]; exact hI.size, hI.len, by rw [put_defers]; exact hI.defers⟩
     ·
      rw [hH', c0U, hI.heap b, c0D (wH δ) (a0H (S 0).heap) (L := fun j => listed.getD j false) (L' := fun j => (listed.setIfInBounds i true).getD j false) hLi hL' ops.size hlt fun j hij hj hLj => ?_]
      ·
       cases h : lk (δ i) b <;> simp [wH, h]
      ·
       have hoj := Array.getElem?_eq_getElem hj
       obtain ⟨oj, hoj', _, _, _, hsk⟩ := hW.at_ j (Nat.zero_le _) hj
       have : oj = ops[j] := by rw [hoj] at hoj'; exact (Option.some.inj hoj').symm
       subst this
       cases hrj : rn j with
       | false => left; simp [wH, (hsk hrj).2, lk]
       | true =>
        cases hri : rn i with
        | false => right; simp [wH, (hskip hri).2, lk]
        | true =>
         have hfine := (hW.fine j i _ o' (Nat.zero_le _) hij hj hoj ho hri hrj).resolve_left (by simp only; rw [hlater j hij hj hLj]; simp)
         by_cases hb : b ∈ (δ i).map (·.1)
         ·
          exact .inl (c8C _ _ (hfine.2.1 b hb))
         ·
          exact .inr (c8C _ _ hb)
     ·
      rw [c0D (wS ops (S 0).slots.length pv) (a5G (S 0).slots) (L := fun j => listed.getD j false) (L' := fun j => (listed.setIfInBounds i true).getD j false) hLi hL' ops.size hlt fun j hij hj hLj => ?_, e2T]
      ·
       simp only [wS, ho]
       have hsize := hI.size
       have hl := hI.len
       by_cases hdd : o'.dst = some d ∧ d < (S 0).slots.length
       ·
        rw [if_pos hdd, if_pos (by rw [hsize, ← hl]; exact hdd)]
        exact hv
       ·
        rw [if_neg hdd, if_neg (by rw [hsize, ← hl]; exact hdd)]
        exact c4S hE' (hI.slots d)
      ·
       have hoj := Array.getElem?_eq_getElem hj
       have hap := Oper.apart_spec (c7Q hA hij ho hoj (hlater j hij hj hLj))
       simp only [wS, hoj, ho]
       by_cases hdd : o'.dst = some d
       ·
        left; exact if_neg fun h => hap.2.1 d hdd h.1
       ·
        right; exact if_neg fun h => hdd h.1
   unfold wpOp
   simp only [ho]
   have hw := hG c a.tmps hslot
   cases hr : rn i with
   | true =>
    rw [hr] at hw
    rw [if_pos hw]
    left
    refine hrun hr base G0 own0 a c hI.mem (fun b hb => hheap hr b (.inl hb)) (e3I hslot) (fun p hp hge => ?_) (fun p hp _ => hheap hr p.1 (.inr (List.mem_map_of_mem hp))) _ _ after
    rw [hheap hr p.1 (.inr (List.mem_map_of_mem hp))]
    exact b0X _ _ hge
   | false =>
    rw [hr] at hw
    rw [if_neg (by rw [hw]; simp)]
    obtain ⟨e1, e2⟩ := hskip hr
    exact after undef c (Ext.refl c) hI.mem (by rw [e2]; rfl) (by rw [e1]; exact c9J)
theorem d9N {E : Env} (hE : EnvOk E) {R : Type} {T : R → Prop} {fail : R} (hf : ¬ T fail) {ops : Array Oper} {id : Nat} {Q : Exit → Act → World → Prop} {K : St → R} (hA : b8H ops (masks ops.toList []) = true)
  (hK : ∀ st c a, T (K st) → Rep base G0 own0 sz fr c st a → Q .normal a c.w) {st : St} {c : Cx} {a : Act} (h : T (c3P E fail ops (masks ops.toList []) 0 ops.toList [] st K)) (hr : Rep base G0 own0 sz fr c st a) :
  (Code.region id ops true).wp E.P Q a c.w := by
 obtain ⟨S, rn, pv, δ, h0, hT, hW, _⟩ := e0O hE hf ops (masks ops.toList []) ops.toList [] [] st (by simp) h
 simp only [List.length_nil, Nat.zero_add, Array.length_toList] at h0 hT hW
 refine wp_region_any hE.mixed ?_
 obtain ⟨hE', hM'⟩ := hr.mem.swap (w' := { c.w with drawn := c.w.drawn + 1 }) (H' := c.H) rfl rfl rfl rfl (fun _ => rfl)
 refine d7Y hE hA hW (fun c a hr => hK _ _ _ hT hr) ops.size (Array.replicate ops.size false) a (Cx.next base G0 { c.w with drawn := c.w.drawn + 1 } c.ρ c.H) (by simp) ?_ ?_ ?_
 ·
  have : ∀ (L : Nat → Bool) (n : Nat), cnt L n ≤ n := by
   intro L n
   induction n with
   | zero => exact Nat.le_refl _
   | succ n ih => simp only [cnt]; split <;> omega
  exact this _ _
 ·
  intro j o ho hL
  exfalso
  simp [Array.getD_eq_getD_getElem?, Array.getElem?_replicate] at hL
  split at hL <;> simp at hL
 ·
  have hz : ∀ {X : Type} (w : Nat → Nat → Option X) (init : Nat → X) (n k : Nat), b7V w init (fun j => (Array.replicate ops.size false).getD j false) n k = init k := by
   intro X w init n k
   induction n with
   | zero => rfl
   | succ n ih =>
    have : (Array.replicate ops.size false).getD n false = false := by
     simp only [Array.getD_eq_getD_getElem?, Array.getElem?_replicate]
     split <;> rfl
    simp only [b7V, this]
    exact ih
  subst h0
  refine ⟨hM', fun b => by rw [hz]; show a0H c.H b = _; rw [hr.heap], fun d => ?_, All2.mono (fun _ _ hl => All2.mono (fun _ _ => c4S hE') _ _ hl) _ _ hr.stk, hr.size, by rw [All2.len hr.slots, ← hr.size]; simp, hr.defers⟩
  rw [hz, getD_toList]
  exact c4S hE' (b4N d hr.slots)
end
end Sym

/- The evaluator of code tells what the machine does. -/
namespace Sym
open Go
def c7C (P : Program) (c : Code) (Q : Exit → Act → World → Prop) (a : Act) (w : World) : Prop :=
 ∀ (b : Frame) (k : List Item) (cs : List Frame), ∃ e a' w', Q e a' w' ∧ Arrives P (lone (b.at a (.inLoop c :: k)) cs w) b k cs e a' w'
theorem d1T {P : Program} {c : Code} {Q : Exit → Act → World → Prop} {a : Act} {w : World} (h : c.wp P (Exit.then (c7C P c Q) Q) a w) :
  (∀ (b : Frame) (k : List Item) (cs : List Frame), ∃ e a' w', Q e a' w' ∧ Arrives P (lone (b.at a (.code c :: .inLoop c :: k)) cs w) b k cs e a' w') := by
 intro b k cs
 obtain ⟨e, a1, w1, hq, harr⟩ := h b (.inLoop c :: k) cs
 cases e with
 | normal =>
  obtain ⟨e2, a2, w2, hq2, harr2⟩ := hq b k cs
  exact ⟨e2, a2, w2, hq2, .of_steps harr harr2⟩
 | exit id => exact ⟨_, a1, w1, hq, .pass (x := .inLoop c) rfl (fun _ _ => .inl (by simp)) harr⟩
 | goto l => exact ⟨_, a1, w1, hq, .pass (x := .inLoop c) rfl (fun _ _ => .inl (by simp)) harr⟩
 | ret => exact ⟨_, a1, w1, hq, .pass (x := .inLoop c) rfl (fun _ _ => .inl (by simp)) harr⟩
 | panic ch => exact ⟨_, a1, w1, hq, .pass (x := .inLoop c) rfl (fun _ _ => .inl (by simp)) harr⟩
 | outgrown => exact ⟨_, a1, w1, hq, .pass (x := .inLoop c) rfl (fun _ _ => .inl (by simp)) harr⟩
theorem c9P {P : Program} {c : Code} {Q : Exit → Act → World → Prop} {a : Act} {w : World} (h : c.wp P (Exit.then (c7C P c Q) Q) a w) : c7C P c Q a w := by
 intro b k cs
 obtain ⟨e, a', w', hq, harr⟩ := d1T h b k cs
 exact ⟨e, a', w', hq, .of_steps (.one step_inLoop) harr⟩
theorem e1N {P : Program} {c : Code} {Q : Exit → Act → World → Prop} {a : Act} {w : World} (h : c.wp P (Exit.then (c7C P c Q) Q) a w) : (Code.loop c).wp P Q a w := by
 intro b k cs
 obtain ⟨e, a', w', hq, harr⟩ := d1T h b k cs
 exact ⟨e, a', w', hq, .of_steps (.one step_loop) harr⟩
section
variable {base : World} {G0 own0 : Nat → Prop} {sz : Nat} {fr : List (List Value)}
structure KOk (base : World) (G0 own0 : Nat → Prop) (sz : Nat) (fr : List (List Value)) {R : Type} (T : R → Prop) (K : Kt R) (Q : Exit → Act → World → Prop) : Prop where
 norm : ∀ st c a, T (K.norm st) → Rep base G0 own0 sz fr c st a → Q .normal a c.w
 exit : ∀ i st c a, T (K.exit i st) → Rep base G0 own0 sz fr c st a → Q (.exit i) a c.w
 ret : ∀ st c a, T (K.ret st) → Rep base G0 own0 sz fr c st a → Q .ret a c.w
theorem c2F {X Y : Type} {R : X → Y → Prop} : ∀ {l : List X} {r : List Y} {l' : List X} {r' : List Y}, All2 R l r → All2 R l' r' → All2 R (l ++ l') (r ++ r')
 | [], [], _, _, _, h => h
 | _ :: _, _ :: _, _, _, h, h' => ⟨h.1, c2F h.2 h'⟩
 | [], _ :: _, _, _, h, _ => h.elim
 | _ :: _, [], _, _, h, _ => h.elim
theorem c4R {X Y : Type} {R : X → Y → Prop} : ∀ (n : Nat) {l : List X} {r : List Y}, All2 R l r → All2 R (l.take n) (r.take n) ∧ All2 R (l.drop n) (r.drop n)
 | 0, _, _, h => ⟨by simp only [List.take_zero]; trivial, by simpa using h⟩
 | n + 1, [], [], _ => ⟨trivial, trivial⟩
 | n + 1, _ :: _, _ :: _, h => ⟨⟨h.1, (c4R n h.2).1⟩, (c4R n h.2).2⟩
 | _ + 1, [], _ :: _, h => h.elim
 | _ + 1, _ :: _, [], h => h.elim
theorem d0T {c : Cx} : ∀ {l : List (List PV)} {r : List (List Value)}, All2 (All2 (VOk c)) l r → All2 (VOk c) l.flatten r.flatten
 | [], [], _ => trivial
 | _ :: _, _ :: _, h => c2F h.1 (d0T h.2)
 | [], _ :: _, h => h.elim
 | _ :: _, [], h => h.elim
theorem d5H {c : Cx} : ∀ (r : List (List Value)) (l : List PV), All2 (VOk c) l r.flatten → All2 (All2 (VOk c)) (c5C (r.map List.length) l) r
 | [], l, h => trivial
 | u :: r, l, h => by
  simp only [List.flatten_cons] at h
  obtain ⟨h1, h2⟩ := c4R u.length h
  rw [List.take_left' rfl] at h1
  rw [List.drop_left' rfl] at h2
  exact ⟨h1, d5H r _ h2⟩
theorem c9H {B B' : Blk} (h : b2S B B') : live B = live B' := by
 cases B <;> cases B' <;> first | rfl | exact h.elim | (simp [b2S] at h)
theorem c3N {c : Cx} (hM : Mem base G0 own0 c) {τ : Tm} {vs : List PV} {x : τ.D} {m0 m : Mt} (h : τ.extF m0 vs c.H = some (x, m)) :
  Mle m0 m ∧ ∃ c', (∀ i j, m.σ.get i = some j → c'.ρ i = c.ρ j) ∧ (∀ i j, m.σ.get i = some j → b2S (a0H (a2Q τ.heap x.2) i) (a0H c.H j)) ∧ c'.w = c.w ∧ c'.H = a2Q τ.heap x.2 ∧ Mem base G0 own0 c' ∧ ∀ us, All2 (VOk c) vs us → ∃ us', us = us' ++ us.drop τ.slots.length ∧ us'.length = τ.slots.length ∧ All2 (VOk c') (a1I τ.slots x.1) us' := by
 obtain ⟨t0, t1, t2, t3, t4, t5, t6⟩ := d9E hM.blk h
 let ρ' : Nat → Value := fun i => match m.σ.get i with | some j => c.ρ j | none => .bool false
 have hlive : ∀ i, live (a0H (a2Q τ.heap x.2) i) = true → ∃ j, m.σ.get i = some j ∧ live (a0H c.H j) = true := by
  intro i hi
  have hlt : i < τ.heap.length := by
   rcases Nat.lt_or_ge i τ.heap.length with h | h
   ·
    exact h
   ·
    rw [b0X _ _ (by rw [a7Q]; exact h)] at hi; cases hi
  obtain ⟨j, hj⟩ := t3 i hlt
  exact ⟨j, hj, by rw [← c9H (t5 i j hj)]; exact hi⟩
 have hG : ∀ r, a8Q c m.lent r → Gof base G0 c.w ρ' (a2Q τ.heap x.2) r := by
  intro r hr
  have hbase : (G0 r ∨ base.heap.size ≤ r) ∧ r < c.w.heap.size := by
   rcases hr with hr | ⟨b, hb, hl, he⟩
   ·
    rw [hM.G] at hr; exact ⟨hr.1, hr.2.1⟩
   ·
    refine ⟨?_, (hM.blk b).lt hl he⟩
    rcases hM.own b r hl he with h | h
    ·
     exact .inl (hM.sub r h)
    ·
     exact .inr h
  refine ⟨hbase.1, hbase.2, fun i hi he => ?_⟩
  obtain ⟨j, hj, hlj⟩ := hlive i hi
  simp only [ρ', hj] at he
  rcases hr with hr | ⟨b, hb, hl, he'⟩
  ·
   rw [hM.G] at hr
   exact hr.2.2 j hlj he
  ·
   have : b = j := hM.inj b j r hl hlj he' he
   subst this
   have := (t1 b hb).1
   rw [b2Z m.σ i b hj] at this
   cases this
 obtain ⟨hblk, hargs⟩ := t6 _ hG
 refine ⟨t0, a8P c τ x m (Gof base G0 c.w ρ' (a2Q τ.heap x.2)), fun i j hij => by simp [a8P, hij], t5, rfl, rfl, ⟨hM.os, hM.tape, hM.output, hM.size, hM.frame, hblk, fun i i' r hi hi' he he' => ?_, fun i r hi he => ?_, rfl, hM.sub⟩, hargs⟩
 ·
  obtain ⟨j, hj, hlj⟩ := hlive i hi
  obtain ⟨j', hj', hlj'⟩ := hlive i' hi'
  simp only [a8P, hj] at he
  simp only [a8P, hj'] at he'
  have := hM.inj j j' r hlj hlj' he he'
  subst this
  exact t4 i i' j hj hj'
 ·
  obtain ⟨j, hj, hlj⟩ := hlive i hi
  simp only [a8P, hj] at he
  exact hM.own j r hlj he
theorem d5C {c : Cx} (hM : Mem base G0 own0 c) {τ : Tm} {vs : List PV} {x : τ.D} {m : Mt} (h : τ.ext vs c.H = some (x, m)) :
  ∃ c', c'.w = c.w ∧ c'.H = a2Q τ.heap x.2 ∧ Mem base G0 own0 c' ∧ ∀ us, All2 (VOk c) vs us → ∃ us', us = us' ++ us.drop τ.slots.length ∧ us'.length = τ.slots.length ∧ All2 (VOk c') (a1I τ.slots x.1) us' := by
 obtain ⟨_, c', _, _, h⟩ := c3N hM h
 exact ⟨c', h⟩
theorem Rep.lens {c : Cx} {st : St} {a : Act} (h : Rep base G0 own0 sz fr c st a) : st.lens = sz :: fr.map List.length := by
 have h1 := All2.len h.slots
 have h2 : ∀ {l : List (List PV)} {r : List (List Value)}, All2 (All2 (VOk c)) l r → l.map List.length = r.map List.length := by
  intro l
  induction l with
  | nil => intro r h; cases r with | nil => rfl | cons _ _ => exact h.elim
  | cons x l ih => intro r h; cases r with | nil => exact h.elim | cons y r => simp [All2.len h.1, ih h.2]
 simp only [St.lens, h1, h2 h.stk, Array.length_toList, h.size]
theorem Rep.flat {c : Cx} {st : St} {a : Act} (h : Rep base G0 own0 sz fr c st a) : All2 (VOk c) st.flat (a.tmps.toList ++ fr.flatten) := c2F h.slots (d0T h.stk)
theorem Rep.again {c : Cx} {st : St} {a : Act} (h : Rep base G0 own0 sz fr c st a) {τ : Tm} {x : τ.D} {m : Mt} (hx : τ.ext st.flat st.heap = some (x, m)) (hl : τ.slots.length = (a.tmps.toList ++ fr.flatten).length) :
  ∃ c', c'.w = c.w ∧ Rep base G0 own0 sz fr c' (stOf (sz :: fr.map List.length) τ x) a := by
 rw [← h.heap] at hx
 obtain ⟨c', hw, hH, hM, hargs⟩ := d5C h.mem hx
 obtain ⟨us', e1, e2, h3⟩ := hargs _ h.flat
 rw [List.drop_of_length_le (by omega), List.append_nil] at e1
 subst e1
 have hcut := d5H (a.tmps.toList :: fr) (a1I τ.slots x.1) (by simpa using h3)
 have hst : stOf (sz :: fr.map List.length) τ x = ⟨(a1I τ.slots x.1).take sz, c5C (fr.map List.length) ((a1I τ.slots x.1).drop sz), a2Q τ.heap x.2⟩ := rfl
 have hsz : a.tmps.toList.length = sz := by rw [Array.length_toList]; exact h.size
 simp only [List.map_cons, c5C, hsz] at hcut
 refine ⟨c', hw, ?_⟩
 rw [hst]
 exact ⟨hM, hH, hcut.1, hcut.2, h.size, h.defers⟩
end
end Sym

/- What a call answers. -/
namespace Sym
open Go
section
variable {base : World} {G0 own0 : Nat → Prop} {sz : Nat} {fr : List (List Value)} {P : Program}
theorem b2B {f : FuncId} {fn : Func} {b : Code} {args : Array Value} {w : World} (hf : P.funcs[f]? = some fn) (hb : fn.body = some b) (hn : (fn.name == "runtime.NumGoroutine") = false) : (callFunc f args).run P w = .ok (.enter f args) w := by
 unfold callFunc
 rw [Sem.run_bind]
 have : (program : Sem Program).run P w = .ok P w := rfl
 rw [this, Result.andThen_ok]
 simp only [hf, hn, hb, Option.isNone_some]
 rfl
theorem e2O {c : Cx} (hM : Mem base G0 own0 c) {id : TypeId} {t s : Ty} (ht : TOk P t id) {b : Nat} {p : List Step} {v u : PV} {x : Value} (hx : VOk c (.ptr b p) x)
  (hb : a0H c.H b = .box s v) (hti : tyIs s p t = true) (hg : b1B v p = some u) : ∃ ad v', x = .pointer (some ad) ∧ (loadVar id ad).run P c.w = .ok v' c.w ∧ fits u t = true ∧ ∃ cs, a0W c u cs ∧ v' = mkV (a3E u) cs := by
 have hp := c5G hx
 have hB := hM.blk b
 unfold PtrOk at hp
 unfold BlkOk at hB
 simp only [hb] at hp hB
 obtain ⟨r, off, u', hρ, hoff, hv⟩ := hp
 obtain ⟨r', cs, e, hρ', hh, hc, hfs⟩ := hB
 rw [hρ'] at hρ
 simp only [Value.pointer.injEq, Option.some.injEq, Addr.mk.injEq] at hρ
 obtain ⟨rfl, _, _⟩ := hρ
 have := b2V hti hoff
 subst this
 obtain ⟨hf, hcu⟩ := b4Q v s cs p off u' u hc hfs hoff hg
 have hl := a4M _ _ _ hcu hf
 exact ⟨_, _, hv, b3N ht c.w r' off _ hl (c1A hh), hf, _, hcu, by rw [b7N hf]⟩
theorem c3S {c : Cx} {pv : PV} {v : Value} (h : VOk c pv v) (hp : b5M pv = true) : ∃ cs, a0W c pv cs ∧ v = mkV (a3E pv) cs := by
 cases pv with
 | tup a => cases hp
 | undef => cases hp
 | _ => exact h
def d1M (tmps : Array Value) : ResultVar → Sem Value
 | .tmp t => pure (tmps.getD t undef)
 | .cell a t => do loadVar t (← asAddr (tmps.getD a undef))
theorem c7Y {E : Env} (hE : EnvOk E) {c : Cx} {st : St} {a : Act} (hr : Rep base G0 own0 sz fr c st a) : ∀ (l : List ResultVar) (rs : List PV), d2E E st l = some rs →
  ∃ vs : List Value, (l.mapM (d1M a.tmps)).run E.P c.w = .ok vs c.w ∧ All2 (fun pv v => ∃ cs, a0W c pv cs ∧ v = mkV (a3E pv) cs) rs vs := by
 intro l
 induction l with
 | nil =>
  intro rs h
  simp only [d2E, Option.some.injEq] at h
  subst h
  exact ⟨[], by simp, trivial⟩
 | cons x l ih =>
  intro rs h
  cases x with
  | tmp t =>
   simp only [d2E] at h
   split at h
   ·
    rename_i hp
    split at h
    ·
     rename_i r hl
     simp only [Option.some.injEq] at h
     subst h
     obtain ⟨vs, h1, h2⟩ := ih r hl
     refine ⟨a.tmps.getD t undef :: vs, ?_, c3S (by rw [getD_toList]; exact b4N t hr.slots) hp, h2⟩
     simp only [List.mapM_cons, d1M, Sem.run_bind, Sem.run_pure, Result.andThen_ok, h1]
    ·
     cases h
   ·
    cases h
  | cell d t =>
   simp only [d2E] at h
   split at h
   ·
    rename_i u b p ht hd
    split at h
    ·
     rename_i s v hb
     split at h
     ·
      rename_i v' hti hg
      split at h
      ·
       rename_i r hl
       simp only [Option.some.injEq] at h
       subst h
       obtain ⟨vs, h1, h2⟩ := ih r hl
       have hx := b4N d hr.slots
       rw [hd, ← getD_toList] at hx
       obtain ⟨ad, w', e1, e2, _, hcs⟩ := e2O hr.mem (hE.ty _ _ ht).ok hx (by rw [hr.heap]; exact hb) hti hg
       refine ⟨w' :: vs, ?_, hcs, h2⟩
       simp only [List.mapM_cons, d1M, e1, asAddr, Sem.run_bind, Sem.run_pure, Result.andThen_ok, e2, h1]
      ·
       cases h
     ·
      cases h
    ·
     cases h
   ·
    cases h
theorem d5R {c : Cx} : ∀ (rs : List PV) (vs : List Value), All2 (fun pv v => ∃ cs, a0W c pv cs ∧ v = mkV (a3E pv) cs) rs vs → c5M c (rs.foldr .pair (.val .nil ())) vs
 | [], [], _ => rfl
 | p :: rs, v :: vs, h => by
  obtain ⟨⟨cs, h1, e⟩, h2⟩ := h
  exact ⟨cs, vs, by rw [e], h1, d5R rs vs h2⟩
 | [], _ :: _, h => h.elim
 | _ :: _, [], h => h.elim
theorem d3L {c : Cx} {pv : PV} {v : Value} (h : ∃ cs, a0W c pv cs ∧ v = mkV (a3E pv) cs) : VOk c pv v := by
 cases pv with
 | tup a => obtain ⟨cs, h1, _⟩ := h; exact h1.elim
 | undef => trivial
 | _ => exact h
def c1P (vs : List Value) : Value := if h : vs.toArray.size = 1 then vs.toArray[0] else .tuple vs.toArray
theorem c2V {c : Cx} {rs : List PV} {vs : List Value} (h2 : All2 (fun pv v => ∃ cs, a0W c pv cs ∧ v = mkV (a3E pv) cs) rs vs) : VOk c (tuple rs) (c1P vs) := by
 match rs, vs, h2 with
 | [], [], _ => exact ⟨[], rfl, rfl⟩
 | [p], [v], h2 => exact d3L h2.1
 | p :: q :: rs, v :: u :: vs, h2 =>
  show VOk c (.tup _) _
  refine ⟨v :: u :: vs, by simp [c1P], d5R (p :: q :: rs) _ h2⟩
theorem b8R {fn : Func} {tmps : Array Value} {w : World} {vs : List Value} (h1 : (fn.results.toList.mapM (d1M tmps)).run P w = .ok vs w) : (results fn tmps).run P w = .ok (c1P vs) w := by
 have : results fn tmps = (do let vs ← fn.results.mapM (d1M tmps); pure (if h : vs.size = 1 then vs[0] else .tuple vs)) := by
  unfold results
  congr 1
 rw [this, Array.mapM_eq_mapM_toList]
 simp only [Sem.run_bind, map_eq_pure_bind, Sem.run_pure, h1, Result.andThen_ok]
 rfl
theorem f9M {E : Env} (hE : EnvOk E) {c : Cx} {st : St} {a : Act} (hr : Rep base G0 own0 sz fr c st a) {fn : Func} {rs : List PV} (h : e2E E fn st = some rs) :
  ∃ v, (results fn a.tmps).run E.P c.w = .ok v c.w ∧ VOk c (tuple rs) v := by
 obtain ⟨vs, h1, h2⟩ := c7Y hE hr _ _ h
 exact ⟨_, b8R h1, c2V h2⟩
theorem c4J : ∀ (l : List Sh) (x : ShD l), l.all (fun s => !s.isDead) = true → ∀ v ∈ a1I l x, b5M v = true := by
 intro l
 induction l with
 | nil => intro x _ v hv; simp [a1I] at hv
 | cons s l ih =>
  intro x h v hv
  simp only [List.all_cons, Bool.and_eq_true, Bool.not_eq_true'] at h
  cases s with
  | dead => cases h.1
  | pl t => simp only [a1I, List.mem_cons] at hv; rcases hv with rfl | hv; rfl; exact ih _ h.2 v hv
  | bp t => simp only [a1I, List.mem_cons] at hv; rcases hv with rfl | hv; rfl; exact ih _ h.2 v hv
  | pair p q => simp only [a1I, List.mem_cons] at hv; rcases hv with rfl | hv; rfl; exact ih _ h.2 v hv
  | iface p q => simp only [a1I, List.mem_cons] at hv; rcases hv with rfl | hv; rfl; exact ih _ h.2 v hv
  | clo p q => simp only [a1I, List.mem_cons] at hv; rcases hv with rfl | hv; rfl; exact ih _ h.2 v hv
  | _ => simp only [a1I, List.mem_cons] at hv; rcases hv with rfl | hv; rfl; exact ih _ h.2 v hv
theorem c0S {c : Cx} : ∀ (rs : List PV) (vs : List Value), (∀ v ∈ rs, b5M v = true) → All2 (VOk c) rs vs → All2 (fun pv v => ∃ cs, a0W c pv cs ∧ v = mkV (a3E pv) cs) rs vs
 | [], [], _, _ => trivial
 | p :: rs, v :: vs, h, hh => ⟨c3S hh.1 (h p (by simp)), c0S rs vs (fun q hq => h q (by simp [hq])) hh.2⟩
 | [], _ :: _, _, h => h.elim
 | _ :: _, [], _, h => h.elim
end
end Sym

/- The evaluator of code tells what the machine does: the theorem. -/
namespace Sym
open Go
def d6T (P : Program) : Prop := ∀ (f : FuncId) (fn : Func), P.funcs[f]? = some fn → (fn.name == "runtime.NumGoroutine") = false
theorem d9V {X : Type} : ∀ (n : Nat) (x : X), repL n x = List.replicate n x
 | 0, _ => rfl
 | n + 1, x => by simp [repL, List.replicate_succ, d9V n x]
theorem c9O {c : Cx} {fn : Func} {vs : List PV} {us : List Value} (h : All2 (VOk c) vs us) : All2 (VOk c) (frame fn vs) (us.toArray ++ Array.replicate (fn.ntmps - us.toArray.size) undef).toList := by
 have hl := All2.len h
 unfold frame
 simp only [Array.toList_append, Array.toList_replicate, List.size_toArray]
 refine c2F h ?_
 rw [hl, d9V]
 generalize fn.ntmps - us.length = n
 induction n with
 | zero => trivial
 | succ n ih => exact ⟨c9J, ih⟩
section
variable {base : World} {G0 own0 : Nat → Prop}
theorem f2B {E : Env} (hE : EnvOk E) (hodd : d6T E.P) (A : Anns) (k : Nat) : ∀ (n : Nat) (R : Type) (T : R → Prop) (fail : R) (path : List Nat) (cur : Nat) (code : Code) (K : Kt R) (st : St) (c : Cx) (a : Act) (sz : Nat) (fr : List (List Value)) (Q : Exit → Act → World → Prop),
  ¬ T fail → T (ev E A k n R fail path cur code K st) → Rep base G0 own0 sz fr c st a → KOk base G0 own0 sz fr T K Q → code.wp E.P Q a c.w := by
 intro n
 induction n with
 | zero => intro R T fail path cur code K st c a sz fr Q hf h; exact absurd h hf
 | succ n ih =>
  intro R T fail path cur code K st c a sz fr Q hf h hr hK
  have hno : ∀ {x : Prop}, T fail → x := fun h => absurd h hf
  cases code with
  | skip => exact wp_skip (hK.norm st c a h hr)
  | seq x y =>
   simp only [ev] at h
   split at h
   ·
    rename_i τ _
    split at h
    ·
     rename_i hl
     have hlens := hr.lens
     have hlen : ∀ (c' : Cx) (st' : St) (a' : Act), Rep base G0 own0 sz fr c' st' a' → τ.slots.length = (a'.tmps.toList ++ fr.flatten).length := by
      intro c' st' a' hr'
      have h1 := Nat.eq_of_beq_eq_true hl
      have h2 := All2.len hr.flat
      have h3 := hr.size
      have h4 := hr'.size
      rw [h1, h2]
      simp only [List.length_append, Array.length_toList]
      omega
     rw [hlens] at h
     unfold jn at h
     refine wp_seq (ih R T fail path cur x _ st c a sz fr _ hf h hr ⟨fun st c a h hr => ?_, fun i st c a h hr => hK.exit i st c a h hr, fun st c a h hr => hK.ret st c a h hr⟩)
     simp only at h
     split at h
     ·
      rename_i z mt hz
      obtain ⟨c', hw, hr'⟩ := hr.again hz (hlen c st a hr)
      have := ih R T fail path cur y K _ c' a sz fr Q hf h hr' hK
      rw [hw] at this
      exact this
     ·
      exact hno h
    ·
     exact hno h
   ·
    refine wp_seq (ih R T fail path cur x _ st c a sz fr _ hf h hr ⟨fun st c a h hr => ?_, fun i st c a h hr => hK.exit i st c a h hr, fun st c a h hr => hK.ret st c a h hr⟩)
    exact ih R T fail path cur y K st c a sz fr Q hf h hr hK
  | cond o x y =>
   simp only [ev] at h
   split at h
   ·
    rename_i b hb
    have ho := e6H hr.slots o
    rw [hb] at ho
    have ho := c3L ho
    cases hb' : (show Bool from b) with
    | true =>
     simp only [hb', brn, cond_true] at h
     exact wp_cond_true (ho.trans (by rw [hb'])) (ih R T fail path cur x K st c a sz fr Q hf h hr hK)
    | false =>
     simp only [hb', brn, cond_false] at h
     exact wp_cond_false (ho.trans (by rw [hb'])) (ih R T fail path cur y K st c a sz fr Q hf h hr hK)
   ·
    exact hno h
  | block id b =>
   simp only [ev] at h
   refine wp_block (ih R T fail path id b _ st c a sz fr _ hf h hr ⟨fun st c a h hr => hK.norm st c a h hr, fun i st c a h hr => ?_, fun st c a h hr => hK.ret st c a h hr⟩)
   simp only [Exit.inBlock]
   simp only at h
   split at h
   ·
    rename_i hid
    rw [if_pos (Nat.eq_of_beq_eq_true hid)]
    exact hK.norm st c a h hr
   ·
    rename_i hid
    rw [if_neg (fun e => by rw [e, Nat.beq_refl] at hid; cases hid)]
    exact hK.exit i st c a h hr
  | exit id => exact wp_exit (hK.exit id st c a h hr)
  | ret => exact wp_ret (hK.ret st c a h hr)
  | region id ops draw =>
   simp only [ev] at h
   cases draw with
   | true =>
    simp only at h
    split at h
    ·
     rename_i hA
     exact d9N hE hf hA (fun st c a h hr => hK.norm st c a h hr) h hr
    ·
     exact hno h
   | false =>
    simp only at h
    refine wp_region ?_
    have := e3L (Q := Q) hE hf (inl := _) ?_ ops (fun st c a h hr => hK.norm st c a h hr) ops.toList [] st c a (by simp) h hr
    ·
     simpa [List.range_eq_range'] using this
    ·
     intro i f vs st next c a us Kw h hhow hr hargs hKw
     simp only at h
     split at h
     ·
      rename_i fn hfn
      split at h
      ·
       rename_i body hb
       refine ⟨b2B hfn hb (hodd f fn hfn), calls_of_wp hfn hb ?_⟩
       refine ih R T fail _ 0 body _ ⟨frame fn vs, st.slots :: st.stk, st.heap⟩ c _ _ (a.tmps.toList :: fr) _ hf h ⟨hr.mem, hr.heap, c9O hargs, ⟨hr.slots, hr.stk⟩, rfl, rfl⟩ ?_
       have fin : ∀ s c' a', T (match e2E E fn s, s.stk with | some rs, s0 :: r => next (tuple rs) ⟨s0, r, s.heap⟩ | _, _ => fail) → Rep base G0 own0 (us.toArray ++ Array.replicate (fn.ntmps - us.toArray.size) undef).size (a.tmps.toList :: fr) c' s a' →
         a'.defers = [] ∧ ∃ v, (results fn a'.tmps).run E.P c'.w = .ok v c'.w ∧ ∃ v', Ending.returned v = .returned v' ∧ Kw v' c'.w := by
        intro s c' a' h hr'
        split at h
        ·
         rename_i rs s0 r hrs hstk
         obtain ⟨v, h1, h2⟩ := f9M hE hr' hrs
         refine ⟨hr'.defers, v, h1, v, rfl, hKw _ _ c' v h ⟨hr'.mem, hr'.heap, ?_, ?_, hr.size, hr.defers⟩ h2⟩
         ·
          have := hr'.stk; rw [hstk] at this; exact this.1
         ·
          have := hr'.stk; rw [hstk] at this; exact this.2
        ·
         exact hno h
       exact ⟨fun s c' a' h hr' => fin s c' a' h hr', fun i s c' a' h _ => hno h, fun s c' a' h hr' => fin s c' a' h hr'⟩
      ·
       exact hno h
     ·
      exact hno h
  | loop b =>
   simp only [ev] at h
   split at h
   ·
    rename_i m _
    have key : ∀ (m : Nat) (st : St) (c : Cx) (a : Act), T (unroll fail (fun again st => ev E A k n R fail path cur b ⟨again, K.exit, K.ret⟩ st) m st) → Rep base G0 own0 sz fr c st a → b.wp E.P (Exit.then (c7C E.P b Q) Q) a c.w := by
     intro m
     induction m with
     | zero => intro st c a h; exact hno h
     | succ m ihm =>
      intro st c a h hr
      exact ih R T fail path cur b _ st c a sz fr _ hf h hr ⟨fun st c a h hr => c9P (ihm st c a h hr), fun i st c a h hr => hK.exit i st c a h hr, fun st c a h hr => hK.ret st c a h hr⟩
    exact e1N (key m st c a h hr)
   ·
    rename_i τ _
    split at h
    ·
     rename_i x mt hx hl
     have hlens := hr.lens
     have hlen : ∀ (c' : Cx) (st' : St) (a' : Act), Rep base G0 own0 sz fr c' st' a' → τ.slots.length = (a'.tmps.toList ++ fr.flatten).length := by
      intro c' st' a' hr'
      have h1 := Nat.eq_of_beq_eq_true hl
      have h2 := All2.len hr.flat
      have h3 := hr.size
      have h4 := hr'.size
      rw [h1, h2]
      simp only [List.length_append, Array.length_toList]
      omega
     rw [hlens] at h
     have key : ∀ (j : Nat) (x : τ.D) (c : Cx) (a : Act), T (iter fail (fun x => ev E A k n (Stp τ.D R) (.done fail) path cur b
       ⟨fun st => match τ.ext st.flat st.heap with | some (y, _) => .again y | none => .done fail, fun i st => .done (K.exit i st), fun st => .done (K.ret st)⟩ (stOf (sz :: fr.map List.length) τ x)) j x) →
       Rep base G0 own0 sz fr c (stOf (sz :: fr.map List.length) τ x) a → b.wp E.P (Exit.then (c7C E.P b Q) Q) a c.w := by
      intro j
      induction j with
      | zero => intro x c a h; exact hno h
      | succ j ihj =>
       intro x c a h hr
       let T' : Stp τ.D R → Prop := fun s => match s with
        | .again y => T (iter fail (fun x => ev E A k n (Stp τ.D R) (.done fail) path cur b
          ⟨fun st => match τ.ext st.flat st.heap with | some (y, _) => .again y | none => .done fail, fun i st => .done (K.exit i st), fun st => .done (K.ret st)⟩ (stOf (sz :: fr.map List.length) τ x)) j y)
        | .done r => T r
       refine ih (Stp τ.D R) T' (.done fail) path cur b
        ⟨fun st => match τ.ext st.flat st.heap with | some (y, _) => .again y | none => .done fail, fun i st => .done (K.exit i st), fun st => .done (K.ret st)⟩ (stOf (sz :: fr.map List.length) τ x) c a sz fr _ hf ?_ hr ⟨fun st c a h hr => ?_, fun i st c a h hr => hK.exit i st c a h hr, fun st c a h hr => hK.ret st c a h hr⟩
       ·
        simp only [iter] at h
        simp only [T']
        split at h
        ·
         rename_i y hy; simp only [hy]; exact h
        ·
         rename_i r hy; simp only [hy]; exact h
       ·
        simp only at h
        split at h
        ·
         rename_i y mt hy
         obtain ⟨c', hw, hr'⟩ := hr.again hy (hlen c st a hr)
         have := c9P (ihj y c' a h hr')
         rw [hw] at this
         exact this
        ·
         exact hno h
     obtain ⟨c', hw, hr'⟩ := hr.again hx (hlen c st a hr)
     have := e1N (key k x c' a h hr')
     rw [hw] at this
     exact this
    ·
     exact hno h
   ·
    exact hno h
  | _ => simp only [ev] at h; exact hno h
end
theorem d1P : ∀ (l : List BSh) (x : BShD l) (i : Nat), i < a7I l → ∃ t v, a0H (a2Q l x) i = .box t v
 | .box t s :: l, x, 0, _ => ⟨t, _, rfl⟩
 | .box t s :: l, x, i + 1, h => d1P l x.2 i (by simpa [a7I] using h)
 | [], _, _, h => by simp [a7I] at h
 | .row _ :: _, _, _, h => by simp [a7I] at h
theorem f2G {c : Cx} {i : Nat} {t : Ty} {v : PV} (hB : BlkOk c i) (hb : a0H c.H i = .box t v) : VOk c (.ptr i []) (c.ρ i) := by
 unfold BlkOk at hB
 rw [hb] at hB
 obtain ⟨r, cs, ty, h1, _⟩ := hB
 refine ⟨[c.ρ i], ⟨c.ρ i, rfl, by rw [h1]; rfl, ?_⟩, rfl⟩
 unfold PtrOk
 rw [hb]
 exact ⟨r, 0, t, h1, by cases t <;> rfl, h1⟩
theorem f0I {c : Cx} {i : Nat} {t : Ty} {v : PV} {u : Value} (hb : a0H c.H i = .box t v) (h : VOk c (.ptr i []) u) : u = c.ρ i := by
 obtain ⟨cs, ⟨w, e, _, h1⟩, h2⟩ := h
 subst e
 have h2 : u = w := h2
 subst h2
 unfold PtrOk at h1
 rw [hb] at h1
 obtain ⟨r, o, u', h3, h4, h5⟩ := h1
 have : o = 0 := by
  have e : a1Y t [] = some (0, t) := by cases t <;> rfl
  rw [e] at h4
  exact ((Prod.mk.inj (Option.some.inj h4)).1).symm
 rw [h5, h3, this]
def c6P (ρ : Nat → Value) : Nat → Nat → List Value
 | _, 0 => []
 | i, n + 1 => ρ i :: c6P ρ (i + 1) n
theorem d0O (ρ : Nat → Value) : ∀ (n i j : Nat), j < n → (c6P ρ i n)[j]? = some (ρ (i + j))
 | 0, _, _, h => by omega
 | n + 1, i, 0, _ => rfl
 | n + 1, i, j + 1, h => by
  simp only [c6P, List.getElem?_cons_succ]
  rw [d0O ρ n (i + 1) j (by omega), show i + 1 + j = i + (j + 1) by omega]
theorem d1I {c : Cx} {l : List BSh} {x : BShD l} (hB : ∀ i, BlkOk c i) (hH : c.H = a2Q l x) : ∀ (n i : Nat), i + n ≤ a7I l → All2 (VOk c) (d8H i n) (c6P c.ρ i n)
 | 0, _, _ => trivial
 | n + 1, i, h => by
  obtain ⟨t, v, hb⟩ := d1P l x i (by omega)
  exact ⟨f2G (hB i) (by rw [hH]; exact hb), d1I hB hH n (i + 1) (by omega)⟩
def c6G (ρ : Nat → Value) (l : List BSh) : List (List Value) :=
 match a7I l with
 | 0 => []
 | n + 1 => [c6P ρ 0 (n + 1)]
theorem d8E {c : Cx} {l : List BSh} {x : BShD l} (hB : ∀ i, BlkOk c i) (hH : c.H = a2Q l x) : All2 (All2 (VOk c)) (c7W l) (c6G c.ρ l) := by
 unfold c7W c6G
 cases h : a7I l with
 | zero => trivial
 | succ n => exact ⟨d1I hB hH (n + 1) 0 (by omega), trivial⟩
theorem d2P (ρ : Nat → Value) (l : List BSh) {st : List (List PV)} {c : Cx} (h : All2 (All2 (VOk c)) st (c6G ρ l)) : All2 (VOk c) (f0V st) (c6P ρ 0 (a7I l)) := by
 unfold c6G at h
 cases hk : a7I l with
 | zero =>
  rw [hk] at h
  cases st with
  | nil => exact trivial
  | cons _ _ => exact h.elim
 | succ n =>
  rw [hk] at h
  cases st with
  | nil => exact h.elim
  | cons s r => exact h.1
theorem d5Y {X Y : Type} {R : X → Y → Prop} : ∀ {l : List X} {r : List Y} (i : Nat) {y : Y}, All2 R l r → r[i]? = some y → ∃ x, l[i]? = some x ∧ R x y
 | [], [], _, _, _, h => by simp at h
 | x :: l, y :: r, 0, z, h, hi => by
  simp only [List.getElem?_cons_zero, Option.some.injEq] at hi
  subst hi
  exact ⟨x, rfl, h.1⟩
 | x :: l, y :: r, i + 1, z, h, hi => by
  obtain ⟨w, h1, h2⟩ := d5Y i h.2 (by simpa using hi)
  exact ⟨w, by simpa using h1, h2⟩
 | [], _ :: _, _, _, h, _ => h.elim
 | _ :: _, [], _, _, h, _ => h.elim
theorem a0G {E : Env} (hE : EnvOk E) (hodd : d6T E.P) {f : FuncId} {C : Con} (h : ∀ x y, C.F x = some y → ∃ A n k, a0U E A f C.In C.Out n k x = some y) (hko : c0L C.In.heap C.Out.heap = true := by rfl) : a1G E.P f C := by
 intro x y hxy c vals hS hH hargs
 obtain ⟨A, n, k, h⟩ := h x y hxy
 unfold a0U at h
 split at h
 ·
  rename_i fn hfn
  split at h
  ·
   rename_i body hb
   right
   refine ⟨b2B hfn hb (hodd f fn hfn), calls_of_wp hfn hb ?_⟩
   have hM := hS.mem
   refine f2B hE hodd A k n (Option C.Out.D) (fun r => r = some y) none [f] 0 body _ ⟨frame fn (a1I C.In.slots x.1), c7W C.In.heap, a2Q C.In.heap x.2⟩ c _ _ (c6G c.ρ C.In.heap) _ (by simp) h ⟨hM, hH, c9O hargs, d8E hS.blk hH, rfl, rfl⟩ ?_
   have fin : ∀ (s : St) (c' : Cx) (a' : Act), c7M E fn C.Out s = some y →
     Rep c.w (G0of c) (c0A c) (vals.toArray ++ Array.replicate (fn.ntmps - vals.toArray.size) undef).size (c6G c.ρ C.In.heap) c' s a' →
     a'.defers = [] ∧ ∃ v, (results fn a'.tmps).run E.P c'.w = .ok v c'.w ∧ ∃ v', Ending.returned v = .returned v' ∧ ∃ c2 : Cx, c2.w = c'.w ∧ c2.H = a2Q C.Out.heap y.2 ∧ VOk c2 (tuple (a1I C.Out.slots y.1)) v' ∧ Mem c.w (G0of c) (c0A c) c2 ∧ ∀ i, i < a7I C.In.heap → c2.ρ i = c.ρ i := by
    intro s c' a' h hr
    unfold c7M at h
    split at h
    ·
     rename_i rs σ hrs hσ
     split at h
     ·
      rename_i z m hz hlen
      have h := Option.some.inj h
      subst h
      simp only [Bool.and_eq_true] at hlen
      obtain ⟨vs, h1, h2⟩ := c7Y hE hr _ _ hrs
      rw [← hr.heap] at hz
      obtain ⟨hle, c2, hρ2, hsim, hw, hH2, hM2, hargs2⟩ := c3N hr.mem hz
      obtain ⟨us', e1, e2, h3⟩ := hargs2 vs (All2.mono (fun _ _ h => d3L h) _ _ h2)
      have hl := Nat.eq_of_beq_eq_true hlen.1
      rw [List.drop_of_length_le (by have := All2.len h2; omega), List.append_nil] at e1
      subst e1
      refine ⟨hr.defers, _, b8R h1, _, rfl, c2, hw, hH2, c2V (c0S _ _ (c4J _ _ hlen.2) h3), hM2, fun i hi => ?_⟩
      have hhd := d2P c.ρ C.In.heap hr.stk
      obtain ⟨pv, q1, q2⟩ := d5Y i hhd (d0O c.ρ (a7I C.In.heap) 0 i hi)
      rw [Nat.zero_add] at q2
      obtain ⟨_, q3⟩ := d4E _ _ _ _ hσ
      obtain ⟨b, q4, q5⟩ := q3 i (by
       rcases Nat.lt_or_ge i (f0V s.stk).length with h | h
       ·
        exact h
       ·
        rw [List.getElem?_eq_none h] at q1; cases q1)
      rw [q1] at q4
      have q4 := Option.some.inj q4
      subst q4
      rw [Nat.zero_add] at q5
      have q6 := hle.1 i b q5
      obtain ⟨t, w, w', g1, g2⟩ := (c2E _ _ x.2 z.2 hko i hi).2
      have hs := hsim i b q6
      rw [g2] at hs
      rw [hρ2 i b q6]
      cases hcb : a0H c'.H b with
      | box t' v' => exact (f0I hcb q2).symm
      | _ => rw [hcb] at hs; simp [b2S] at hs
     ·
      cases h
    ·
     cases h
   exact ⟨fun s c' a' h hr => fin s c' a' h hr, fun i s c' a' h _ => (by cases h), fun s c' a' h hr => fin s c' a' h hr⟩
  ·
   cases h
 ·
  cases h
section
variable {base : World} {G0 own0 : Nat → Prop}
theorem b5O {v : Value} (h : v.oneCell' = true) : ∀ vs, v ≠ .tuple vs := by
 intro vs e
 subst e
 cases h
theorem d8R {c : Cx} (hM : Mem base G0 own0 c) {n : Nat} (hown : ∀ b r, live (a0H c.H b) = true → a3M (c.ρ b) = some r → n ≤ r) {s : Sh} {pv : PV} (hf : c8I c.H s pv = true) {v : Value} (hv : VOk c pv v) : b8A n v ∧ ∀ vs, v ≠ .tuple vs := by
 cases s with
 | pl t =>
  simp only [c8I] at hf
  split at hf
  ·
   rename_i x hx
   obtain ⟨us, hc, e, hE⟩ := b6N hM hv hx
   simp only [Bool.or_eq_true, Bool.not_eq_true'] at hf
   rcases hf with hf | hf
   ·
    have h1 := a7U (n := n) t hf hE
    cases t with
    | int k => simp only [Enc] at hE; subst hE; exact ⟨by rw [e]; exact h1 _ (List.mem_singleton_self _), by intro vs h; rw [e] at h; cases h⟩
    | bool => simp only [Enc] at hE; subst hE; exact ⟨by rw [e]; exact h1 _ (List.mem_singleton_self _), by intro vs h; rw [e] at h; cases h⟩
    | str => obtain ⟨hE, _⟩ := hE; subst hE; exact ⟨by rw [e]; exact h1 _ (List.mem_singleton_self _), by intro vs h; rw [e] at h; cases h⟩
    | opq => exact hE.elim
    | sl t => cases hf
    | nil => rw [e]; exact ⟨fun ad l cap h => (by cases h), fun vs h => (by cases h)⟩
    | cons a b => rw [e]; exact ⟨fun ad l cap h => (by cases h), fun vs h => (by cases h)⟩
    | arr k t => rw [e]; exact ⟨fun ad l cap h => (by cases h), fun vs h => (by cases h)⟩
   ·
    cases pv with
    | nils =>
     obtain ⟨cs, h1, h2⟩ := hv
     have : cs = [.slice none 0 0] := h1
     subst this
     rw [h2]
     exact ⟨fun ad l cap h => (by cases h), fun vs h => (by cases h)⟩
    | whole b =>
     obtain ⟨cs, ⟨u, e1, h1, hw⟩, h2⟩ := hv
     subst e1
     have h2 : v = u := h2
     subst h2
     unfold a7W at hw
     have hl : live (a0H c.H b) = true := hf
     cases hb : a0H c.H b with
     | row t l =>
      simp only [hb] at hw
      refine ⟨fun ad l cap h => .inr ?_, b5O h1⟩
      refine hown b ad.block hl ?_
      rw [← hw, h]; rfl
     | dead => simp [hb, live] at hl
     | unborn => simp [hb, live] at hl
     | box t l => simp [hb] at hw
    | row b lo k =>
     obtain ⟨cs, ⟨u, e1, h1, hw⟩, h2⟩ := hv
     subst e1
     have h2 : v = u := h2
     subst h2
     unfold c0B at hw
     have hl : live (a0H c.H b) = true := hf
     cases hb : a0H c.H b with
     | row t l =>
      simp only [hb] at hw
      obtain ⟨_, ⟨h0, a, cap, h3⟩ | ⟨r, cap, cap', h3, h4, _⟩⟩ := hw
      ·
       refine ⟨fun ad l cap h => .inl ?_, b5O h1⟩
       rw [h3] at h; cases h; rfl
      ·
       refine ⟨fun ad l cap h => .inr ?_, b5O h1⟩
       rw [h4] at h
       cases h
       exact hown b r hl (by rw [h3]; rfl)
     | dead => simp [hb, live] at hl
     | unborn => simp [hb, live] at hl
     | box t l => simp [hb] at hw
    | _ => simp at hf
  ·
   cases hf
 | _ => simp [c8I] at hf
theorem d0C {c : Cx} (hM : Mem base G0 own0 c) {n : Nat} (hown : ∀ b r, live (a0H c.H b) = true → a3M (c.ρ b) = some r → n ≤ r) : ∀ (l : List Sh) (rs : List PV) (vs : List Value), b7H c.H l rs = true → All2 (VOk c) rs vs → ∀ u ∈ vs, b8A n u ∧ ∀ ws, u ≠ .tuple ws
 | [], [], [], _, _ => fun u hu => by simp at hu
 | [], [], _ :: _, _, h => h.elim
 | [], _ :: _, _, h, _ => by simp [b7H] at h
 | _ :: _, [], _, h, _ => by simp [b7H] at h
 | _ :: _, _ :: _, [], _, h => h.elim
 | s :: l, p :: rs, v :: vs, h, ha => by
  simp only [b7H, Bool.and_eq_true] at h
  intro u hu
  simp only [List.mem_cons] at hu
  rcases hu with rfl | hu
  ·
   exact d8R hM hown h.1 ha.1
  ·
   exact d0C hM hown l rs vs h.2 ha.2 u hu
end
theorem d0L {n : Nat} {vs : List Value} (h : ∀ u ∈ vs, b8A n u ∧ ∀ ws, u ≠ .tuple ws) : c9T n (c1P vs) := by
 match vs, h with
 | [], _ => exact ⟨fun ad l cap h => (by simp [c1P] at h), fun ws h u hu => by simp [c1P] at h; subst h; simp at hu⟩
 | [v], h => exact ⟨(h v (by simp)).1, fun ws e => absurd e ((h v (by simp)).2 ws)⟩
 | v :: w :: r, h => exact ⟨fun ad l cap h => (by simp [c1P] at h), fun ws e u hu => by simp [c1P] at e; subst e; exact (h u (by simpa using hu)).1⟩
theorem d3P {E : Env} (hE : EnvOk E) (hodd : d6T E.P) {f : FuncId} {C : Con} (h : ∀ x y, C.F x = some y → ∃ A n k, c4M E A f C.In C.Out n k x = some y) : ConFresh E.P f C := by
 intro x y hxy c vals hS hH hargs
 obtain ⟨A, n, k, h⟩ := h x y hxy
 unfold c4M at h
 split at h
 ·
  rename_i fn hfn
  split at h
  ·
   rename_i body hb hin
   right
   refine ⟨b2B hfn hb (hodd f fn hfn), calls_of_wp hfn hb ?_⟩
   have hM := hS.mem
   have hH0 : c.H = [] := by
    have h1 : (a2Q C.In.heap x.2).length = 0 := (a7Q C.In.heap x.2).trans (congrArg List.length hin)
    rw [hH]
    exact List.eq_nil_of_length_eq_zero h1
   refine f2B hE hodd A k n (Option C.Out.D) (fun r => r = some y) none [f] 0 body _ ⟨frame fn (a1I C.In.slots x.1), [], []⟩ c _ _ [] _ (by simp) h ⟨hM, hH0, c9O hargs, trivial, rfl, rfl⟩ ?_
   have hnoown : ∀ r, ¬ c0A c r := by
    rintro r ⟨b, hb, _⟩
    simp [hH0, a0H, live] at hb
   have fin : ∀ (s : St) (c' : Cx) (a' : Act), c2L E fn C.Out s = some y →
     Rep c.w (G0of c) (c0A c) (vals.toArray ++ Array.replicate (fn.ntmps - vals.toArray.size) undef).size [] c' s a' →
     a'.defers = [] ∧ ∃ v, (results fn a'.tmps).run E.P c'.w = .ok v c'.w ∧ ∃ v', Ending.returned v = .returned v' ∧ (∃ c2 : Cx, c2.w = c'.w ∧ c2.H = a2Q C.Out.heap y.2 ∧ VOk c2 (tuple (a1I C.Out.slots y.1)) v' ∧ Mem c.w (G0of c) (c0A c) c2) ∧ c9T c.w.heap.size v' := by
    intro s c' a' h hr
    unfold c2L at h
    split at h
    ·
     rename_i rs hrs0
     split at h
     ·
      rename_i hfa
      unfold c7M at h
      split at h
      ·
       rename_i rs' σ hrs hσ
       rw [hrs0] at hrs
       have hrr := Option.some.inj hrs
       subst hrr
       split at h
       ·
        rename_i z m hz hlen
        have h := Option.some.inj h
        subst h
        simp only [Bool.and_eq_true] at hlen
        obtain ⟨vs, h1, h2⟩ := c7Y hE hr _ _ hrs0
        rw [← hr.heap] at hz hfa
        obtain ⟨_, c2, _, _, hw, hH2, hM2, hargs2⟩ := c3N hr.mem hz
        have hvs := All2.mono (fun _ _ h => d3L h) _ _ h2
        obtain ⟨us', e1, e2, h3⟩ := hargs2 vs hvs
        have hl := Nat.eq_of_beq_eq_true hlen.1
        rw [List.drop_of_length_le (by have := All2.len h2; omega), List.append_nil] at e1
        subst e1
        refine ⟨hr.defers, _, b8R h1, _, rfl, ⟨c2, hw, hH2, c2V (c0S _ _ (c4J _ _ hlen.2) h3), hM2⟩, d0L (d0C hr.mem (fun b r hl he => ?_) _ _ _ hfa hvs)⟩
        rcases hr.mem.own b r hl he with h | h
        ·
         exact absurd h (hnoown r)
        ·
         exact h
       ·
        cases h
      ·
       cases h
     ·
      cases h
    ·
     cases h
   exact ⟨fun s c' a' h hr => fin s c' a' h hr, fun i s c' a' h _ => (by cases h), fun s c' a' h hr => fin s c' a' h hr⟩
  ·
   cases h
 ·
  cases h
theorem ConFresh.con {P : Program} {f : FuncId} {C : Con} (h : ConFresh P f C) (hin : C.In.heap = [] := by rfl) : a1G P f C := by
 intro x y hxy c vals hS hH hargs
 have hk : ∀ i, ¬ i < a7I C.In.heap := fun i hi => by rw [hin] at hi; simp [a7I] at hi
 rcases h x y hxy c vals hS hH hargs with ⟨v, w', h1, ⟨c', k1, k2, k3, k4⟩, _⟩ | ⟨h1, h2⟩
 ·
  exact .inl ⟨v, w', h1, c', k1, k2, k3, k4, fun i hi => absurd hi (hk i)⟩
 ·
  exact .inr ⟨h1, h2.mono fun e w' ⟨v, he, ⟨c', k1, k2, k3, k4⟩, _⟩ => ⟨v, he, c', k1, k2, k3, k4, fun i hi => absurd hi (hk i)⟩⟩
end Sym

/- Functions without a body: sums with a carry. -/
namespace Sym
open Go
abbrev u64 : Ty := .int .u64
def b0S (x : (⟨[.pl u64, .pl u64, .pl u64], []⟩ : Tm).D) : Option (⟨[.pl u64, .pl u64], []⟩ : Tm).D :=
 match Nat.ble (I.nat (k := .u64) x.1.2.2.1) 1 with
 | true => some ((I.of .u64 (x.1.1.val + x.1.2.1.val + x.1.2.2.1.val), I.of .u64 ((x.1.1.val + x.1.2.1.val + x.1.2.2.1.val) / 18446744073709551616), ()), ())
 | false => none
def b8D (x : (⟨[.pl u64, .pl u64, .pl u64], []⟩ : Tm).D) : Option (⟨[.pl u64, .pl u64], []⟩ : Tm).D :=
 match Nat.ble (I.nat (k := .u64) x.1.2.2.1) 1 with
 | true => some ((I.of .u64 (x.1.1.val - x.1.2.1.val - x.1.2.2.1.val), I.of .u64 (bif decide (x.1.1.val < x.1.2.1.val + x.1.2.2.1.val) then 1 else 0), ()), ())
 | false => none
def c4T : Con := ⟨_, _, b0S⟩
def d6K : Con := ⟨_, _, b8D⟩
def e5B : Array Value → Sem Value := fun args => do
 let (x, y, c) ← Extern.MathBitsCarry.three "Add64" args
 pure (Extern.MathBitsCarry.pair ((x + y + c) % Extern.MathBitsCarry.m64) ((x + y + c) / Extern.MathBitsCarry.m64))
def e8T : Array Value → Sem Value := fun args => do
 let (x, y, b) ← Extern.MathBitsCarry.three "Sub64" args
 pure (Extern.MathBitsCarry.pair ((x + Extern.MathBitsCarry.m64 - y - b) % Extern.MathBitsCarry.m64) (if x < y + b then 1 else 0))
theorem b5E (x : I .u64) : 0 ≤ x.val ∧ x.val < 18446744073709551616 := by
 have h := x.ok
 simp only [IntKind.wrap, IntKind.bits, IntKind.signed, Bool.false_and, Bool.false_eq_true, if_false] at h
 constructor
 ·
  rw [← h]; exact Int.emod_nonneg _ (by decide)
 ·
  rw [← h]; exact Int.emod_lt_of_pos _ (by decide)
theorem wrap_u64 (n : Int) : IntKind.u64.wrap n = n % 18446744073709551616 := rfl
theorem c7F {P : Program} {f : FuncId} {fn : Func} {e : Array Value → Sem Value} (hf : P.funcs[f]? = some fn) (hb : fn.body = none) (hn : (fn.name == "runtime.NumGoroutine") = false) (hx : (Extern.findNext fn).isNone = true) (he : Extern.find fn = some e) (args : Array Value) (w : World) {v : Value} (hr : (e args).run P w = .ok v w) :
  (callFunc f args).run P w = .ok (.value v) w := by
 unfold callFunc
 rw [Sem.run_bind]
 have : (program : Sem Program).run P w = .ok P w := rfl
 rw [this, Result.andThen_ok]
 simp only [hf, hn, hb, Option.isNone_none, if_true, Bool.false_eq_true, if_false]
 rw [Option.isNone_iff_eq_none] at hx
 simp only [hx, he]
 rw [Sem.run_bind]
 have hm : (mark (.extern f) : Sem Unit).run P w = .ok () w := rfl
 rw [hm, Result.andThen_ok]
 simp [hr]
theorem d1K {P : Program} {s : String} {w : World} (x y c : I .u64) (hc : Nat.ble c.nat 1 = true) : (Extern.MathBitsCarry.three s #[.int .u64 x.val, .int .u64 y.val, .int .u64 c.val]).run P w = .ok (x.nat, y.nat, c.nat) w := by
 have hc : ¬ c.val.toNat > 1 := by have := Nat.le_of_ble_eq_true hc; simp only [I.nat] at this; omega
 have h3 : ∀ (x y c : Value), Extern.MathBitsCarry.three s #[x, y, c] = (do
  let c := (← asInt c).toNat
  if c > 1 then unsupported (.noEntry ("extern/math/bits." ++ s ++ ": a carry that is neither 0 nor 1"))
  pure ((← asInt x).toNat, (← asInt y).toNat, c)) := fun _ _ _ => rfl
 rw [h3]
 have ha : ∀ (i : I .u64), (asInt (.int .u64 i.val)).run P w = .ok i.val w := fun i => rfl
 simp only [Sem.run_bind, ha, Result.andThen_ok, hc, if_false, Sem.run_pure]
 rfl
theorem c9S {P : Program} {f : FuncId} {F : (⟨[.pl u64, .pl u64, .pl u64], []⟩ : Tm).D → Option (⟨[.pl u64, .pl u64], []⟩ : Tm).D}
  (h : ∀ (x y c : I .u64) (z q : I .u64), F ((x, y, c, ()), ()) = some ((z, q, ()), ()) → ∀ w, (callFunc f #[.int .u64 x.val, .int .u64 y.val, .int .u64 c.val]).run P w = .ok (.value (.tuple #[.int .u64 z.val, .int .u64 q.val])) w) :
  a1G P f ⟨_, _, F⟩ := by
 rintro ⟨⟨x, y, c, ⟨⟩⟩, ⟨⟩⟩ ⟨⟨z, q, ⟨⟩⟩, ⟨⟩⟩ hF cx vals hS hH hargs
 match vals, hargs with
 | [a, b, d], ⟨h1, h2, h3, _⟩ =>
  left
  rw [b0T h1, b0T h2, b0T h3]
  refine ⟨_, _, h x y c z q hF cx.w, cx, rfl, hH, ⟨[_, _], rfl, [_], [_], rfl, rfl, [_], [], rfl, rfl, rfl⟩, hS.mem, fun _ _ => rfl⟩
theorem e2Y {P : Program} {f : FuncId} {fn : Func} (hf : P.funcs[f]? = some fn) (hb : fn.body = none) (hn : (fn.name == "runtime.NumGoroutine") = false) (hx : (Extern.findNext fn).isNone = true) (he : Extern.find fn = some e5B) : a1G P f c4T := by
 refine c9S fun x y c z q hF w => c7F hf hb hn hx he _ w ?_
 simp only [b0S] at hF
 split at hF
 ·
  rename_i hc
  have hF := Option.some.inj hF
  have e1 := congrArg (fun (p : (I .u64 × I .u64 × Unit) × Unit) => p.1.1) hF
  have e2 := congrArg (fun (p : (I .u64 × I .u64 × Unit) × Unit) => p.1.2.1) hF
  simp only at e1 e2
  subst e1 e2
  simp only [e5B, Sem.run_bind, d1K x y c hc, Result.andThen_ok, Sem.run_pure]
  have rx := b5E x
  have ry := b5E y
  have rc := b5E c
  have hc : c.val.toNat ≤ 1 := Nat.le_of_ble_eq_true hc
  unfold Extern.MathBitsCarry.pair I.nat Extern.MathBitsCarry.m64
  congr
  ·
   show Int.ofNat _ = IntKind.u64.wrap _
   rw [wrap_u64]
   try simp only [Int.ofNat_eq_natCast]
   omega
  ·
   show Int.ofNat _ = IntKind.u64.wrap _
   rw [wrap_u64]
   try simp only [Int.ofNat_eq_natCast]
   omega
 ·
  cases hF
theorem e3K {P : Program} {f : FuncId} {fn : Func} (hf : P.funcs[f]? = some fn) (hb : fn.body = none) (hn : (fn.name == "runtime.NumGoroutine") = false) (hx : (Extern.findNext fn).isNone = true) (he : Extern.find fn = some e8T) : a1G P f d6K := by
 refine c9S fun x y c z q hF w => c7F hf hb hn hx he _ w ?_
 simp only [b8D] at hF
 split at hF
 ·
  rename_i hc
  have hF := Option.some.inj hF
  have e1 := congrArg (fun (p : (I .u64 × I .u64 × Unit) × Unit) => p.1.1) hF
  have e2 := congrArg (fun (p : (I .u64 × I .u64 × Unit) × Unit) => p.1.2.1) hF
  simp only at e1 e2
  subst e1 e2
  simp only [e8T, Sem.run_bind, d1K x y c hc, Result.andThen_ok, Sem.run_pure]
  have rx := b5E x
  have ry := b5E y
  have rc := b5E c
  have hc : c.val.toNat ≤ 1 := Nat.le_of_ble_eq_true hc
  unfold Extern.MathBitsCarry.pair I.nat Extern.MathBitsCarry.m64
  congr
  ·
   show Int.ofNat _ = IntKind.u64.wrap _
   rw [wrap_u64]
   try simp only [Int.ofNat_eq_natCast]
   omega
  ·
   show Int.ofNat _ = IntKind.u64.wrap _
   rw [wrap_u64]
   by_cases hlt : x.val < y.val + c.val
   ·
    rw [if_pos (by omega)]
    simp [hlt]
   ·
    rw [if_neg (by omega)]
    simp [hlt]
 ·
  cases hF
end Sym

/- An environment out of lists. -/
namespace Sym
open Go
def d7R {X : Type} : List (Nat × X) → Nat → Option X
 | [], _ => none
 | (i, x) :: l, n => match Nat.beq i n with
  | true => some x
  | false => d7R l n
theorem b6K {X : Type} : ∀ {l : List (Nat × X)} {n : Nat} {x : X}, d7R l n = some x → (n, x) ∈ l
 | (i, y) :: l, n, x, h => by
  simp only [d7R] at h
  split at h
  ·
   rename_i hb
   have := Nat.eq_of_beq_eq_true hb
   subst this
   simp only [Option.some.injEq] at h
   subst h
   exact List.mem_cons_self
  ·
   exact List.mem_cons_of_mem _ (b6K h)
def memL : List Nat → Nat → Bool
 | [], _ => false
 | i :: l, n => Nat.beq i n || memL l n
def e2W : List (Nat × String × FuncId × Option Nat) → Nat → String → Option (FuncId × Option Nat)
 | [], _, _ => none
 | (i, s, f, d) :: l, n, m => match Nat.beq i n && s == m with
  | true => some (f, d)
  | false => e2W l n m
def a1M (P : Program) (tys : List (Nat × Ty)) (eqs : List (Nat × Ty)) (hows : List (Nat × How)) (own : List Nat := []) (meths : List (Nat × String × FuncId × Option Nat) := []) : Env := ⟨P, d7R tys, d7R eqs, d7R hows, memL own, e2W meths⟩
theorem d4Q {P : Program} : ∀ {l : List (Nat × String × FuncId × Option Nat)} {n : Nat} {m : String} {f : FuncId} {d : Option Nat}, l.all (fun x => d8U P x.1 x.2.1 x.2.2.1 x.2.2.2) = true → e2W l n m = some (f, d) → c1R P n m f d
 | [], _, _, _, _, _, h => by cases h
 | (i, s, g, e) :: l, n, m, f, d, ha, h => by
  simp only [List.all_cons, Bool.and_eq_true] at ha
  simp only [e2W] at h
  split at h
  ·
   rename_i hb
   simp only [Bool.and_eq_true, beq_iff_eq] at hb
   have h1 := Nat.eq_of_beq_eq_true hb.1
   have h2 := hb.2
   simp only [Option.some.injEq, Prod.mk.injEq] at h
   obtain ⟨rfl, rfl⟩ := h
   subst h1 h2
   exact f1T ha.1
  ·
   exact d4Q ha.2 h
def HowsOk (P : Program) : List (Nat × How) → Prop
 | [] => True
 | (f, .con C) :: l => a1G P f C ∧ HowsOk P l
 | (_, .inl) :: l => HowsOk P l
 | (f, .fresh C) :: l => ConFresh P f C ∧ HowsOk P l
theorem HowsOk.con {P : Program} : ∀ {l : List (Nat × How)} {f : FuncId} {C : Con}, HowsOk P l → (f, How.con C) ∈ l → a1G P f C
 | (g, .con D) :: l, f, C, h, hm => by
  simp only [List.mem_cons] at hm
  rcases hm with hm | hm
  ·
   injection hm with h1 h2
   injection h2 with h2
   subst h1 h2
   exact h.1
  ·
   exact HowsOk.con h.2 hm
 | (g, .inl) :: l, f, C, h, hm => by
  simp only [List.mem_cons] at hm
  rcases hm with hm | hm
  ·
   injection hm with h1 h2
   cases h2
  ·
   exact HowsOk.con (l := l) h hm
 | (g, .fresh D) :: l, f, C, h, hm => by
  simp only [List.mem_cons] at hm
  rcases hm with hm | hm
  ·
   injection hm with h1 h2
   cases h2
  ·
   exact HowsOk.con h.2 hm
theorem HowsOk.fresh {P : Program} : ∀ {l : List (Nat × How)} {f : FuncId} {C : Con}, HowsOk P l → (f, How.fresh C) ∈ l → ConFresh P f C
 | (g, .fresh D) :: l, f, C, h, hm => by
  simp only [List.mem_cons] at hm
  rcases hm with hm | hm
  ·
   injection hm with h1 h2
   injection h2 with h2
   subst h1 h2
   exact h.1
  ·
   exact HowsOk.fresh h.2 hm
 | (g, .inl) :: l, f, C, h, hm => by
  simp only [List.mem_cons] at hm
  rcases hm with hm | hm
  ·
   injection hm with h1 h2
   cases h2
  ·
   exact HowsOk.fresh (l := l) h hm
 | (g, .con D) :: l, f, C, h, hm => by
  simp only [List.mem_cons] at hm
  rcases hm with hm | hm
  ·
   injection hm with h1 h2
   cases h2
  ·
   exact HowsOk.fresh h.2 hm
def eqiB (P : Program) (id : TypeId) (t : Ty) : Bool := tiB P id t && (t.isOpq || (eqtB P t id && (Nat.ble t.dep 9000 && (!t.isAgg || !P.eqGuardType P.depth id))))
theorem g0A {P : Program} {id : TypeId} {t : Ty} (h : eqiB P id t = true) : EqI P id t := by
 unfold eqiB at h
 simp only [Bool.and_eq_true, Bool.or_eq_true, Bool.not_eq_true'] at h
 obtain ⟨h1, h2⟩ := h
 refine ⟨(e4C h1).ok, ?_⟩
 rcases h2 with h2 | ⟨h2, h3, h4⟩
 ·
  left; cases t <;> first | rfl | cases h2
 ·
  right; exact ⟨h2, Nat.le_of_ble_eq_true h3, fun ha => h4.resolve_left (by rw [ha]; simp)⟩
theorem a1P {P : Program} {tys eqs : List (Nat × Ty)} {hows : List (Nat × How)} (h1 : tys.all (fun x => tiB P x.1 x.2) = true) (h2 : eqs.all (fun x => eqiB P x.1 x.2) = true) (h3 : HowsOk P hows) (h4 : P.follows .mixedOrders = true) {own : List Nat} {meths : List (Nat × String × FuncId × Option Nat)} (h5 : meths.all (fun x => d8U P x.1 x.2.1 x.2.2.1 x.2.2.2) = true := by rfl) : EnvOk (a1M P tys eqs hows own meths) := by
 refine ⟨fun id t h => ?_, fun id t h => ?_, fun f C h => h3.con (b6K h), fun f C h => h3.fresh (b6K h), h4, fun t name f d h => d4Q h5 h⟩
 ·
  rw [List.all_eq_true] at h1
  exact e4C (h1 _ (b6K h))
 ·
  rw [List.all_eq_true] at h2
  exact g0A (h2 _ (b6K h))
theorem e3X {P : Program} (h : P.funcs.toList.all (fun fn => !(fn.name == "runtime.NumGoroutine")) = true) : d6T P := by
 intro f fn hf
 rw [List.all_eq_true] at h
 have : fn ∈ P.funcs.toList := by
  rw [← Array.getElem?_toList] at hf
  exact List.mem_of_getElem? hf
 have := h fn this
 simpa using this
end Sym

/- Whole numbers of 256 bits: what the four words are worth. -/
namespace Sym
open Go
abbrev U : Type := I .u64 × I .u64 × I .u64 × I .u64 × Unit
abbrev u256 : Ty := .arr 4 (.int .u64)
abbrev i64 : Ty := .int .i64
theorem a0Z (x : I .u64) : (x.nat : Int) = x.val := by
 have := (b5E x).1
 simp only [I.nat]; omega
theorem a1J (x : I .u64) : x.nat < 18446744073709551616 := by
 have := b5E x
 simp only [I.nat]; omega
theorem b6A {n : Nat} (h : n < 18446744073709551616) : (I.of .u64 (n : Int)).nat = n := by
 show (IntKind.u64.wrap n).toNat = n
 rw [wrap_u64]; omega
theorem d6L (x : I .u64) : I.of .u64 (x.nat : Int) = x := by
 apply I.ext'
 show IntKind.u64.wrap _ = _
 rw [a0Z]; exact x.ok
def U.val (a : U) : Nat := a.1.nat + 18446744073709551616 * (a.2.1.nat + 18446744073709551616 * (a.2.2.1.nat + 18446744073709551616 * a.2.2.2.1.nat))
def U.of (n : Nat) : U := (I.of .u64 ((n % 18446744073709551616 : Nat) : Int), I.of .u64 ((n / 18446744073709551616 % 18446744073709551616 : Nat) : Int), I.of .u64 ((n / 340282366920938463463374607431768211456 % 18446744073709551616 : Nat) : Int), I.of .u64 ((n / 6277101735386680763835789423207666416102355444464034512896 % 18446744073709551616 : Nat) : Int), ())
def U.top : Nat := 115792089237316195423570985008687907853269984665640564039457584007913129639936
theorem U.lt (a : U) : a.val < U.top := by
 have h0 := a1J a.1
 have h1 := a1J a.2.1
 have h2 := a1J a.2.2.1
 have h3 := a1J a.2.2.2.1
 unfold U.val U.top
 omega
theorem U.val_of {n : Nat} (h : n < U.top) : (U.of n).val = n := by
 unfold U.val U.of
 unfold U.top at h
 simp only
 rw [b6A (by omega), b6A (by omega), b6A (by omega), b6A (by omega)]
 omega
theorem U.ext {a b : U} (h : a.val = b.val) : a = b := by
 obtain ⟨a0, a1, a2, a3, ⟨⟩⟩ := a
 obtain ⟨b0, b1, b2, b3, ⟨⟩⟩ := b
 unfold U.val at h
 simp only at h
 have i0 := a1J a0
 have i1 := a1J a1
 have i2 := a1J a2
 have i3 := a1J a3
 have j0 := a1J b0
 have j1 := a1J b1
 have j2 := a1J b2
 have j3 := a1J b3
 have e : ∀ {x y : I .u64}, x.nat = y.nat → x = y := fun {x y} h => by rw [← d6L x, ← d6L y, h]
 rw [e (show a0.nat = b0.nat by omega), e (show a1.nat = b1.nat by omega), e (show a2.nat = b2.nat by omega), e (show a3.nat = b3.nat by omega)]
theorem U.of_val (a : U) : U.of a.val = a := U.ext (U.val_of a.lt)
theorem a9W (x y c : I .u64) (hc : c.nat ≤ 1) : ∃ z q : I .u64, b0S ((x, y, c, ()), ()) = some ((z, q, ()), ()) ∧ z.nat + 18446744073709551616 * q.nat = x.nat + y.nat + c.nat ∧ q.nat ≤ 1 := by
 have hb : Nat.ble c.nat 1 = true := by rw [Nat.ble_eq]; exact hc
 refine ⟨_, _, by simp only [b0S, hb]; rfl, ?_⟩
 have hx := a0Z x
 have hy := a0Z y
 have hcv := a0Z c
 have lx := a1J x
 have ly := a1J y
 rw [← hx, ← hy, ← hcv]
 have e1 : (I.of .u64 ((x.nat : Int) + y.nat + c.nat)).nat = (x.nat + y.nat + c.nat) % 18446744073709551616 := by
  show (IntKind.u64.wrap _).toNat = _
  rw [wrap_u64]; omega
 have e2 : (I.of .u64 (((x.nat : Int) + y.nat + c.nat) / 18446744073709551616)).nat = (x.nat + y.nat + c.nat) / 18446744073709551616 := by
  show (IntKind.u64.wrap _).toNat = _
  rw [wrap_u64]; omega
 rw [e1, e2]
 omega
theorem b2C (x y c : I .u64) (hc : c.nat ≤ 1) : ∃ z q : I .u64, b8D ((x, y, c, ()), ()) = some ((z, q, ()), ()) ∧ z.nat + y.nat + c.nat = x.nat + 18446744073709551616 * q.nat ∧ q.nat ≤ 1 := by
 have hb : Nat.ble c.nat 1 = true := by rw [Nat.ble_eq]; exact hc
 refine ⟨_, _, by simp only [b8D, hb]; rfl, ?_⟩
 have hx := a0Z x
 have hy := a0Z y
 have hcv := a0Z c
 have lx := a1J x
 have ly := a1J y
 rw [← hx, ← hy, ← hcv]
 have e1 : ((I.of .u64 ((x.nat : Int) - y.nat - c.nat)).nat : Int) = ((x.nat : Int) - y.nat - c.nat) % 18446744073709551616 := by
  show ((IntKind.u64.wrap _).toNat : Int) = _
  rw [wrap_u64]; omega
 by_cases h : (x.nat : Int) < y.nat + c.nat
 ·
  have e2 : (I.of .u64 (bif decide ((x.nat : Int) < y.nat + c.nat) then 1 else 0)).nat = 1 := by simp [h]; rfl
  rw [e2]
  omega
 ·
  have e2 : (I.of .u64 (bif decide ((x.nat : Int) < y.nat + c.nat) then 1 else 0)).nat = 0 := by simp [h]; rfl
  rw [e2]
  omega
end Sym

/- What the functions of uint256 compute, told of whole numbers. (The functions are as the printer gave them.) -/
namespace Sym
open Go
abbrev UU : Tm := ⟨[.pl u256, .pl u256], []⟩
abbrev UE : Tm := ⟨[.pl u256, .pl i64], []⟩
def a1V (x : UU.D) : Option UE.D :=
 let a : U := x.1.1
 let b : U := x.1.2.1
 optF (none) (b0S ((a.1, (b.1, ((I.of .u64 0), ()))), ())) fun y0 =>
 optF (none) (b0S ((a.2.1, (b.2.1, (y0.1.2.1, ()))), ())) fun y1 =>
 optF (none) (b0S ((a.2.2.1, (b.2.2.1, (y1.1.2.1, ()))), ())) fun y2 =>
 optF (none) (b0S ((a.2.2.2.1, (b.2.2.2.1, (y2.1.2.1, ()))), ())) fun y3 =>
 brn (@I.neb .u64 y3.1.2.1 (I.of .u64 0))
 (some ((((I.of .u64 0), ((I.of .u64 0), ((I.of .u64 0), ((I.of .u64 0), ())))), ((I.of .i64 4), ())), ()))
 (some (((y0.1.1, (y1.1.1, (y2.1.1, (y3.1.1, ())))), ((I.of .i64 0), ())), ()))
def a8X (x : UU.D) : Option UE.D :=
 let a : U := x.1.1
 let b : U := x.1.2.1
 optF (none) (b8D ((a.1, (b.1, ((I.of .u64 0), ()))), ())) fun y0 =>
 optF (none) (b8D ((a.2.1, (b.2.1, (y0.1.2.1, ()))), ())) fun y1 =>
 optF (none) (b8D ((a.2.2.1, (b.2.2.1, (y1.1.2.1, ()))), ())) fun y2 =>
 optF (none) (b8D ((a.2.2.2.1, (b.2.2.2.1, (y2.1.2.1, ()))), ())) fun y3 =>
 brn (@I.neb .u64 y3.1.2.1 (I.of .u64 0))
 (some ((((I.of .u64 0), ((I.of .u64 0), ((I.of .u64 0), ((I.of .u64 0), ())))), ((I.of .i64 4), ())), ()))
 (some (((y0.1.1, (y1.1.1, (y2.1.1, (y3.1.1, ())))), ((I.of .i64 0), ())), ()))
def a3W (x : UU.D) : Option (⟨[.pl i64], []⟩ : Tm).D :=
 let a : U := x.1.1
 let b : U := x.1.2.1
 brn (@I.ltb .u64 a.2.2.2.1 b.2.2.2.1)
 (some (((I.of .i64 (-1)), ()), ()))
 (brn (@I.ltb .u64 b.2.2.2.1 a.2.2.2.1)
  (some (((I.of .i64 1), ()), ()))
  (brn (@I.ltb .u64 a.2.2.1 b.2.2.1)
  (some (((I.of .i64 (-1)), ()), ()))
  (brn (@I.ltb .u64 b.2.2.1 a.2.2.1)
   (some (((I.of .i64 1), ()), ()))
   (brn (@I.ltb .u64 a.2.1 b.2.1)
   (some (((I.of .i64 (-1)), ()), ()))
   (brn (@I.ltb .u64 b.2.1 a.2.1)
    (some (((I.of .i64 1), ()), ()))
    (brn (@I.ltb .u64 a.1 b.1)
    (some (((I.of .i64 (-1)), ()), ()))
    (brn (@I.ltb .u64 b.1 a.1)
     (some (((I.of .i64 1), ()), ()))
     (some (((I.of .i64 0), ()), ())))))))))
theorem d5D (x : I .u64) : I.neb x (I.of .u64 0) = !decide (x.nat = 0) := by
 unfold I.neb
 have : (I.of .u64 0).val = 0 := rfl
 rw [this, ← a0Z]
 congr 1
 simp
theorem b2O (x y : I .u64) : I.ltb x y = decide (x.nat < y.nat) := by
 unfold I.ltb
 rw [← a0Z, ← a0Z]
 simp
def addS (a b : U) : U × I .i64 := if a.val + b.val < U.top then (U.of (a.val + b.val), I.of .i64 0) else (U.of 0, I.of .i64 4)
def subS (a b : U) : U × I .i64 := if b.val ≤ a.val then (U.of (a.val - b.val), I.of .i64 0) else (U.of 0, I.of .i64 4)
def cmpS (a b : U) : I .i64 := if a.val < b.val then I.of .i64 (-1) else if b.val < a.val then I.of .i64 1 else I.of .i64 0
theorem b0A (a b : U) : a1V ((a, b, ()), ()) = some (((addS a b).1, (addS a b).2, ()), ()) := by
 obtain ⟨a0, a1, a2, a3, ⟨⟩⟩ := a
 obtain ⟨b0, b1, b2, b3, ⟨⟩⟩ := b
 obtain ⟨z0, q0, h0, e0, l0⟩ := a9W a0 b0 (I.of .u64 0) (by decide)
 obtain ⟨z1, q1, h1, e1, l1⟩ := a9W a1 b1 q0 l0
 obtain ⟨z2, q2, h2, e2, l2⟩ := a9W a2 b2 q1 l1
 obtain ⟨z3, q3, h3, e3, l3⟩ := a9W a3 b3 q2 l2
 have ez : (I.of .u64 0).nat = 0 := rfl
 rw [ez] at e0
 have n0 := a1J z0
 have n1 := a1J z1
 have n2 := a1J z2
 have n3 := a1J z3
 have step : a1V ((((a0, a1, a2, a3, ()) : U), ((b0, b1, b2, b3, ()) : U), ()), ()) = brn (@I.neb .u64 q3 (I.of .u64 0)) (some ((U.of 0, I.of .i64 4, ()), ())) (some ((((z0, z1, z2, z3, ()) : U), I.of .i64 0, ()), ())) := by
  unfold a1V
  simp only [h0, optF, h1, h2, h3]
  rfl
 rw [step, d5D]
 unfold addS
 have hs : U.val (a0, a1, a2, a3, ()) + U.val (b0, b1, b2, b3, ()) = U.val (z0, z1, z2, z3, ()) + U.top * q3.nat := by
  unfold U.val U.top
  simp only
  omega
 have hz := U.lt (z0, z1, z2, z3, ())
 by_cases hq : q3.nat = 0
 ·
  rw [hq, Nat.mul_zero, Nat.add_zero] at hs
  rw [hs, if_pos hz, U.of_val]
  simp [hq]; rfl
 ·
  have hq1 : q3.nat = 1 := by omega
  rw [hq1, Nat.mul_one] at hs
  rw [hs, if_neg (by omega)]
  simp [hq1]; rfl
theorem b7Z (a b : U) : a8X ((a, b, ()), ()) = some (((subS a b).1, (subS a b).2, ()), ()) := by
 obtain ⟨a0, a1, a2, a3, ⟨⟩⟩ := a
 obtain ⟨b0, b1, b2, b3, ⟨⟩⟩ := b
 obtain ⟨z0, q0, h0, e0, l0⟩ := b2C a0 b0 (I.of .u64 0) (by decide)
 obtain ⟨z1, q1, h1, e1, l1⟩ := b2C a1 b1 q0 l0
 obtain ⟨z2, q2, h2, e2, l2⟩ := b2C a2 b2 q1 l1
 obtain ⟨z3, q3, h3, e3, l3⟩ := b2C a3 b3 q2 l2
 have ez : (I.of .u64 0).nat = 0 := rfl
 rw [ez] at e0
 have n0 := a1J z0
 have n1 := a1J z1
 have n2 := a1J z2
 have n3 := a1J z3
 have step : a8X ((((a0, a1, a2, a3, ()) : U), ((b0, b1, b2, b3, ()) : U), ()), ()) = brn (@I.neb .u64 q3 (I.of .u64 0)) (some ((U.of 0, I.of .i64 4, ()), ())) (some ((((z0, z1, z2, z3, ()) : U), I.of .i64 0, ()), ())) := by
  unfold a8X
  simp only [h0, optF, h1, h2, h3]
  rfl
 rw [step, d5D]
 unfold subS
 have hs : U.val (z0, z1, z2, z3, ()) + U.val (b0, b1, b2, b3, ()) = U.val (a0, a1, a2, a3, ()) + U.top * q3.nat := by
  unfold U.val U.top
  simp only
  omega
 have key : ∀ va vb vz q : Nat, vz + vb = va + U.top * q → vz < U.top → q ≤ 1 → (q = 0 → vb ≤ va ∧ va - vb = vz) ∧ (q = 1 → ¬ vb ≤ va) := by
  intro va vb vz q h1 h2 h3
  refine ⟨fun h => ?_, fun h => ?_⟩
  ·
   subst h; rw [Nat.mul_zero] at h1; omega
  ·
   subst h; rw [Nat.mul_one] at h1; omega
 obtain ⟨k0, k1⟩ := key _ _ _ _ hs (U.lt (z0, z1, z2, z3, ())) l3
 by_cases hq : q3.nat = 0
 ·
  obtain ⟨k2, k3⟩ := k0 hq
  rw [if_pos k2, k3, U.of_val]
  simp [hq]; rfl
 ·
  have hq1 : q3.nat = 1 := by omega
  rw [if_neg (k1 hq1)]
  simp [hq1]; rfl
theorem a8L (a b : U) : a3W ((a, b, ()), ()) = some ((cmpS a b, ()), ()) := by
 obtain ⟨a0, a1, a2, a3, ⟨⟩⟩ := a
 obtain ⟨b0, b1, b2, b3, ⟨⟩⟩ := b
 unfold a3W cmpS U.val
 simp only [b2O]
 have n0 := a1J a0
 have n1 := a1J a1
 have n2 := a1J a2
 have n3 := a1J a3
 have m0 := a1J b0
 have m1 := a1J b1
 have m2 := a1J b2
 have m3 := a1J b3
 by_cases c1 : a3.nat < b3.nat
 ·
  simp only [c1, decide_true, cond_true, brn]; rw [if_pos (by omega)]; rfl
 by_cases c2 : b3.nat < a3.nat
 ·
  simp only [c1, c2, decide_true, decide_false, cond_true, cond_false, brn]; rw [if_neg (by omega), if_pos (by omega)]; rfl
 by_cases c3 : a2.nat < b2.nat
 ·
  simp only [c1, c2, c3, decide_true, decide_false, cond_true, cond_false, brn]; rw [if_pos (by omega)]; rfl
 by_cases c4 : b2.nat < a2.nat
 ·
  simp only [c1, c2, c3, c4, decide_true, decide_false, cond_true, cond_false, brn]; rw [if_neg (by omega), if_pos (by omega)]; rfl
 by_cases c5 : a1.nat < b1.nat
 ·
  simp only [c1, c2, c3, c4, c5, decide_true, decide_false, cond_true, cond_false, brn]; rw [if_pos (by omega)]; rfl
 by_cases c6 : b1.nat < a1.nat
 ·
  simp only [c1, c2, c3, c4, c5, c6, decide_true, decide_false, cond_true, cond_false, brn]; rw [if_neg (by omega), if_pos (by omega)]; rfl
 by_cases c7 : a0.nat < b0.nat
 ·
  simp only [c1, c2, c3, c4, c5, c6, c7, decide_true, decide_false, cond_true, cond_false, brn]; rw [if_pos (by omega)]; rfl
 by_cases c8 : b0.nat < a0.nat
 ·
  simp only [c1, c2, c3, c4, c5, c6, c7, c8, decide_true, decide_false, cond_true, cond_false, brn]; rw [if_neg (by omega), if_pos (by omega)]; rfl
 ·
  simp only [c1, c2, c3, c4, c5, c6, c7, c8, decide_false, cond_false, brn]; rw [if_neg (by omega), if_neg (by omega)]; rfl
end Sym

/- Rounds: more than any run takes, and never counted out. -/
namespace Sym
open Go
noncomputable def e0M (l : List Nat) : List (I .u8) := l.map fun (n : Nat) => I.of .u8 (n : Int)
theorem d5J : ∃ k : Nat, k = 2 ^ 64 := ⟨_, rfl⟩
noncomputable def K0 : Nat := Classical.choose d5J
theorem a5L : K0 = 2 ^ 64 := Classical.choose_spec d5J
end Sym

/- The given functions as plain functions, as the printer told them. -/
namespace Sym
open Go
noncomputable def a3V (x : (⟨[.pl (.sl (.int .i64))], []⟩ : Tm).D) : Option (⟨[.pl (.sl (.int .i64))], []⟩ : Tm).D :=
 let a : List (I .i64) := x.1.1
 iter none (fun x0 => brn (I.ltb (I.of .i64 0) x0.1.2.1) (brn (inB (I.sub x0.1.2.1 (I.of .i64 1)) (@lenL (I .i64) x0.1.1)) (brn (I.eqb (@rdL (I .i64) (I.of .i64 0) x0.1.1 (I.nat (I.sub x0.1.2.1 (I.of .i64 1)))) (I.of .i64 0)) (.again ((x0.1.1,((I.sub x0.1.2.1 (I.of .i64 1)),())),())) (.done (brn (inB' x0.1.2.1 (@lenL (I .i64) x0.1.1)) (some (((@subL (I .i64) x0.1.1 0 (I.nat x0.1.2.1)),()),())) none))) (.done none)) (.done (brn (inB' x0.1.2.1 (@lenL (I .i64) x0.1.1)) (some (((@subL (I .i64) x0.1.1 0 (I.nat x0.1.2.1)),()),())) none))) K0 ((a,((I.ofNat .i64 (@lenL (I .i64) a)),())),())
noncomputable def a3G (x : (⟨[.pl (.sl (.int .i64)), .pl (.sl (.int .i64))], []⟩ : Tm).D) : Option (⟨[.pl (.int .i64)], []⟩ : Tm).D :=
 let a : List (I .i64) := x.1.1
 let b : List (I .i64) := x.1.2.1
 brn (I.neb (I.ofNat .i64 (@lenL (I .i64) a)) (I.ofNat .i64 (@lenL (I .i64) b))) (brn (I.ltb (I.ofNat .i64 (@lenL (I .i64) a)) (I.ofNat .i64 (@lenL (I .i64) b))) (some (((I.of .i64 (-1)),()),())) (some ((I.of .i64 1,()),()))) (iter none (fun x0 => brn (I.leb (I.of .i64 0) x0.1.2.2.1) (brn (inB x0.1.2.2.1 (@lenL (I .i64) x0.1.1)) (brn (inB x0.1.2.2.1 (@lenL (I .i64) x0.1.2.1)) (brn (I.ltb (@rdL (I .i64) (I.of .i64 0) x0.1.1 (I.nat x0.1.2.2.1)) (@rdL (I .i64) (I.of .i64 0) x0.1.2.1 (I.nat x0.1.2.2.1))) (.done (some (((I.of .i64 (-1)),()),()))) (brn (inB x0.1.2.2.1 (@lenL (I .i64) x0.1.1)) (brn (inB x0.1.2.2.1 (@lenL (I .i64) x0.1.2.1)) (brn (I.ltb (@rdL (I .i64) (I.of .i64 0) x0.1.2.1 (I.nat x0.1.2.2.1)) (@rdL (I .i64) (I.of .i64 0) x0.1.1 (I.nat x0.1.2.2.1))) (.done (some ((I.of .i64 1,()),()))) (.again ((x0.1.1,(x0.1.2.1,((I.sub x0.1.2.2.1 (I.of .i64 1)),()))),()))) (.done none)) (.done none))) (.done none)) (.done none)) (.done (some ((I.of .i64 0,()),())))) K0 ((a,(b,((I.sub (I.ofNat .i64 (@lenL (I .i64) a)) (I.of .i64 1)),()))),()))
noncomputable def a2S (x : (⟨[.pl (.sl (.int .i64)), .pl (.sl (.int .i64))], []⟩ : Tm).D) : Option (⟨[.pl (.sl (.int .i64))], []⟩ : Tm).D :=
 let a : List (I .i64) := x.1.1
 let b : List (I .i64) := x.1.2.1
 brn (inB' (I.ofNat .i64 (@lenL (I .i64) a)) (I.nat (I.ofNat .i64 (@lenL (I .i64) a)))) (brn (inB' (I.ofNat .i64 (@lenL (I .i64) a)) 1073741824) (iter none (fun x0 => brn (I.ltb x0.1.2.2.2.1 (I.ofNat .i64 (@lenL (I .i64) x0.1.1))) (brn (inB x0.1.2.2.2.1 (@lenL (I .i64) x0.1.1)) (jn (fun (x1 : (((List (I .i64)) × ((List (I .i64)) × ((I .i64) × ((I .i64) × Unit)))) × ((List (I .i64)) × Unit))) => brn (I.ltb x1.1.2.2.2.1 (I.of .i64 0)) (brn (inB x1.1.2.2.1 (@lenL (I .i64) x1.2.1)) (.again ((x1.1.1,(x1.1.2.1,(I.of .i64 1,((I.add x1.1.2.2.1 (I.of .i64 1)),())))),((@setL (I .i64) x1.2.1 (I.nat x1.1.2.2.1) (I.add x1.1.2.2.2.1 (I.of .i64 65536))),()))) (.done none)) (brn (inB x1.1.2.2.1 (@lenL (I .i64) x1.2.1)) (.again ((x1.1.1,(x1.1.2.1,(I.of .i64 0,((I.add x1.1.2.2.1 (I.of .i64 1)),())))),((@setL (I .i64) x1.2.1 (I.nat x1.1.2.2.1) x1.1.2.2.2.1),()))) (.done none))) fun j1 => brn (I.ltb x0.1.2.2.2.1 (I.ofNat .i64 (@lenL (I .i64) x0.1.2.1))) (brn (inB x0.1.2.2.2.1 (@lenL (I .i64) x0.1.2.1)) (j1 ((x0.1.1,(x0.1.2.1,(x0.1.2.2.2.1,((I.sub (I.sub (@rdL (I .i64) (I.of .i64 0) x0.1.1 (I.nat x0.1.2.2.2.1)) x0.1.2.2.1) (@rdL (I .i64) (I.of .i64 0) x0.1.2.1 (I.nat x0.1.2.2.2.1))),())))),(x0.2.1,()))) (.done none)) (j1 ((x0.1.1,(x0.1.2.1,(x0.1.2.2.2.1,((I.sub (@rdL (I .i64) (I.of .i64 0) x0.1.1 (I.nat x0.1.2.2.2.1)) x0.1.2.2.1),())))),(x0.2.1,())))) (.done none)) (.done (iter none (fun x1 => brn (I.ltb (I.of .i64 0) x1.1.1) (brn (inB (I.sub x1.1.1 (I.of .i64 1)) (@lenL (I .i64) x1.2.1)) (brn (I.eqb (@rdL (I .i64) (I.of .i64 0) x1.2.1 (I.nat (I.sub x1.1.1 (I.of .i64 1)))) (I.of .i64 0)) (.again (((I.sub x1.1.1 (I.of .i64 1)),()),(x1.2.1,()))) (.done (brn (inB' x1.1.1 (@lenL (I .i64) x1.2.1)) (some (((@subL (I .i64) x1.2.1 0 (I.nat x1.1.1)),()),())) none))) (.done none)) (.done (brn (inB' x1.1.1 (@lenL (I .i64) x1.2.1)) (some (((@subL (I .i64) x1.2.1 0 (I.nat x1.1.1)),()),())) none))) K0 (((I.ofNat .i64 (@lenL (I .i64) x0.2.1)),()),(x0.2.1,()))))) K0 ((a,(b,(I.of .i64 0,(I.of .i64 0,())))),((@repD (I .i64) (I.nat (I.ofNat .i64 (@lenL (I .i64) a))) (I.of .i64 0)),()))) none) none
noncomputable def a5Z (x : (⟨[.pl (.sl (.int .i64)), .pl (.int .i64)], []⟩ : Tm).D) : Option (⟨[.pl (.sl (.int .i64)), .pl (.sl (.int .i64))], []⟩ : Tm).D :=
 let a : List (I .i64) := x.1.1
 let b : I .i64 := x.1.2.1
 brn (inB' (I.ofNat .i64 (@lenL (I .i64) a)) (I.nat (I.ofNat .i64 (@lenL (I .i64) a)))) (brn (inB' (I.ofNat .i64 (@lenL (I .i64) a)) 1073741824) (iter none (fun x0 => brn (I.leb (I.of .i64 0) x0.1.2.2.2.1) (brn (inB x0.1.2.2.2.1 (@lenL (I .i64) x0.1.1)) (brn (I.nz x0.1.2.1) (brn (I.nz x0.1.2.1) (brn (inB x0.1.2.2.2.1 (@lenL (I .i64) x0.2.1)) (.again ((x0.1.1,(x0.1.2.1,((I.rem (I.add (I.mul (I.of .i64 65536) x0.1.2.2.1) (@rdL (I .i64) (I.of .i64 0) x0.1.1 (I.nat x0.1.2.2.2.1))) x0.1.2.1),((I.sub x0.1.2.2.2.1 (I.of .i64 1)),())))),((@setL (I .i64) x0.2.1 (I.nat x0.1.2.2.2.1) (I.quo (I.add (I.mul (I.of .i64 65536) x0.1.2.2.1) (@rdL (I .i64) (I.of .i64 0) x0.1.1 (I.nat x0.1.2.2.2.1))) x0.1.2.1)),()))) (.done none)) (.done none)) (.done none)) (.done none)) (.done (optF none (a3V ((x0.2.1,()),())) fun y1 => optF none (a3V (((x0.1.2.2.1::[]),()),())) fun y2 => some ((y1.1.1,(y2.1.1,())),())))) K0 ((a,(b,(I.of .i64 0,((I.sub (I.ofNat .i64 (@lenL (I .i64) a)) (I.of .i64 1)),())))),((@repD (I .i64) (I.nat (I.ofNat .i64 (@lenL (I .i64) a))) (I.of .i64 0)),()))) none) none
noncomputable def a4L (x : (⟨[.pl (.sl (.int .i64)), .pl (.sl (.int .i64))], []⟩ : Tm).D) : Option (⟨[.pl (.sl (.int .i64)), .pl (.sl (.int .i64))], []⟩ : Tm).D :=
 let a : List (I .i64) := x.1.1
 let b : List (I .i64) := x.1.2.1
 brn (I.eqb (I.ofNat .i64 (@lenL (I .i64) b)) (I.of .i64 1)) (brn (inB (I.of .i64 0) (@lenL (I .i64) b)) (optF none (a5Z ((a,((@rdL (I .i64) (I.of .i64 0) b 0),())),())) fun y0 => some ((y0.1.1,(y0.1.2.1,())),())) none) (brn (inB' (I.ofNat .i64 (@lenL (I .i64) a)) (I.nat (I.ofNat .i64 (@lenL (I .i64) a)))) (brn (inB' (I.ofNat .i64 (@lenL (I .i64) a)) 1073741824) (brn (inB' (I.add (I.ofNat .i64 (@lenL (I .i64) b)) (I.of .i64 1)) (I.nat (I.add (I.ofNat .i64 (@lenL (I .i64) b)) (I.of .i64 1)))) (brn (inB' (I.add (I.ofNat .i64 (@lenL (I .i64) b)) (I.of .i64 1)) 1073741824) (iter none (fun x0 => brn (I.leb (I.of .i64 0) x0.1.2.2.1) (iter (.done none) (fun x1 => brn (I.leb (I.of .i64 0) x1.1.2.2.2.1) (brn (inB x1.1.2.2.1 (@lenL (I .i64) x1.1.1)) (brn (I.nn (I.conv (k := .i64) .u64 x1.1.2.2.2.1)) (iter (.done (.done none)) (fun x2 => brn (I.ltb x2.1.2.2.2.2.2.1 (I.ofNat .i64 (@lenL (I .i64) x2.2.2.1))) (brn (inB x2.1.2.2.2.2.2.1 (@lenL (I .i64) x2.2.2.1)) (brn (inB x2.1.2.2.2.2.2.1 (@lenL (I .i64) x2.2.2.1)) (.again ((x2.1.1,(x2.1.2.1,(x2.1.2.2.1,(x2.1.2.2.2.1,((I.shr (I.add x2.1.2.2.2.2.1 (I.mul (I.of .i64 2) (@rdL (I .i64) (I.of .i64 0) x2.2.2.1 (I.nat x2.1.2.2.2.2.2.1)))) (I.of .u64 16)),((I.add x2.1.2.2.2.2.2.1 (I.of .i64 1)),())))))),(x2.2.1,((@setL (I .i64) x2.2.2.1 (I.nat x2.1.2.2.2.2.2.1) (I.and (I.add x2.1.2.2.2.2.1 (I.mul (I.of .i64 2) (@rdL (I .i64) (I.of .i64 0) x2.2.2.1 (I.nat x2.1.2.2.2.2.2.1)))) (I.of .i64 65535))),())))) (.done (.done (.done none)))) (.done (.done (.done none)))) (.done (iter (.done (.done none)) (fun x3 => brn (I.ltb (I.of .i64 0) x3.1.1) (brn (inB (I.sub x3.1.1 (I.of .i64 1)) (@lenL (I .i64) x3.2.1)) (brn (I.eqb (@rdL (I .i64) (I.of .i64 0) x3.2.1 (I.nat (I.sub x3.1.1 (I.of .i64 1)))) (I.of .i64 0)) (.again (((I.sub x3.1.1 (I.of .i64 1)),(x3.1.2.1,(x3.1.2.2.1,(x3.1.2.2.2.1,(x3.1.2.2.2.2.1,()))))),(x3.2.1,(x3.2.2.1,())))) (.done (brn (inB' x3.1.1 (@lenL (I .i64) x3.2.1)) (optF (.done (.done none)) (a3G (((@subL (I .i64) x3.2.1 0 (I.nat x3.1.1)),(x3.1.2.2.1,())),())) fun y4 => brn (I.leb (I.of .i64 0) y4.1.1) (iter (.done (.done none)) (fun x5 => brn (I.ltb (I.of .i64 0) x5.1.1) (brn (inB (I.sub x5.1.1 (I.of .i64 1)) (@lenL (I .i64) x5.2.1)) (brn (I.eqb (@rdL (I .i64) (I.of .i64 0) x5.2.1 (I.nat (I.sub x5.1.1 (I.of .i64 1)))) (I.of .i64 0)) (.again (((I.sub x5.1.1 (I.of .i64 1)),(x5.1.2.1,(x5.1.2.2.1,(x5.1.2.2.2.1,(x5.1.2.2.2.2.1,()))))),(x5.2.1,(x5.2.2.1,())))) (.done (brn (inB' x5.1.1 (@lenL (I .i64) x5.2.1)) (optF (.done (.done none)) (a2S (((@subL (I .i64) x5.2.1 0 (I.nat x5.1.1)),(x5.1.2.2.1,())),())) fun y6 => iter (.done (.done none)) (fun x7 => brn (I.ltb x7.1.2.2.2.2.2.1 (I.ofNat .i64 (@lenL (I .i64) x7.2.2.1))) (brn (inB x7.1.2.2.2.2.2.1 (@lenL (I .i64) x7.2.2.1)) (brn (I.ltb x7.1.2.2.2.2.2.1 (I.ofNat .i64 (@lenL (I .i64) x7.1.2.2.2.2.1))) (brn (inB x7.1.2.2.2.2.2.1 (@lenL (I .i64) x7.1.2.2.2.2.1)) (brn (inB x7.1.2.2.2.2.2.1 (@lenL (I .i64) (@setL (I .i64) x7.2.2.1 (I.nat x7.1.2.2.2.2.2.1) (I.of .i64 0)))) (.again ((x7.1.1,(x7.1.2.1,(x7.1.2.2.1,(x7.1.2.2.2.1,(x7.1.2.2.2.2.1,((I.add x7.1.2.2.2.2.2.1 (I.of .i64 1)),())))))),(x7.2.1,((@setL (I .i64) (@setL (I .i64) x7.2.2.1 (I.nat x7.1.2.2.2.2.2.1) (I.of .i64 0)) (I.nat x7.1.2.2.2.2.2.1) (@rdL (I .i64) (I.of .i64 0) x7.1.2.2.2.2.1 (I.nat x7.1.2.2.2.2.2.1))),())))) (.done (.done (.done none)))) (.done (.done (.done none)))) (.again ((x7.1.1,(x7.1.2.1,(x7.1.2.2.1,(x7.1.2.2.2.1,(x7.1.2.2.2.2.1,((I.add x7.1.2.2.2.2.2.1 (I.of .i64 1)),())))))),(x7.2.1,((@setL (I .i64) x7.2.2.1 (I.nat x7.1.2.2.2.2.2.1) (I.of .i64 0)),()))))) (.done (.done (.done none)))) (.done (brn (inB x7.1.2.2.1 (@lenL (I .i64) x7.2.1)) (brn (I.nn (I.conv (k := .i64) .u64 x7.1.2.2.2.1)) (brn (inB x7.1.2.2.1 (@lenL (I .i64) x7.2.1)) (.again ((x7.1.1,(x7.1.2.1,(x7.1.2.2.1,((I.sub x7.1.2.2.2.1 (I.of .i64 1)),())))),((@setL (I .i64) x7.2.1 (I.nat x7.1.2.2.1) (I.add (@rdL (I .i64) (I.of .i64 0) x7.2.1 (I.nat x7.1.2.2.1)) (I.shl (I.of .i64 1) (I.conv (k := .i64) .u64 x7.1.2.2.2.1)))),(x7.2.2.1,())))) (.done (.done none))) (.done (.done none))) (.done (.done none))))) K0 ((x5.1.2.1,(x5.1.2.2.1,(x5.1.2.2.2.1,(x5.1.2.2.2.2.1,(y6.1.1,(I.of .i64 0,())))))),(x5.2.2.1,(x5.2.1,())))) (.done (.done none))))) (.done (.done (.done none)))) (.done (brn (inB' x5.1.1 (@lenL (I .i64) x5.2.1)) (optF (.done (.done none)) (a2S (((@subL (I .i64) x5.2.1 0 (I.nat x5.1.1)),(x5.1.2.2.1,())),())) fun y6 => iter (.done (.done none)) (fun x7 => brn (I.ltb x7.1.2.2.2.2.2.1 (I.ofNat .i64 (@lenL (I .i64) x7.2.2.1))) (brn (inB x7.1.2.2.2.2.2.1 (@lenL (I .i64) x7.2.2.1)) (brn (I.ltb x7.1.2.2.2.2.2.1 (I.ofNat .i64 (@lenL (I .i64) x7.1.2.2.2.2.1))) (brn (inB x7.1.2.2.2.2.2.1 (@lenL (I .i64) x7.1.2.2.2.2.1)) (brn (inB x7.1.2.2.2.2.2.1 (@lenL (I .i64) (@setL (I .i64) x7.2.2.1 (I.nat x7.1.2.2.2.2.2.1) (I.of .i64 0)))) (.again ((x7.1.1,(x7.1.2.1,(x7.1.2.2.1,(x7.1.2.2.2.1,(x7.1.2.2.2.2.1,((I.add x7.1.2.2.2.2.2.1 (I.of .i64 1)),())))))),(x7.2.1,((@setL (I .i64) (@setL (I .i64) x7.2.2.1 (I.nat x7.1.2.2.2.2.2.1) (I.of .i64 0)) (I.nat x7.1.2.2.2.2.2.1) (@rdL (I .i64) (I.of .i64 0) x7.1.2.2.2.2.1 (I.nat x7.1.2.2.2.2.2.1))),())))) (.done (.done (.done none)))) (.done (.done (.done none)))) (.again ((x7.1.1,(x7.1.2.1,(x7.1.2.2.1,(x7.1.2.2.2.1,(x7.1.2.2.2.2.1,((I.add x7.1.2.2.2.2.2.1 (I.of .i64 1)),())))))),(x7.2.1,((@setL (I .i64) x7.2.2.1 (I.nat x7.1.2.2.2.2.2.1) (I.of .i64 0)),()))))) (.done (.done (.done none)))) (.done (brn (inB x7.1.2.2.1 (@lenL (I .i64) x7.2.1)) (brn (I.nn (I.conv (k := .i64) .u64 x7.1.2.2.2.1)) (brn (inB x7.1.2.2.1 (@lenL (I .i64) x7.2.1)) (.again ((x7.1.1,(x7.1.2.1,(x7.1.2.2.1,((I.sub x7.1.2.2.2.1 (I.of .i64 1)),())))),((@setL (I .i64) x7.2.1 (I.nat x7.1.2.2.1) (I.add (@rdL (I .i64) (I.of .i64 0) x7.2.1 (I.nat x7.1.2.2.1)) (I.shl (I.of .i64 1) (I.conv (k := .i64) .u64 x7.1.2.2.2.1)))),(x7.2.2.1,())))) (.done (.done none))) (.done (.done none))) (.done (.done none))))) K0 ((x5.1.2.1,(x5.1.2.2.1,(x5.1.2.2.2.1,(x5.1.2.2.2.2.1,(y6.1.1,(I.of .i64 0,())))))),(x5.2.2.1,(x5.2.1,())))) (.done (.done none))))) K0 (((I.ofNat .i64 (@lenL (I .i64) x3.2.1)),(x3.1.2.1,(x3.1.2.2.1,(x3.1.2.2.2.1,(x3.1.2.2.2.2.1,()))))),(x3.2.1,(x3.2.2.1,())))) (.again ((x3.1.2.1,(x3.1.2.2.1,(x3.1.2.2.2.1,((I.sub x3.1.2.2.2.2.1 (I.of .i64 1)),())))),(x3.2.2.1,(x3.2.1,()))))) (.done (.done none))))) (.done (.done (.done none)))) (.done (brn (inB' x3.1.1 (@lenL (I .i64) x3.2.1)) (optF (.done (.done none)) (a3G (((@subL (I .i64) x3.2.1 0 (I.nat x3.1.1)),(x3.1.2.2.1,())),())) fun y4 => brn (I.leb (I.of .i64 0) y4.1.1) (iter (.done (.done none)) (fun x5 => brn (I.ltb (I.of .i64 0) x5.1.1) (brn (inB (I.sub x5.1.1 (I.of .i64 1)) (@lenL (I .i64) x5.2.1)) (brn (I.eqb (@rdL (I .i64) (I.of .i64 0) x5.2.1 (I.nat (I.sub x5.1.1 (I.of .i64 1)))) (I.of .i64 0)) (.again (((I.sub x5.1.1 (I.of .i64 1)),(x5.1.2.1,(x5.1.2.2.1,(x5.1.2.2.2.1,(x5.1.2.2.2.2.1,()))))),(x5.2.1,(x5.2.2.1,())))) (.done (brn (inB' x5.1.1 (@lenL (I .i64) x5.2.1)) (optF (.done (.done none)) (a2S (((@subL (I .i64) x5.2.1 0 (I.nat x5.1.1)),(x5.1.2.2.1,())),())) fun y6 => iter (.done (.done none)) (fun x7 => brn (I.ltb x7.1.2.2.2.2.2.1 (I.ofNat .i64 (@lenL (I .i64) x7.2.2.1))) (brn (inB x7.1.2.2.2.2.2.1 (@lenL (I .i64) x7.2.2.1)) (brn (I.ltb x7.1.2.2.2.2.2.1 (I.ofNat .i64 (@lenL (I .i64) x7.1.2.2.2.2.1))) (brn (inB x7.1.2.2.2.2.2.1 (@lenL (I .i64) x7.1.2.2.2.2.1)) (brn (inB x7.1.2.2.2.2.2.1 (@lenL (I .i64) (@setL (I .i64) x7.2.2.1 (I.nat x7.1.2.2.2.2.2.1) (I.of .i64 0)))) (.again ((x7.1.1,(x7.1.2.1,(x7.1.2.2.1,(x7.1.2.2.2.1,(x7.1.2.2.2.2.1,((I.add x7.1.2.2.2.2.2.1 (I.of .i64 1)),())))))),(x7.2.1,((@setL (I .i64) (@setL (I .i64) x7.2.2.1 (I.nat x7.1.2.2.2.2.2.1) (I.of .i64 0)) (I.nat x7.1.2.2.2.2.2.1) (@rdL (I .i64) (I.of .i64 0) x7.1.2.2.2.2.1 (I.nat x7.1.2.2.2.2.2.1))),())))) (.done (.done (.done none)))) (.done (.done (.done none)))) (.again ((x7.1.1,(x7.1.2.1,(x7.1.2.2.1,(x7.1.2.2.2.1,(x7.1.2.2.2.2.1,((I.add x7.1.2.2.2.2.2.1 (I.of .i64 1)),())))))),(x7.2.1,((@setL (I .i64) x7.2.2.1 (I.nat x7.1.2.2.2.2.2.1) (I.of .i64 0)),()))))) (.done (.done (.done none)))) (.done (brn (inB x7.1.2.2.1 (@lenL (I .i64) x7.2.1)) (brn (I.nn (I.conv (k := .i64) .u64 x7.1.2.2.2.1)) (brn (inB x7.1.2.2.1 (@lenL (I .i64) x7.2.1)) (.again ((x7.1.1,(x7.1.2.1,(x7.1.2.2.1,((I.sub x7.1.2.2.2.1 (I.of .i64 1)),())))),((@setL (I .i64) x7.2.1 (I.nat x7.1.2.2.1) (I.add (@rdL (I .i64) (I.of .i64 0) x7.2.1 (I.nat x7.1.2.2.1)) (I.shl (I.of .i64 1) (I.conv (k := .i64) .u64 x7.1.2.2.2.1)))),(x7.2.2.1,())))) (.done (.done none))) (.done (.done none))) (.done (.done none))))) K0 ((x5.1.2.1,(x5.1.2.2.1,(x5.1.2.2.2.1,(x5.1.2.2.2.2.1,(y6.1.1,(I.of .i64 0,())))))),(x5.2.2.1,(x5.2.1,())))) (.done (.done none))))) (.done (.done (.done none)))) (.done (brn (inB' x5.1.1 (@lenL (I .i64) x5.2.1)) (optF (.done (.done none)) (a2S (((@subL (I .i64) x5.2.1 0 (I.nat x5.1.1)),(x5.1.2.2.1,())),())) fun y6 => iter (.done (.done none)) (fun x7 => brn (I.ltb x7.1.2.2.2.2.2.1 (I.ofNat .i64 (@lenL (I .i64) x7.2.2.1))) (brn (inB x7.1.2.2.2.2.2.1 (@lenL (I .i64) x7.2.2.1)) (brn (I.ltb x7.1.2.2.2.2.2.1 (I.ofNat .i64 (@lenL (I .i64) x7.1.2.2.2.2.1))) (brn (inB x7.1.2.2.2.2.2.1 (@lenL (I .i64) x7.1.2.2.2.2.1)) (brn (inB x7.1.2.2.2.2.2.1 (@lenL (I .i64) (@setL (I .i64) x7.2.2.1 (I.nat x7.1.2.2.2.2.2.1) (I.of .i64 0)))) (.again ((x7.1.1,(x7.1.2.1,(x7.1.2.2.1,(x7.1.2.2.2.1,(x7.1.2.2.2.2.1,((I.add x7.1.2.2.2.2.2.1 (I.of .i64 1)),())))))),(x7.2.1,((@setL (I .i64) (@setL (I .i64) x7.2.2.1 (I.nat x7.1.2.2.2.2.2.1) (I.of .i64 0)) (I.nat x7.1.2.2.2.2.2.1) (@rdL (I .i64) (I.of .i64 0) x7.1.2.2.2.2.1 (I.nat x7.1.2.2.2.2.2.1))),())))) (.done (.done (.done none)))) (.done (.done (.done none)))) (.again ((x7.1.1,(x7.1.2.1,(x7.1.2.2.1,(x7.1.2.2.2.1,(x7.1.2.2.2.2.1,((I.add x7.1.2.2.2.2.2.1 (I.of .i64 1)),())))))),(x7.2.1,((@setL (I .i64) x7.2.2.1 (I.nat x7.1.2.2.2.2.2.1) (I.of .i64 0)),()))))) (.done (.done (.done none)))) (.done (brn (inB x7.1.2.2.1 (@lenL (I .i64) x7.2.1)) (brn (I.nn (I.conv (k := .i64) .u64 x7.1.2.2.2.1)) (brn (inB x7.1.2.2.1 (@lenL (I .i64) x7.2.1)) (.again ((x7.1.1,(x7.1.2.1,(x7.1.2.2.1,((I.sub x7.1.2.2.2.1 (I.of .i64 1)),())))),((@setL (I .i64) x7.2.1 (I.nat x7.1.2.2.1) (I.add (@rdL (I .i64) (I.of .i64 0) x7.2.1 (I.nat x7.1.2.2.1)) (I.shl (I.of .i64 1) (I.conv (k := .i64) .u64 x7.1.2.2.2.1)))),(x7.2.2.1,())))) (.done (.done none))) (.done (.done none))) (.done (.done none))))) K0 ((x5.1.2.1,(x5.1.2.2.1,(x5.1.2.2.2.1,(x5.1.2.2.2.2.1,(y6.1.1,(I.of .i64 0,())))))),(x5.2.2.1,(x5.2.1,())))) (.done (.done none))))) K0 (((I.ofNat .i64 (@lenL (I .i64) x3.2.1)),(x3.1.2.1,(x3.1.2.2.1,(x3.1.2.2.2.1,(x3.1.2.2.2.2.1,()))))),(x3.2.1,(x3.2.2.1,())))) (.again ((x3.1.2.1,(x3.1.2.2.1,(x3.1.2.2.2.1,((I.sub x3.1.2.2.2.2.1 (I.of .i64 1)),())))),(x3.2.2.1,(x3.2.1,()))))) (.done (.done none))))) K0 (((I.ofNat .i64 (@lenL (I .i64) x2.2.2.1)),(x2.1.1,(x2.1.2.1,(x2.1.2.2.1,(x2.1.2.2.2.1,()))))),(x2.2.2.1,(x2.2.1,())))))) K0 ((x1.1.1,(x1.1.2.1,(x1.1.2.2.1,(x1.1.2.2.2.1,((I.and (I.shr (@rdL (I .i64) (I.of .i64 0) x1.1.1 (I.nat x1.1.2.2.1)) (I.conv (k := .i64) .u64 x1.1.2.2.2.1)) (I.of .i64 1)),(I.of .i64 0,())))))),(x1.2.1,(x1.2.2.1,())))) (.done (.done none))) (.done (.done none))) (.done (.again ((x1.1.1,(x1.1.2.1,((I.sub x1.1.2.2.1 (I.of .i64 1)),()))),(x1.2.1,(x1.2.2.1,())))))) K0 ((x0.1.1,(x0.1.2.1,(x0.1.2.2.1,(I.of .i64 15,())))),(x0.2.1,(x0.2.2.1,())))) (.done (iter none (fun x1 => brn (I.ltb (I.of .i64 0) x1.1.1) (brn (inB (I.sub x1.1.1 (I.of .i64 1)) (@lenL (I .i64) x1.2.1)) (brn (I.eqb (@rdL (I .i64) (I.of .i64 0) x1.2.1 (I.nat (I.sub x1.1.1 (I.of .i64 1)))) (I.of .i64 0)) (.again (((I.sub x1.1.1 (I.of .i64 1)),()),(x1.2.1,(x1.2.2.1,())))) (.done (brn (inB' x1.1.1 (@lenL (I .i64) x1.2.1)) (iter none (fun x2 => brn (I.ltb (I.of .i64 0) x2.1.1) (brn (inB (I.sub x2.1.1 (I.of .i64 1)) (@lenL (I .i64) x2.2.1)) (brn (I.eqb (@rdL (I .i64) (I.of .i64 0) x2.2.1 (I.nat (I.sub x2.1.1 (I.of .i64 1)))) (I.of .i64 0)) (.again (((I.sub x2.1.1 (I.of .i64 1)),(x2.1.2.1,())),(x2.2.1,()))) (.done (brn (inB' x2.1.1 (@lenL (I .i64) x2.2.1)) (some ((x2.1.2.1,((@subL (I .i64) x2.2.1 0 (I.nat x2.1.1)),())),())) none))) (.done none)) (.done (brn (inB' x2.1.1 (@lenL (I .i64) x2.2.1)) (some ((x2.1.2.1,((@subL (I .i64) x2.2.1 0 (I.nat x2.1.1)),())),())) none))) K0 (((I.ofNat .i64 (@lenL (I .i64) x1.2.2.1)),((@subL (I .i64) x1.2.1 0 (I.nat x1.1.1)),())),(x1.2.2.1,()))) none))) (.done none)) (.done (brn (inB' x1.1.1 (@lenL (I .i64) x1.2.1)) (iter none (fun x2 => brn (I.ltb (I.of .i64 0) x2.1.1) (brn (inB (I.sub x2.1.1 (I.of .i64 1)) (@lenL (I .i64) x2.2.1)) (brn (I.eqb (@rdL (I .i64) (I.of .i64 0) x2.2.1 (I.nat (I.sub x2.1.1 (I.of .i64 1)))) (I.of .i64 0)) (.again (((I.sub x2.1.1 (I.of .i64 1)),(x2.1.2.1,())),(x2.2.1,()))) (.done (brn (inB' x2.1.1 (@lenL (I .i64) x2.2.1)) (some ((x2.1.2.1,((@subL (I .i64) x2.2.1 0 (I.nat x2.1.1)),())),())) none))) (.done none)) (.done (brn (inB' x2.1.1 (@lenL (I .i64) x2.2.1)) (some ((x2.1.2.1,((@subL (I .i64) x2.2.1 0 (I.nat x2.1.1)),())),())) none))) K0 (((I.ofNat .i64 (@lenL (I .i64) x1.2.2.1)),((@subL (I .i64) x1.2.1 0 (I.nat x1.1.1)),())),(x1.2.2.1,()))) none))) K0 (((I.ofNat .i64 (@lenL (I .i64) x0.2.1)),()),(x0.2.1,(x0.2.2.1,())))))) K0 ((a,(b,((I.sub (I.ofNat .i64 (@lenL (I .i64) a)) (I.of .i64 1)),()))),((@repD (I .i64) (I.nat (I.ofNat .i64 (@lenL (I .i64) a))) (I.of .i64 0)),((@repD (I .i64) (I.nat (I.add (I.ofNat .i64 (@lenL (I .i64) b)) (I.of .i64 1))) (I.of .i64 0)),())))) none) none) none) none)
noncomputable def a2B (x : (⟨[.pl (.sl (.int .i64)), .pl (.sl (.int .i64))], []⟩ : Tm).D) : Option (⟨[.pl (.sl (.int .i64))], []⟩ : Tm).D :=
 let a : List (I .i64) := x.1.1
 let b : List (I .i64) := x.1.2.1
 iter none (fun x0 => jn (fun (x1 : (((List (I .i64)) × ((List (I .i64)) × ((I .i64) × ((I .i64) × Unit)))) × ((List (I .i64)) × Unit))) => jn (fun (x2 : (((List (I .i64)) × ((List (I .i64)) × ((I .i64) × ((I .i64) × Unit)))) × ((List (I .i64)) × Unit))) => brn (I.ltb x2.1.2.2.2.1 (I.ofNat .i64 (@lenL (I .i64) x2.1.2.1))) (brn (inB x2.1.2.2.2.1 (@lenL (I .i64) x2.1.2.1)) (brn (a2L (@lenL (I .i64) (@appL (I .i64) x2.2.1 ((I.and (I.add x2.1.2.2.1 (@rdL (I .i64) (I.of .i64 0) x2.1.2.1 (I.nat x2.1.2.2.2.1))) (I.of .i64 65535))::[])))) (.again ((x2.1.1,(x2.1.2.1,((I.shr (I.add x2.1.2.2.1 (@rdL (I .i64) (I.of .i64 0) x2.1.2.1 (I.nat x2.1.2.2.2.1))) (I.of .u64 16)),((I.add x2.1.2.2.2.1 (I.of .i64 1)),())))),((@appL (I .i64) x2.2.1 ((I.and (I.add x2.1.2.2.1 (@rdL (I .i64) (I.of .i64 0) x2.1.2.1 (I.nat x2.1.2.2.2.1))) (I.of .i64 65535))::[])),()))) (.done none)) (.done none)) (brn (a2L (@lenL (I .i64) (@appL (I .i64) x2.2.1 ((I.and x2.1.2.2.1 (I.of .i64 65535))::[])))) (.again ((x2.1.1,(x2.1.2.1,((I.shr x2.1.2.2.1 (I.of .u64 16)),((I.add x2.1.2.2.2.1 (I.of .i64 1)),())))),((@appL (I .i64) x2.2.1 ((I.and x2.1.2.2.1 (I.of .i64 65535))::[])),()))) (.done none))) fun j2 => brn (I.ltb x1.1.2.2.2.1 (I.ofNat .i64 (@lenL (I .i64) x1.1.1))) (brn (inB x1.1.2.2.2.1 (@lenL (I .i64) x1.1.1)) (j2 ((x1.1.1,(x1.1.2.1,((I.add x1.1.2.2.1 (@rdL (I .i64) (I.of .i64 0) x1.1.1 (I.nat x1.1.2.2.2.1))),(x1.1.2.2.2.1,())))),(x1.2.1,()))) (.done none)) (j2 ((x1.1.1,(x1.1.2.1,(x1.1.2.2.1,(x1.1.2.2.2.1,())))),(x1.2.1,())))) fun j1 => brn (I.ltb x0.1.2.2.2.1 (I.ofNat .i64 (@lenL (I .i64) x0.1.1))) (j1 ((x0.1.1,(x0.1.2.1,(x0.1.2.2.1,(x0.1.2.2.2.1,())))),(x0.2.1,()))) (brn (I.ltb x0.1.2.2.2.1 (I.ofNat .i64 (@lenL (I .i64) x0.1.2.1))) (j1 ((x0.1.1,(x0.1.2.1,(x0.1.2.2.1,(x0.1.2.2.2.1,())))),(x0.2.1,()))) (brn (I.ltb (I.of .i64 0) x0.1.2.2.1) (j1 ((x0.1.1,(x0.1.2.1,(x0.1.2.2.1,(x0.1.2.2.2.1,())))),(x0.2.1,()))) (.done (some ((x0.2.1,()),())))))) K0 ((a,(b,(I.of .i64 0,(I.of .i64 0,())))),([],()))
noncomputable def a0I (x : (⟨[.pl (.arr 4 (.int .u64))], []⟩ : Tm).D) : Option (⟨[.pl (.sl (.int .i64))], []⟩ : Tm).D :=
 let a : (I .u64) × (I .u64) × (I .u64) × (I .u64) × Unit := x.1.1
 iter none (fun x0 => brn (I.ltb x0.1.1 (I.of .i64 16)) (brn (inB (I.quo x0.1.1 (I.of .i64 4)) 4) (brn (I.nn (I.conv (k := .i64) .u64 (I.mul (I.of .i64 16) (I.rem x0.1.1 (I.of .i64 4))))) (brn (inB x0.1.1 (@lenL (I .i64) x0.2.2.1)) (.again (((I.add x0.1.1 (I.of .i64 1)),()),(x0.2.1,((@setL (I .i64) x0.2.2.1 (I.nat x0.1.1) (I.conv (k := .u64) .i64 (I.and (I.shr (@Arr.sel (I .u64) (I.of .u64 0) 4 x0.2.1 (I.nat (I.quo x0.1.1 (I.of .i64 4)))) (I.conv (k := .i64) .u64 (I.mul (I.of .i64 16) (I.rem x0.1.1 (I.of .i64 4))))) (I.of .u64 65535)))),())))) (.done none)) (.done none)) (.done none)) (.done (optF none (a3V ((x0.2.2.1,()),())) fun y1 => some ((y1.1.1,()),())))) K0 ((I.of .i64 0,()),(a,((@repD (I .i64) 16 (I.of .i64 0)),())))
noncomputable def a1F (x : (⟨[.pl (.int .u64)], []⟩ : Tm).D) : Option (⟨[.pl (.sl (.int .i64))], []⟩ : Tm).D :=
 let a : I .u64 := x.1.1
 optF none (a0I (((a,(I.of .u64 0,(I.of .u64 0,(I.of .u64 0,())))),()),())) fun y0 => some ((y0.1.1,()),())
noncomputable def a2R (x : (⟨[.pl (.sl (.int .i64))], []⟩ : Tm).D) : Option (⟨[.pl .bool], []⟩ : Tm).D :=
 let a : List (I .i64) := x.1.1
 some (((I.leb (I.ofNat .i64 (@lenL (I .i64) a)) (I.of .i64 16)),()),())
noncomputable def a0X (x : (⟨[.pl (.sl (.int .i64))], []⟩ : Tm).D) : Option (⟨[.pl (.arr 4 (.int .u64))], []⟩ : Tm).D :=
 let a : List (I .i64) := x.1.1
 iter none (fun x0 => jn (fun (x1 : (((List (I .i64)) × ((I .i64) × ((I .i64) × (Bool × Unit)))) × (((I .u64) × ((I .u64) × ((I .u64) × ((I .u64) × Unit)))) × (((I .u64) × ((I .u64) × ((I .u64) × ((I .u64) × Unit)))) × Unit)))) => brn (inB (I.quo x1.1.2.1 (I.of .i64 4)) 4) (brn (inB x1.1.2.1 (@lenL (I .i64) x1.1.1)) (brn (I.nn (I.conv (k := .i64) .u64 (I.mul (I.of .i64 16) (I.rem x1.1.2.1 (I.of .i64 4))))) (brn (inB (I.quo x1.1.2.1 (I.of .i64 4)) 4) (.again ((x1.1.1,((I.add x1.1.2.1 (I.of .i64 1)),())),(x1.2.1,((@Arr.upd (I .u64) 4 x1.2.2.1 (I.nat (I.quo x1.1.2.1 (I.of .i64 4))) (I.add (@Arr.sel (I .u64) (I.of .u64 0) 4 x1.2.2.1 (I.nat (I.quo x1.1.2.1 (I.of .i64 4)))) (I.shl (I.conv (k := .i64) .u64 (@rdL (I .i64) (I.of .i64 0) x1.1.1 (I.nat x1.1.2.1))) (I.conv (k := .i64) .u64 (I.mul (I.of .i64 16) (I.rem x1.1.2.1 (I.of .i64 4))))))),())))) (.done none)) (.done none)) (.done none)) (.done none)) fun j1 => brn (I.ltb x0.1.2.1 (I.ofNat .i64 (@lenL (I .i64) x0.1.1))) (brn (I.ltb x0.1.2.1 (I.of .i64 16)) (j1 ((x0.1.1,(x0.1.2.1,(x0.1.2.1,((I.ltb x0.1.2.1 (I.of .i64 16)),())))),(x0.2.1,(x0.2.2.1,())))) (.done (some ((x0.2.2.1,()),())))) (.done (some ((x0.2.2.1,()),())))) K0 ((a,(I.of .i64 0,())),((I.of .u64 0,(I.of .u64 0,(I.of .u64 0,(I.of .u64 0,())))),((I.of .u64 0,(I.of .u64 0,(I.of .u64 0,(I.of .u64 0,())))),())))
noncomputable def a5I (x : (⟨[.pl (.sl (.int .i64)), .pl (.sl (.int .i64))], []⟩ : Tm).D) : Option (⟨[.pl (.sl (.int .i64))], []⟩ : Tm).D :=
 let a : List (I .i64) := x.1.1
 let b : List (I .i64) := x.1.2.1
 brn (inB' (I.add (I.ofNat .i64 (@lenL (I .i64) a)) (I.ofNat .i64 (@lenL (I .i64) b))) (I.nat (I.add (I.ofNat .i64 (@lenL (I .i64) a)) (I.ofNat .i64 (@lenL (I .i64) b))))) (brn (inB' (I.add (I.ofNat .i64 (@lenL (I .i64) a)) (I.ofNat .i64 (@lenL (I .i64) b))) 1073741824) (iter none (fun x0 => brn (I.ltb x0.1.2.2.1 (I.ofNat .i64 (@lenL (I .i64) x0.1.1))) (iter (.done none) (fun x1 => brn (I.ltb x1.1.2.2.2.2.1 (I.ofNat .i64 (@lenL (I .i64) x1.1.2.1))) (brn (inB (I.add x1.1.2.2.1 x1.1.2.2.2.2.1) (@lenL (I .i64) x1.2.1)) (brn (inB x1.1.2.2.1 (@lenL (I .i64) x1.1.1)) (brn (inB x1.1.2.2.2.2.1 (@lenL (I .i64) x1.1.2.1)) (brn (inB (I.add x1.1.2.2.1 x1.1.2.2.2.2.1) (@lenL (I .i64) x1.2.1)) (.again ((x1.1.1,(x1.1.2.1,(x1.1.2.2.1,((I.shr (I.add (I.add x1.1.2.2.2.1 (@rdL (I .i64) (I.of .i64 0) x1.2.1 (I.nat (I.add x1.1.2.2.1 x1.1.2.2.2.2.1)))) (I.mul (@rdL (I .i64) (I.of .i64 0) x1.1.1 (I.nat x1.1.2.2.1)) (@rdL (I .i64) (I.of .i64 0) x1.1.2.1 (I.nat x1.1.2.2.2.2.1)))) (I.of .u64 16)),((I.add x1.1.2.2.2.2.1 (I.of .i64 1)),()))))),((@setL (I .i64) x1.2.1 (I.nat (I.add x1.1.2.2.1 x1.1.2.2.2.2.1)) (I.and (I.add (I.add x1.1.2.2.2.1 (@rdL (I .i64) (I.of .i64 0) x1.2.1 (I.nat (I.add x1.1.2.2.1 x1.1.2.2.2.2.1)))) (I.mul (@rdL (I .i64) (I.of .i64 0) x1.1.1 (I.nat x1.1.2.2.1)) (@rdL (I .i64) (I.of .i64 0) x1.1.2.1 (I.nat x1.1.2.2.2.2.1)))) (I.of .i64 65535))),()))) (.done (.done none))) (.done (.done none))) (.done (.done none))) (.done (.done none))) (.done (brn (inB (I.add x1.1.2.2.1 (I.ofNat .i64 (@lenL (I .i64) x1.1.2.1))) (@lenL (I .i64) x1.2.1)) (.again ((x1.1.1,(x1.1.2.1,((I.add x1.1.2.2.1 (I.of .i64 1)),()))),((@setL (I .i64) x1.2.1 (I.nat (I.add x1.1.2.2.1 (I.ofNat .i64 (@lenL (I .i64) x1.1.2.1)))) x1.1.2.2.2.1),()))) (.done none)))) K0 ((x0.1.1,(x0.1.2.1,(x0.1.2.2.1,(I.of .i64 0,(I.of .i64 0,()))))),(x0.2.1,()))) (.done (optF none (a3V ((x0.2.1,()),())) fun y1 => some ((y1.1.1,()),())))) K0 ((a,(b,(I.of .i64 0,()))),((@repD (I .i64) (I.nat (I.add (I.ofNat .i64 (@lenL (I .i64) a)) (I.ofNat .i64 (@lenL (I .i64) b)))) (I.of .i64 0)),()))) none) none
noncomputable def a2J (x : (⟨[.pl (.sl (.int .i64))], []⟩ : Tm).D) : Option (⟨[.pl (.arr 4 (.int .u64)), .pl (.int .i64)], []⟩ : Tm).D :=
 let a : List (I .i64) := x.1.1
 optF none (a2R ((a,()),())) fun y0 => brn (bnot y0.1.1) (some (((I.of .u64 0,(I.of .u64 0,(I.of .u64 0,(I.of .u64 0,())))),(I.of .i64 4,())),())) (optF none (a0X ((a,()),())) fun y1 => some ((y1.1.1,(I.of .i64 0,())),()))
noncomputable def a3B (x : (⟨[.pl (.arr 4 (.int .u64))], []⟩ : Tm).D) : Option (⟨[.pl .bool], []⟩ : Tm).D :=
 let a : (I .u64) × (I .u64) × (I .u64) × (I .u64) × Unit := x.1.1
 some (((Ty.eqb (.arr 4 (.int .u64)) a (I.of .u64 0,(I.of .u64 0,(I.of .u64 0,(I.of .u64 0,()))))),()),())
end Sym

/- The given functions as plain functions, as the printer told them. -/
namespace Sym
open Go
noncomputable def a5P (x : (⟨[.pl (.arr 4 (.int .u64)), .pl (.int .u64)], []⟩ : Tm).D) : Option (⟨[.pl (.arr 4 (.int .u64)), .pl (.int .u64)], []⟩ : Tm).D :=
 let a : (I .u64) × (I .u64) × (I .u64) × (I .u64) × Unit := x.1.1
 let b : I .u64 := x.1.2.1
 iter none (fun x0 => brn (I.ltb (I.of .i64 0) x0.1.2.2.1) (brn (inB x0.1.2.2.1 4) (brn (inB (I.sub x0.1.2.2.1 (I.of .i64 1)) 4) (brn (inB x0.1.2.2.1 4) (.again ((x0.1.1,(x0.1.2.1,((I.sub x0.1.2.2.1 (I.of .i64 1)),()))),((@Arr.upd (I .u64) 4 x0.2.1 (I.nat x0.1.2.2.1) (I.or (I.shl (@Arr.sel (I .u64) (I.of .u64 0) 4 x0.2.1 (I.nat x0.1.2.2.1)) (I.of .u64 1)) (I.shr (@Arr.sel (I .u64) (I.of .u64 0) 4 x0.2.1 (I.nat (I.sub x0.1.2.2.1 (I.of .i64 1)))) (I.of .u64 63)))),(x0.2.2.1,())))) (.done none)) (.done none)) (.done none)) (.done (some ((((I.or (I.shl x0.2.1.1 (I.of .u64 1)) x0.1.1),(x0.2.1.2.1,(x0.2.1.2.2.1,(x0.2.1.2.2.2.1,())))),(x0.1.2.1,())),())))) K0 ((b,((I.shr a.2.2.2.1 (I.of .u64 63)),(I.of .i64 3,()))),(a,((I.of .u64 0,(I.of .u64 0,(I.of .u64 0,(I.of .u64 0,())))),())))
noncomputable def a5V (x : (⟨[.pl (.arr 4 (.int .u64)), .pl (.arr 4 (.int .u64))], []⟩ : Tm).D) : Option (⟨[.pl (.arr 4 (.int .u64))], []⟩ : Tm).D :=
 let a : (I .u64) × (I .u64) × (I .u64) × (I .u64) × Unit := x.1.1
 let b : (I .u64) × (I .u64) × (I .u64) × (I .u64) × Unit := x.1.2.1
 iter none (fun x0 => brn (I.ltb x0.1.2.1 (I.of .i64 4)) (brn (inB x0.1.2.1 4) (brn (inB x0.1.2.1 4) (optF (.done none) (b8D (((@Arr.sel (I .u64) (I.of .u64 0) 4 x0.2.1 (I.nat x0.1.2.1)),((@Arr.sel (I .u64) (I.of .u64 0) 4 x0.2.2.1 (I.nat x0.1.2.1)),(x0.1.1,()))),())) fun y1 => brn (inB x0.1.2.1 4) (.again ((y1.1.2.1,((I.add x0.1.2.1 (I.of .i64 1)),())),((@Arr.upd (I .u64) 4 x0.2.1 (I.nat x0.1.2.1) y1.1.1),(x0.2.2.1,(x0.2.2.2.1,()))))) (.done none)) (.done none)) (.done none)) (.done (some ((x0.2.1,()),())))) K0 ((I.of .u64 0,(I.of .i64 0,())),(a,(b,((I.of .u64 0,(I.of .u64 0,(I.of .u64 0,(I.of .u64 0,())))),()))))
noncomputable def a5C (x : (⟨[.pl (.arr 4 (.int .u64)), .pl (.arr 4 (.int .u64)), .pl (.arr 4 (.int .u64))], []⟩ : Tm).D) : Option (⟨[.pl (.arr 4 (.int .u64)), .pl (.arr 4 (.int .u64)), .pl (.int .i64)], []⟩ : Tm).D :=
 let a : (I .u64) × (I .u64) × (I .u64) × (I .u64) × Unit := x.1.1
 let b : (I .u64) × (I .u64) × (I .u64) × (I .u64) × Unit := x.1.2.1
 let c : (I .u64) × (I .u64) × (I .u64) × (I .u64) × Unit := x.1.2.2.1
 brn (Ty.eqb (.arr 4 (.int .u64)) c (I.of .u64 0,(I.of .u64 0,(I.of .u64 0,(I.of .u64 0,()))))) (some (((I.of .u64 0,(I.of .u64 0,(I.of .u64 0,(I.of .u64 0,())))),((I.of .u64 0,(I.of .u64 0,(I.of .u64 0,(I.of .u64 0,())))),(I.of .i64 5,()))),())) (optF none (a3W ((b,(c,())),())) fun y0 => brn (I.leb (I.of .i64 0) y0.1.1) (some (((I.of .u64 0,(I.of .u64 0,(I.of .u64 0,(I.of .u64 0,())))),((I.of .u64 0,(I.of .u64 0,(I.of .u64 0,(I.of .u64 0,())))),(I.of .i64 4,()))),())) (iter none (fun x1 => brn (I.leb (I.of .i64 0) x1.1.1) (brn (inB (I.quo x1.1.1 (I.of .i64 64)) 4) (brn (I.nn (I.rem x1.1.1 (I.of .i64 64))) (optF (.done none) (a5P ((x1.2.2.2.2.1,((I.and (I.shr (@Arr.sel (I .u64) (I.of .u64 0) 4 x1.2.1 (I.nat (I.quo x1.1.1 (I.of .i64 64)))) (I.rem x1.1.1 (I.of .i64 64))) (I.of .u64 1)),())),())) fun y2 => brn (I.eqb y2.1.2.1 (I.of .u64 1)) (optF (.done none) (a5V ((y2.1.1,(x1.2.2.1,())),())) fun y3 => brn (inB (I.quo x1.1.1 (I.of .i64 64)) 4) (brn (I.nn (I.rem x1.1.1 (I.of .i64 64))) (brn (inB (I.quo x1.1.1 (I.of .i64 64)) 4) (.again (((I.sub x1.1.1 (I.of .i64 1)),()),(x1.2.1,(x1.2.2.1,((@Arr.upd (I .u64) 4 x1.2.2.2.1 (I.nat (I.quo x1.1.1 (I.of .i64 64))) (I.or (@Arr.sel (I .u64) (I.of .u64 0) 4 x1.2.2.2.1 (I.nat (I.quo x1.1.1 (I.of .i64 64)))) (I.shl (I.of .u64 1) (I.rem x1.1.1 (I.of .i64 64))))),(y3.1.1,())))))) (.done none)) (.done none)) (.done none)) (optF (.done none) (a3W ((y2.1.1,(x1.2.2.1,())),())) fun y3 => brn (I.leb (I.of .i64 0) y3.1.1) (optF (.done none) (a5V ((y2.1.1,(x1.2.2.1,())),())) fun y4 => brn (inB (I.quo x1.1.1 (I.of .i64 64)) 4) (brn (I.nn (I.rem x1.1.1 (I.of .i64 64))) (brn (inB (I.quo x1.1.1 (I.of .i64 64)) 4) (.again (((I.sub x1.1.1 (I.of .i64 1)),()),(x1.2.1,(x1.2.2.1,((@Arr.upd (I .u64) 4 x1.2.2.2.1 (I.nat (I.quo x1.1.1 (I.of .i64 64))) (I.or (@Arr.sel (I .u64) (I.of .u64 0) 4 x1.2.2.2.1 (I.nat (I.quo x1.1.1 (I.of .i64 64)))) (I.shl (I.of .u64 1) (I.rem x1.1.1 (I.of .i64 64))))),(y4.1.1,())))))) (.done none)) (.done none)) (.done none)) (.again (((I.sub x1.1.1 (I.of .i64 1)),()),(x1.2.1,(x1.2.2.1,(x1.2.2.2.1,(y2.1.1,())))))))) (.done none)) (.done none)) (.done (some ((x1.2.2.2.1,(x1.2.2.2.2.1,(I.of .i64 0,()))),())))) K0 ((I.of .i64 255,()),(a,(c,((I.of .u64 0,(I.of .u64 0,(I.of .u64 0,(I.of .u64 0,())))),(b,())))))))
noncomputable def a8B (x : (⟨[.pl (.arr 4 (.int .u64)), .pl (.arr 4 (.int .u64))], []⟩ : Tm).D) : Option (⟨[.pl (.arr 4 (.int .u64)), .pl (.arr 4 (.int .u64)), .pl (.int .i64)], []⟩ : Tm).D :=
 let a : (I .u64) × (I .u64) × (I .u64) × (I .u64) × Unit := x.1.1
 let b : (I .u64) × (I .u64) × (I .u64) × (I .u64) × Unit := x.1.2.1
 optF none (a5C ((a,((I.of .u64 0,(I.of .u64 0,(I.of .u64 0,(I.of .u64 0,())))),(b,()))),())) fun y0 => some ((y0.1.1,(y0.1.2.1,(y0.1.2.2.1,()))),())
noncomputable def a6M (x : (⟨[.pl (.int .u64), .pl (.int .u64)], []⟩ : Tm).D) : Option (⟨[.pl (.int .u64), .pl (.int .u64)], []⟩ : Tm).D :=
 let a : I .u64 := x.1.1
 let b : I .u64 := x.1.2.1
 some (((I.add (I.add (I.mul (I.shr a (I.of .u64 32)) (I.shr b (I.of .u64 32))) (I.shr (I.add (I.mul (I.shr a (I.of .u64 32)) (I.and b (I.of .u64 4294967295))) (I.shr (I.mul (I.and a (I.of .u64 4294967295)) (I.and b (I.of .u64 4294967295))) (I.of .u64 32))) (I.of .u64 32))) (I.shr (I.add (I.and (I.add (I.mul (I.shr a (I.of .u64 32)) (I.and b (I.of .u64 4294967295))) (I.shr (I.mul (I.and a (I.of .u64 4294967295)) (I.and b (I.of .u64 4294967295))) (I.of .u64 32))) (I.of .u64 4294967295)) (I.mul (I.and a (I.of .u64 4294967295)) (I.shr b (I.of .u64 32)))) (I.of .u64 32))),((I.mul a b),())),())
noncomputable def a7E (x : (⟨[.pl (.arr 4 (.int .u64)), .pl (.arr 4 (.int .u64))], []⟩ : Tm).D) : Option (⟨[.pl (.arr 4 (.int .u64)), .pl (.int .i64)], []⟩ : Tm).D :=
 let a : (I .u64) × (I .u64) × (I .u64) × (I .u64) × Unit := x.1.1
 let b : (I .u64) × (I .u64) × (I .u64) × (I .u64) × Unit := x.1.2.1
 iter none (fun x0 => brn (I.ltb x0.1.1 (I.of .i64 4)) (iter (.done none) (fun x1 => brn (I.ltb x1.1.2.2.2.1 (I.of .i64 4)) (brn (inB x1.1.1 4) (brn (inB x1.1.2.2.2.1 4) (optF (.done (.done none)) (a6M (((@Arr.sel (I .u64) (I.of .u64 0) 4 x1.2.1 (I.nat x1.1.1)),((@Arr.sel (I .u64) (I.of .u64 0) 4 x1.2.2.1 (I.nat x1.1.2.2.2.1)),())),())) fun y2 => brn (I.ltb (I.of .i64 3) (I.add x1.1.1 x1.1.2.2.2.1)) (brn (I.neb (I.or y2.1.1 y2.1.2.1) (I.of .u64 0)) (.done (.done (some (((I.of .u64 0,(I.of .u64 0,(I.of .u64 0,(I.of .u64 0,())))),(I.of .i64 4,())),())))) (.again ((x1.1.1,(x1.1.2.1,(x1.1.2.2.1,((I.add x1.1.2.2.2.1 (I.of .i64 1)),())))),(x1.2.1,(x1.2.2.1,(x1.2.2.2.1,(x1.2.2.2.2.1,()))))))) (optF (.done (.done none)) (b0S ((y2.1.2.1,(x1.1.2.1,(I.of .u64 0,()))),())) fun y3 => brn (inB (I.add x1.1.1 x1.1.2.2.2.1) 4) (optF (.done (.done none)) (b0S (((@Arr.sel (I .u64) (I.of .u64 0) 4 x1.2.2.2.2.1 (I.nat (I.add x1.1.1 x1.1.2.2.2.1))),(y3.1.1,(I.of .u64 0,()))),())) fun y4 => brn (inB (I.add x1.1.1 x1.1.2.2.2.1) 4) (.again ((x1.1.1,((I.add (I.add y2.1.1 y3.1.2.1) y4.1.2.1),(x1.1.2.2.1,((I.add x1.1.2.2.2.1 (I.of .i64 1)),())))),(x1.2.1,(x1.2.2.1,(x1.2.2.2.1,((@Arr.upd (I .u64) 4 x1.2.2.2.2.1 (I.nat (I.add x1.1.1 x1.1.2.2.2.1)) y4.1.1),())))))) (.done (.done none))) (.done (.done none)))) (.done (.done none))) (.done (.done none))) (.done (brn (I.neb x1.1.2.1 (I.of .u64 0)) (.done (some (((I.of .u64 0,(I.of .u64 0,(I.of .u64 0,(I.of .u64 0,())))),(I.of .i64 4,())),()))) (.again (((I.add x1.1.2.2.1 (I.of .i64 1)),()),(x1.2.1,(x1.2.2.1,(x1.2.2.2.1,(x1.2.2.2.2.1,()))))))))) K0 ((x0.1.1,(I.of .u64 0,(x0.1.1,(I.of .i64 0,())))),(x0.2.1,(x0.2.2.1,(x0.2.2.2.1,(x0.2.2.2.2.1,())))))) (.done (some ((x0.2.2.2.2.1,(I.of .i64 0,())),())))) K0 ((I.of .i64 0,()),(a,(b,((I.of .u64 0,(I.of .u64 0,(I.of .u64 0,(I.of .u64 0,())))),((I.of .u64 0,(I.of .u64 0,(I.of .u64 0,(I.of .u64 0,())))),())))))
noncomputable def a0L (x : (⟨[.pl (.int .u64)], []⟩ : Tm).D) : Option (⟨[.pl (.arr 4 (.int .u64))], []⟩ : Tm).D :=
 let a : I .u64 := x.1.1
 some (((a,(I.of .u64 0,(I.of .u64 0,(I.of .u64 0,())))),()),())
noncomputable def a2C (x : (⟨[.pl (.arr 4 (.int .u64)), .pl (.arr 4 (.int .u64))], []⟩ : Tm).D) : Option (⟨[.pl (.arr 4 (.int .u64))], []⟩ : Tm).D :=
 let a : (I .u64) × (I .u64) × (I .u64) × (I .u64) × Unit := x.1.1
 let b : (I .u64) × (I .u64) × (I .u64) × (I .u64) × Unit := x.1.2.1
 optF none (a8X ((a,(b,())),())) fun y0 => some ((y0.1.1,()),())
end Sym

/- The given functions as plain functions, as the printer told them. -/
namespace Sym
open Go
noncomputable def b0F (x : (⟨[.pl (.arr 4 (.int .u64)), .pl (.sl (.arr 4 (.int .u64)))], []⟩ : Tm).D) : Option (⟨[.pl (.arr 4 (.int .u64))], []⟩ : Tm).D :=
 let a : (I .u64) × (I .u64) × (I .u64) × (I .u64) × Unit := x.1.1
 let b : List ((I .u64) × (I .u64) × (I .u64) × (I .u64) × Unit) := x.1.2.1
 iter none (fun x0 => brn (I.ltb x0.1.2.2.1 x0.1.2.1) (brn (inB x0.1.2.2.1 (@lenL ((I .u64) × ((I .u64) × ((I .u64) × ((I .u64) × Unit)))) x0.1.1)) (optF (.done none) (a3W (((@rdL ((I .u64) × ((I .u64) × ((I .u64) × ((I .u64) × Unit)))) (I.of .u64 0,(I.of .u64 0,(I.of .u64 0,(I.of .u64 0,())))) x0.1.1 (I.nat x0.1.2.2.1)),(x0.2.1,())),())) fun y1 => brn (I.ltb y1.1.1 (I.of .i64 0)) (.again ((x0.1.1,(x0.1.2.1,((I.add x0.1.2.2.1 (I.of .i64 1)),()))),((@rdL ((I .u64) × ((I .u64) × ((I .u64) × ((I .u64) × Unit)))) (I.of .u64 0,(I.of .u64 0,(I.of .u64 0,(I.of .u64 0,())))) x0.1.1 (I.nat x0.1.2.2.1)),(x0.2.2.1,())))) (.again ((x0.1.1,(x0.1.2.1,((I.add x0.1.2.2.1 (I.of .i64 1)),()))),(x0.2.1,(x0.2.2.1,()))))) (.done none)) (.done (some ((x0.2.1,()),())))) K0 ((b,((I.ofNat .i64 (@lenL ((I .u64) × ((I .u64) × ((I .u64) × ((I .u64) × Unit)))) b)),(I.of .i64 0,()))),(a,((I.of .u64 0,(I.of .u64 0,(I.of .u64 0,(I.of .u64 0,())))),())))
noncomputable def b0E (x : (⟨[], []⟩ : Tm).D) : Option (⟨[.pl (.arr 4 (.int .u64))], []⟩ : Tm).D :=
 some (((I.of .u64 18446744073709551615,(I.of .u64 18446744073709551615,(I.of .u64 18446744073709551615,(I.of .u64 18446744073709551615,())))),()),())
noncomputable def a2A (x : (⟨[.pl (.arr 4 (.int .u64)), .pl (.arr 4 (.int .u64))], []⟩ : Tm).D) : Option (⟨[.pl (.arr 4 (.int .u64))], []⟩ : Tm).D :=
 let a : (I .u64) × (I .u64) × (I .u64) × (I .u64) × Unit := x.1.1
 let b : (I .u64) × (I .u64) × (I .u64) × (I .u64) × Unit := x.1.2.1
 optF none (a1V ((a,(b,())),())) fun y0 => brn (I.eqb y0.1.2.1 (I.of .i64 0)) (some ((y0.1.1,()),())) (optF none (b0E ((),())) fun y1 => some ((y1.1.1,()),()))
noncomputable def a9C (x : (⟨[.pl (.int .i64), .pl (.int .i64)], []⟩ : Tm).D) : Option (⟨[.pl (.int .i64)], []⟩ : Tm).D :=
 let a : I .i64 := x.1.1
 let b : I .i64 := x.1.2.1
 brn (I.nz (I.conv (k := .i64) .u64 b)) (some (((I.conv (k := .u64) .i64 (I.rem (I.conv (k := .i64) .u64 a) (I.conv (k := .i64) .u64 b))),()),())) none
noncomputable def a8S (x : (⟨[.pl (.sl (.int .i64)), .pl (.sl (.int .i64))], []⟩ : Tm).D) : Option (⟨[.pl (.sl (.int .i64))], []⟩ : Tm).D :=
 let a : List (I .i64) := x.1.1
 let b : List (I .i64) := x.1.2.1
 optF none (a3G ((a,(b,())),())) fun y0 => brn (I.ltb (I.of .i64 0) y0.1.1) (some ((b,()),())) (some ((a,()),()))
noncomputable def b6F (x : (⟨[.pl (.arr 4 (.int .u64)), .pl (.arr 4 (.int .u64))], []⟩ : Tm).D) : Option (⟨[.pl (.arr 4 (.int .u64))], []⟩ : Tm).D :=
 let a : (I .u64) × (I .u64) × (I .u64) × (I .u64) × Unit := x.1.1
 let b : (I .u64) × (I .u64) × (I .u64) × (I .u64) × Unit := x.1.2.1
 optF none (a7E ((a,(b,())),())) fun y0 => brn (I.eqb y0.1.2.1 (I.of .i64 0)) (some ((y0.1.1,()),())) (optF none (b0E ((),())) fun y1 => some ((y1.1.1,()),()))
end Sym

/- The given functions as plain functions, as the printer told them. -/
namespace Sym
open Go
noncomputable def a5B (x : (⟨[.pl .bool, .pl (.arr 4 (.int .u64))], []⟩ : Tm).D) : Option (⟨[.pl tY5], []⟩ : Tm).D :=
 let a : Bool := x.1.1
 let b : (I .u64) × (I .u64) × (I .u64) × (I .u64) × Unit := x.1.2.1
 brn a (some ((((bnot (Ty.eqb (.arr 4 (.int .u64)) b (I.of .u64 0,(I.of .u64 0,(I.of .u64 0,(I.of .u64 0,())))))),(b,())),()),())) (some (((false,(b,())),()),()))
noncomputable def a1S (x : (⟨[.pl tY5], []⟩ : Tm).D) : Option (⟨[.pl .bool], []⟩ : Tm).D :=
 let a : (Bool) × ((I .u64) × (I .u64) × (I .u64) × (I .u64) × Unit) × Unit := x.1.1
 brn (bnot a.1) (some ((true,()),())) (some (((bnot (Ty.eqb (.arr 4 (.int .u64)) a.2.1 (I.of .u64 0,(I.of .u64 0,(I.of .u64 0,(I.of .u64 0,())))))),()),()))
noncomputable def a3F (x : (⟨[.pl tY5, .pl (.arr 4 (.int .u64))], []⟩ : Tm).D) : Option (⟨[.pl tY5, .pl (.int .i64)], []⟩ : Tm).D :=
 let a : (Bool) × ((I .u64) × (I .u64) × (I .u64) × (I .u64) × Unit) × Unit := x.1.1
 let b : (I .u64) × (I .u64) × (I .u64) × (I .u64) × Unit := x.1.2.1
 optF none (a1S ((a,()),())) fun y0 => brn (bnot y0.1.1) (some (((false,((I.of .u64 0,(I.of .u64 0,(I.of .u64 0,(I.of .u64 0,())))),())),(I.of .i64 2,())),())) (optF none (a8B ((a.2.1,(b,())),())) fun y1 => brn (I.neb y1.1.2.2.1 (I.of .i64 0)) (some (((false,((I.of .u64 0,(I.of .u64 0,(I.of .u64 0,(I.of .u64 0,())))),())),(y1.1.2.2.1,())),())) (jn (fun (x2 : ((Bool × Unit) × ((Bool × (((I .u64) × ((I .u64) × ((I .u64) × ((I .u64) × Unit)))) × Unit)) × ((Bool × (((I .u64) × ((I .u64) × ((I .u64) × ((I .u64) × Unit)))) × Unit)) × (((I .u64) × ((I .u64) × ((I .u64) × ((I .u64) × Unit)))) × Unit))))) => brn x2.1.1 (optF none (a0L ((I.of .u64 1,()),())) fun y3 => optF none (a1V ((x2.2.2.2.1,(y3.1.1,())),())) fun y4 => optF none (a5B ((x2.2.1.1,(y4.1.1,())),())) fun y5 => some ((y5.1.1,(I.of .i64 0,())),())) (optF none (a5B ((x2.2.1.1,(x2.2.2.2.1,())),())) fun y3 => some ((y3.1.1,(I.of .i64 0,())),()))) fun j2 => brn a.1 (j2 (((bnot (Ty.eqb (.arr 4 (.int .u64)) y1.1.2.1 (I.of .u64 0,(I.of .u64 0,(I.of .u64 0,(I.of .u64 0,())))))),()),(a,((false,((I.of .u64 0,(I.of .u64 0,(I.of .u64 0,(I.of .u64 0,())))),())),(y1.1.1,()))))) (j2 ((false,()),(a,((false,((I.of .u64 0,(I.of .u64 0,(I.of .u64 0,(I.of .u64 0,())))),())),(y1.1.1,())))))))
noncomputable def a2Y (x : (⟨[.pl tY5], []⟩ : Tm).D) : Option (⟨[.pl .bool], []⟩ : Tm).D :=
 let a : (Bool) × ((I .u64) × (I .u64) × (I .u64) × (I .u64) × Unit) × Unit := x.1.1
 brn a.1 (optF none (a3B ((a.2.1,()),())) fun y0 => some (((bnot y0.1.1),()),())) (some ((true,()),()))
noncomputable def a4Z (x : (⟨[.pl tY6], []⟩ : Tm).D) : Option (⟨[.pl tY5, .pl (.int .i64)], []⟩ : Tm).D :=
 let a : (Bool) × (List (I .i64)) × Unit := x.1.1
 optF none (a2J ((a.2.1,()),())) fun y0 => brn (I.neb y0.1.2.1 (I.of .i64 0)) (some (((false,((I.of .u64 0,(I.of .u64 0,(I.of .u64 0,(I.of .u64 0,())))),())),(y0.1.2.1,())),())) (some (((a.1,(y0.1.1,())),(I.of .i64 0,())),()))
noncomputable def a1W (x : (⟨[.pl .bool, .pl (.sl (.int .i64))], []⟩ : Tm).D) : Option (⟨[.pl tY6], []⟩ : Tm).D :=
 let a : Bool := x.1.1
 let b : List (I .i64) := x.1.2.1
 brn a (some ((((I.ltb (I.of .i64 0) (I.ofNat .i64 (@lenL (I .i64) b))),(b,())),()),())) (some (((false,(b,())),()),()))
noncomputable def a2Z (x : (⟨[.pl tY6, .pl (.sl (.int .i64))], []⟩ : Tm).D) : Option (⟨[.pl tY6], []⟩ : Tm).D :=
 let a : (Bool) × (List (I .i64)) × Unit := x.1.1
 let b : List (I .i64) := x.1.2.1
 optF none (a4L ((a.2.1,(b,())),())) fun y0 => jn (fun (x1 : (((List (I .i64)) × (Bool × Unit)) × ((Bool × ((List (I .i64)) × Unit)) × ((Bool × ((List (I .i64)) × Unit)) × Unit)))) => brn x1.1.2.1 (optF none (a1F ((I.of .u64 1,()),())) fun y2 => optF none (a2B ((x1.1.1,(y2.1.1,())),())) fun y3 => optF none (a1W ((x1.2.1.1,(y3.1.1,())),())) fun y4 => some ((y4.1.1,()),())) (optF none (a1W ((x1.2.1.1,(x1.1.1,())),())) fun y2 => some ((y2.1.1,()),()))) fun j1 => brn a.1 (j1 ((y0.1.1,((I.ltb (I.of .i64 0) (I.ofNat .i64 (@lenL (I .i64) y0.1.2.1))),())),(a,((false,([],())),())))) (j1 ((y0.1.1,(false,())),(a,((false,([],())),()))))
noncomputable def a2K (x : (⟨[.pl tY5], []⟩ : Tm).D) : Option (⟨[.pl tY6], []⟩ : Tm).D :=
 let a : (Bool) × ((I .u64) × (I .u64) × (I .u64) × (I .u64) × Unit) × Unit := x.1.1
 optF none (a0I ((a.2.1,()),())) fun y0 => optF none (a1W ((a.1,(y0.1.1,())),())) fun y1 => some ((y1.1.1,()),())
noncomputable def a5Y (x : (⟨[.pl (.arr 4 (.int .u64)), .pl tY5], []⟩ : Tm).D) : Option (⟨[.pl (.arr 4 (.int .u64)), .pl (.int .i64)], []⟩ : Tm).D :=
 let a : (I .u64) × (I .u64) × (I .u64) × (I .u64) × Unit := x.1.1
 let b : (Bool) × ((I .u64) × (I .u64) × (I .u64) × (I .u64) × Unit) × Unit := x.1.2.1
 optF none (a1S ((b,()),())) fun y0 => brn (bnot y0.1.1) (some (((I.of .u64 0,(I.of .u64 0,(I.of .u64 0,(I.of .u64 0,())))),(I.of .i64 2,())),())) (brn b.1 (optF none (a2C ((a,(b.2.1,())),())) fun y1 => some ((y1.1.1,(I.of .i64 0,())),())) (optF none (a1V ((a,(b.2.1,())),())) fun y1 => some ((y1.1.1,(y1.1.2.1,())),())))
noncomputable def a4O (x : (⟨[.pl tY6, .pl tY6], []⟩ : Tm).D) : Option (⟨[.pl tY6], []⟩ : Tm).D :=
 let a : (Bool) × (List (I .i64)) × Unit := x.1.1
 let b : (Bool) × (List (I .i64)) × Unit := x.1.2.1
 brn (Ty.eqb .bool a.1 b.1) (optF none (a2B ((a.2.1,(b.2.1,())),())) fun y0 => optF none (a1W ((a.1,(y0.1.1,())),())) fun y1 => some ((y1.1.1,()),())) (optF none (a3G ((a.2.1,(b.2.1,())),())) fun y0 => brn (I.leb (I.of .i64 0) y0.1.1) (optF none (a2S ((a.2.1,(b.2.1,())),())) fun y1 => optF none (a1W ((a.1,(y1.1.1,())),())) fun y2 => some ((y2.1.1,()),())) (optF none (a2S ((b.2.1,(a.2.1,())),())) fun y1 => optF none (a1W ((b.1,(y1.1.1,())),())) fun y2 => some ((y2.1.1,()),())))
noncomputable def a4W (x : (⟨[.pl (.arr 4 (.int .u64)), .pl tY5], []⟩ : Tm).D) : Option (⟨[.pl (.arr 4 (.int .u64)), .pl (.int .i64)], []⟩ : Tm).D :=
 let a : (I .u64) × (I .u64) × (I .u64) × (I .u64) × Unit := x.1.1
 let b : (Bool) × ((I .u64) × (I .u64) × (I .u64) × (I .u64) × Unit) × Unit := x.1.2.1
 optF none (a2Y ((b,()),())) fun y0 => brn (bnot y0.1.1) (some (((I.of .u64 0,(I.of .u64 0,(I.of .u64 0,(I.of .u64 0,())))),(I.of .i64 2,())),())) (optF none (a0I ((a,()),())) fun y1 => optF none (a1W ((false,(y1.1.1,())),())) fun y2 => optF none (a2K ((b,()),())) fun y3 => optF none (a4O ((y2.1.1,(y3.1.1,())),())) fun y4 => brn y4.1.1.1 (some (((I.of .u64 0,(I.of .u64 0,(I.of .u64 0,(I.of .u64 0,())))),(I.of .i64 0,())),())) (optF none (a2J ((y4.1.1.2.1,()),())) fun y5 => some ((y5.1.1,(y5.1.2.1,())),())))
noncomputable def b0G (x : (⟨[.pl (.arr 4 (.int .u64)), .pl (.arr 4 (.int .u64))], []⟩ : Tm).D) : Option (⟨[.pl tY5], []⟩ : Tm).D :=
 let a : (I .u64) × (I .u64) × (I .u64) × (I .u64) × Unit := x.1.1
 let b : (I .u64) × (I .u64) × (I .u64) × (I .u64) × Unit := x.1.2.1
 optF none (a3W ((a,(b,())),())) fun y0 => brn (I.leb (I.of .i64 0) y0.1.1) (optF none (a2C ((a,(b,())),())) fun y1 => optF none (a5B ((false,(y1.1.1,())),())) fun y2 => some ((y2.1.1,()),())) (optF none (a2C ((b,(a,())),())) fun y1 => optF none (a5B ((true,(y1.1.1,())),())) fun y2 => some ((y2.1.1,()),()))
noncomputable def a8I (x : (⟨[.pl (.arr 4 (.int .u64)), .pl (.arr 4 (.int .u64))], []⟩ : Tm).D) : Option (⟨[.pl tY5], []⟩ : Tm).D :=
 let a : (I .u64) × (I .u64) × (I .u64) × (I .u64) × Unit := x.1.1
 let b : (I .u64) × (I .u64) × (I .u64) × (I .u64) × Unit := x.1.2.1
 optF none (a0I ((a,()),())) fun y0 => optF none (a1W ((false,(y0.1.1,())),())) fun y1 => optF none (a0I ((b,()),())) fun y2 => optF none (a1W ((true,(y2.1.1,())),())) fun y3 => optF none (a4O ((y1.1.1,(y3.1.1,())),())) fun y4 => optF none (a4Z ((y4.1.1,()),())) fun y5 => some ((y5.1.1,()),())
noncomputable def b0Q (x : (⟨[.pl tY5], []⟩ : Tm).D) : Option (⟨[.pl tY5, .pl (.int .i64)], []⟩ : Tm).D :=
 let a : (Bool) × ((I .u64) × (I .u64) × (I .u64) × (I .u64) × Unit) × Unit := x.1.1
 optF none (a1S ((a,()),())) fun y0 => brn (bnot y0.1.1) (some (((false,((I.of .u64 0,(I.of .u64 0,(I.of .u64 0,(I.of .u64 0,())))),())),(I.of .i64 2,())),())) (optF none (a5B (((bnot a.1),(a.2.1,())),())) fun y1 => some ((y1.1.1,(I.of .i64 0,())),()))
noncomputable def a3Q (x : (⟨[.pl tY6], []⟩ : Tm).D) : Option (⟨[.pl tY6], []⟩ : Tm).D :=
 let a : (Bool) × (List (I .i64)) × Unit := x.1.1
 optF none (a1W (((bnot a.1),(a.2.1,())),())) fun y0 => some ((y0.1.1,()),())
noncomputable def b4T (x : (⟨[.pl tY5, .pl tY5], []⟩ : Tm).D) : Option (⟨[.pl tY5, .pl (.int .i64)], []⟩ : Tm).D :=
 let a : (Bool) × ((I .u64) × (I .u64) × (I .u64) × (I .u64) × Unit) × Unit := x.1.1
 let b : (Bool) × ((I .u64) × (I .u64) × (I .u64) × (I .u64) × Unit) × Unit := x.1.2.1
 jn (fun (x0 : (Unit × ((Bool × (((I .u64) × ((I .u64) × ((I .u64) × ((I .u64) × Unit)))) × Unit)) × ((Bool × (((I .u64) × ((I .u64) × ((I .u64) × ((I .u64) × Unit)))) × Unit)) × ((Bool × (((I .u64) × ((I .u64) × ((I .u64) × ((I .u64) × Unit)))) × Unit)) × Unit))))) => brn (Ty.eqb .bool x0.2.1.1 x0.2.2.1.1) (optF none (a1V ((x0.2.1.2.1,(x0.2.2.1.2.1,())),())) fun y1 => brn (I.neb y1.1.2.1 (I.of .i64 0)) (some (((false,((I.of .u64 0,(I.of .u64 0,(I.of .u64 0,(I.of .u64 0,())))),())),(y1.1.2.1,())),())) (optF none (a5B ((x0.2.1.1,(y1.1.1,())),())) fun y2 => some ((y2.1.1,(I.of .i64 0,())),()))) (brn x0.2.1.1 (optF none (b0G ((x0.2.2.1.2.1,(x0.2.1.2.1,())),())) fun y1 => some ((y1.1.1,(I.of .i64 0,())),())) (optF none (b0G ((x0.2.1.2.1,(x0.2.2.1.2.1,())),())) fun y1 => some ((y1.1.1,(I.of .i64 0,())),())))) fun j0 => optF none (a1S ((a,()),())) fun y1 => brn (bnot y1.1.1) (some (((false,((I.of .u64 0,(I.of .u64 0,(I.of .u64 0,(I.of .u64 0,())))),())),(I.of .i64 2,())),())) (optF none (a1S ((b,()),())) fun y2 => brn (bnot y2.1.1) (some (((false,((I.of .u64 0,(I.of .u64 0,(I.of .u64 0,(I.of .u64 0,())))),())),(I.of .i64 2,())),())) (j0 ((),(a,(b,((false,((I.of .u64 0,(I.of .u64 0,(I.of .u64 0,(I.of .u64 0,())))),())),()))))))
noncomputable def a7M (x : (⟨[.pl tY6, .pl tY6], []⟩ : Tm).D) : Option (⟨[.pl tY6], []⟩ : Tm).D :=
 let a : (Bool) × (List (I .i64)) × Unit := x.1.1
 let b : (Bool) × (List (I .i64)) × Unit := x.1.2.1
 optF none (a5I ((a.2.1,(b.2.1,())),())) fun y0 => optF none (a1W (((bnot (Ty.eqb .bool a.1 b.1)),(y0.1.1,())),())) fun y1 => some ((y1.1.1,()),())
noncomputable def a8M (x : (⟨[.pl tY5, .pl tY5], []⟩ : Tm).D) : Option (⟨[.pl tY5, .pl (.int .i64)], []⟩ : Tm).D :=
 let a : (Bool) × ((I .u64) × (I .u64) × (I .u64) × (I .u64) × Unit) × Unit := x.1.1
 let b : (Bool) × ((I .u64) × (I .u64) × (I .u64) × (I .u64) × Unit) × Unit := x.1.2.1
 optF none (b0Q ((b,()),())) fun y0 => jn (fun (x1 : (Unit × ((Bool × (((I .u64) × ((I .u64) × ((I .u64) × ((I .u64) × Unit)))) × Unit)) × ((Bool × (((I .u64) × ((I .u64) × ((I .u64) × ((I .u64) × Unit)))) × Unit)) × ((Bool × (((I .u64) × ((I .u64) × ((I .u64) × ((I .u64) × Unit)))) × Unit)) × Unit))))) => optF none (b4T ((x1.2.1,(x1.2.2.2.1,())),())) fun y2 => some ((y2.1.1,(y2.1.2.1,())),())) fun j1 => brn (I.neb y0.1.2.1 (I.of .i64 0)) (some (((false,((I.of .u64 0,(I.of .u64 0,(I.of .u64 0,(I.of .u64 0,())))),())),(I.of .i64 2,())),())) (optF none (a1S ((a,()),())) fun y2 => brn (bnot y2.1.1) (some (((false,((I.of .u64 0,(I.of .u64 0,(I.of .u64 0,(I.of .u64 0,())))),())),(I.of .i64 2,())),())) (j1 ((),(a,((false,((I.of .u64 0,(I.of .u64 0,(I.of .u64 0,(I.of .u64 0,())))),())),(y0.1.1,()))))))
noncomputable def a9I (x : (⟨[.pl tY5, .pl tY5], []⟩ : Tm).D) : Option (⟨[.pl tY5, .pl (.int .i64)], []⟩ : Tm).D :=
 let a : (Bool) × ((I .u64) × (I .u64) × (I .u64) × (I .u64) × Unit) × Unit := x.1.1
 let b : (Bool) × ((I .u64) × (I .u64) × (I .u64) × (I .u64) × Unit) × Unit := x.1.2.1
 jn (fun (x0 : (Unit × ((Bool × (((I .u64) × ((I .u64) × ((I .u64) × ((I .u64) × Unit)))) × Unit)) × ((Bool × (((I .u64) × ((I .u64) × ((I .u64) × ((I .u64) × Unit)))) × Unit)) × ((Bool × (((I .u64) × ((I .u64) × ((I .u64) × ((I .u64) × Unit)))) × Unit)) × Unit))))) => optF none (a7E ((x0.2.1.2.1,(x0.2.2.1.2.1,())),())) fun y1 => brn (I.neb y1.1.2.1 (I.of .i64 0)) (some (((false,((I.of .u64 0,(I.of .u64 0,(I.of .u64 0,(I.of .u64 0,())))),())),(y1.1.2.1,())),())) (optF none (a5B (((bnot (Ty.eqb .bool x0.2.1.1 x0.2.2.1.1)),(y1.1.1,())),())) fun y2 => some ((y2.1.1,(I.of .i64 0,())),()))) fun j0 => optF none (a1S ((a,()),())) fun y1 => brn (bnot y1.1.1) (some (((false,((I.of .u64 0,(I.of .u64 0,(I.of .u64 0,(I.of .u64 0,())))),())),(I.of .i64 2,())),())) (optF none (a1S ((b,()),())) fun y2 => brn (bnot y2.1.1) (some (((false,((I.of .u64 0,(I.of .u64 0,(I.of .u64 0,(I.of .u64 0,())))),())),(I.of .i64 2,())),())) (j0 ((),(a,(b,((false,((I.of .u64 0,(I.of .u64 0,(I.of .u64 0,(I.of .u64 0,())))),())),()))))))
end Sym

/- The given functions as plain functions, as the printer told them. -/
namespace Sym
open Go
noncomputable def a5E (x : (⟨[], []⟩ : Tm).D) : Option (⟨[.pl tY7], []⟩ : Tm).D :=
 optF none (a0L ((I.of .u64 100000000,()),())) fun y0 => optF none (a0L ((I.of .u64 60000000,()),())) fun y1 => optF none (a0L ((I.of .u64 10,()),())) fun y2 => some (((I.of .u64 7000000,(I.of .u64 10,(I.of .u64 102,(y0.1.1,(I.of .u64 32000000,(y1.1.1,(I.of .u64 1000,(y2.1.1,(I.of .u64 160000000,(I.of .u64 10,(I.of .u64 16,(I.of .u64 65536,())))))))))))),()),())
noncomputable def a3C (x : (⟨[.pl (.arr 8 (.int .u64))], []⟩ : Tm).D) : Option (⟨[.pl tY7], []⟩ : Tm).D :=
 let a : (I .u64) × (I .u64) × (I .u64) × (I .u64) × (I .u64) × (I .u64) × (I .u64) × (I .u64) × Unit := x.1.1
 optF none (a5E ((),())) fun y0 => brn (I.nn (I.add (I.of .u64 1) (I.rem a.1 (I.of .u64 40)))) (brn (I.nz (I.shl (I.of .u64 1) (I.add (I.of .u64 1) (I.rem a.1 (I.of .u64 40))))) (brn (I.nn (I.add (I.of .u64 1) (I.rem a.2.2.2.1 (I.of .u64 60)))) (brn (I.nz (I.shl (I.of .u64 1) (I.add (I.of .u64 1) (I.rem a.2.2.2.1 (I.of .u64 60))))) (brn (I.nn (I.add (I.of .u64 10) (I.rem a.2.2.2.2.1 (I.of .u64 30)))) (brn (I.nz (I.shl (I.of .u64 1) (I.add (I.of .u64 10) (I.rem a.2.2.2.2.1 (I.of .u64 30))))) (brn (I.nn (I.add (I.of .u64 1) (I.rem a.2.2.2.2.2.1 (I.of .u64 60)))) (brn (I.nz (I.shl (I.of .u64 1) (I.add (I.of .u64 1) (I.rem a.2.2.2.2.2.1 (I.of .u64 60))))) (brn (I.nn (I.add (I.of .u64 1) (I.rem a.2.2.2.2.2.2.2.1 (I.of .u64 40)))) (brn (I.nz (I.shl (I.of .u64 1) (I.add (I.of .u64 1) (I.rem a.2.2.2.2.2.2.2.1 (I.of .u64 40))))) (some ((((I.add (I.of .u64 1) (I.rem a.1 (I.shl (I.of .u64 1) (I.add (I.of .u64 1) (I.rem a.1 (I.of .u64 40)))))),((I.rem a.2.1 (I.of .u64 40)),((I.add (I.of .u64 1) (I.rem a.2.2.1 (I.of .u64 300))),(((I.add (I.of .u64 1) (I.rem a.2.2.2.1 (I.shl (I.of .u64 1) (I.add (I.of .u64 1) (I.rem a.2.2.2.1 (I.of .u64 60)))))),(I.of .u64 0,(I.of .u64 0,(I.of .u64 0,())))),((I.add (I.of .u64 1) (I.rem a.2.2.2.2.1 (I.shl (I.of .u64 1) (I.add (I.of .u64 10) (I.rem a.2.2.2.2.1 (I.of .u64 30)))))),(((I.rem a.2.2.2.2.2.1 (I.shl (I.of .u64 1) (I.add (I.of .u64 1) (I.rem a.2.2.2.2.2.1 (I.of .u64 60))))),(I.of .u64 0,(I.of .u64 0,(I.of .u64 0,())))),((I.rem a.2.2.2.2.2.2.1 (I.of .u64 10001)),(((I.rem a.2.2.2.2.2.2.1 (I.of .u64 5000)),(I.of .u64 0,(I.of .u64 0,(I.of .u64 0,())))),((I.add (I.of .u64 1) (I.rem a.2.2.2.2.2.2.2.1 (I.shl (I.of .u64 1) (I.add (I.of .u64 1) (I.rem a.2.2.2.2.2.2.2.1 (I.of .u64 40)))))),((I.add (I.of .u64 1) (I.rem (I.quo a.2.2.2.2.2.2.2.1 (I.of .u64 7)) (I.of .u64 100))),y0.1.1.2.2.2.2.2.2.2.2.2.2)))))))))),()),())) none) none) none) none) none) none) none) none) none) none
noncomputable def b4P (x : (⟨[.pl tY7, .pl (.int .i64)], []⟩ : Tm).D) : Option (⟨[.pl (.arr 4 (.int .u64)), .pl (.int .i64)], []⟩ : Tm).D :=
 let a : (I .u64) × (I .u64) × (I .u64) × ((I .u64) × (I .u64) × (I .u64) × (I .u64) × Unit) × (I .u64) × ((I .u64) × (I .u64) × (I .u64) × (I .u64) × Unit) × (I .u64) × ((I .u64) × (I .u64) × (I .u64) × (I .u64) × Unit) × (I .u64) × (I .u64) × (I .u64) × (I .u64) × Unit := x.1.1
 let b : I .i64 := x.1.2.1
 brn (I.eqb b (I.of .i64 4)) (some ((a.2.2.2.1,(I.of .i64 0,())),())) (brn (I.eqb b (I.of .i64 6)) (some ((a.2.2.2.2.2.1,(I.of .i64 0,())),())) (brn (I.eqb b (I.of .i64 8)) (some ((a.2.2.2.2.2.2.2.1,(I.of .i64 0,())),())) (brn (I.eqb b (I.of .i64 1)) (optF none (a0L ((a.1,()),())) fun y0 => some ((y0.1.1,(I.of .i64 0,())),())) (brn (I.eqb b (I.of .i64 2)) (optF none (a0L ((a.2.1,()),())) fun y0 => some ((y0.1.1,(I.of .i64 0,())),())) (brn (I.eqb b (I.of .i64 3)) (optF none (a0L ((a.2.2.1,()),())) fun y0 => some ((y0.1.1,(I.of .i64 0,())),())) (brn (I.eqb b (I.of .i64 5)) (optF none (a0L ((a.2.2.2.2.1,()),())) fun y0 => some ((y0.1.1,(I.of .i64 0,())),())) (brn (I.eqb b (I.of .i64 7)) (optF none (a0L ((a.2.2.2.2.2.2.1,()),())) fun y0 => some ((y0.1.1,(I.of .i64 0,())),())) (brn (I.eqb b (I.of .i64 9)) (optF none (a0L ((a.2.2.2.2.2.2.2.2.1,()),())) fun y0 => some ((y0.1.1,(I.of .i64 0,())),())) (brn (I.eqb b (I.of .i64 10)) (optF none (a0L ((a.2.2.2.2.2.2.2.2.2.1,()),())) fun y0 => some ((y0.1.1,(I.of .i64 0,())),())) (brn (I.eqb b (I.of .i64 11)) (optF none (a0L ((a.2.2.2.2.2.2.2.2.2.2.1,()),())) fun y0 => some ((y0.1.1,(I.of .i64 0,())),())) (brn (I.eqb b (I.of .i64 12)) (optF none (a0L ((a.2.2.2.2.2.2.2.2.2.2.2.1,()),())) fun y0 => some ((y0.1.1,(I.of .i64 0,())),())) (some (((I.of .u64 0,(I.of .u64 0,(I.of .u64 0,(I.of .u64 0,())))),(I.of .i64 17,())),())))))))))))))
noncomputable def b0U (x : (⟨[.pl tY7, .pl (.int .i64)], []⟩ : Tm).D) : Option (⟨[.pl (.int .u64), .pl (.int .u64)], []⟩ : Tm).D :=
 let a : (I .u64) × (I .u64) × (I .u64) × ((I .u64) × (I .u64) × (I .u64) × (I .u64) × Unit) × (I .u64) × ((I .u64) × (I .u64) × (I .u64) × (I .u64) × Unit) × (I .u64) × ((I .u64) × (I .u64) × (I .u64) × (I .u64) × Unit) × (I .u64) × (I .u64) × (I .u64) × (I .u64) × Unit := x.1.1
 let b : I .i64 := x.1.2.1
 jn (fun (x0 : (((I .i64) × (Bool × Unit)) × (((I .u64) × ((I .u64) × ((I .u64) × (((I .u64) × ((I .u64) × ((I .u64) × ((I .u64) × Unit)))) × ((I .u64) × (((I .u64) × ((I .u64) × ((I .u64) × ((I .u64) × Unit)))) × ((I .u64) × (((I .u64) × ((I .u64) × ((I .u64) × ((I .u64) × Unit)))) × ((I .u64) × ((I .u64) × ((I .u64) × ((I .u64) × Unit)))))))))))) × Unit))) => brn x0.1.2.1 (some ((I.of .u64 1,(I.of .u64 1099511627776,())),())) (jn (fun (x1 : (((I .i64) × (Bool × Unit)) × (((I .u64) × ((I .u64) × ((I .u64) × (((I .u64) × ((I .u64) × ((I .u64) × ((I .u64) × Unit)))) × ((I .u64) × (((I .u64) × ((I .u64) × ((I .u64) × ((I .u64) × Unit)))) × ((I .u64) × (((I .u64) × ((I .u64) × ((I .u64) × ((I .u64) × Unit)))) × ((I .u64) × ((I .u64) × ((I .u64) × ((I .u64) × Unit)))))))))))) × Unit))) => brn x1.1.2.1 (some ((I.of .u64 0,(I.of .u64 1048576,())),())) (jn (fun (x2 : (((I .i64) × (Bool × Unit)) × (((I .u64) × ((I .u64) × ((I .u64) × (((I .u64) × ((I .u64) × ((I .u64) × ((I .u64) × Unit)))) × ((I .u64) × (((I .u64) × ((I .u64) × ((I .u64) × ((I .u64) × Unit)))) × ((I .u64) × (((I .u64) × ((I .u64) × ((I .u64) × ((I .u64) × Unit)))) × ((I .u64) × ((I .u64) × ((I .u64) × ((I .u64) × Unit)))))))))))) × Unit))) => brn x2.1.2.1 (some ((I.of .u64 1,(I.of .u64 1048576,())),())) (brn (I.eqb x2.1.1 (I.of .i64 4)) (some ((I.of .u64 1,(I.of .u64 18446744073709551615,())),())) (brn (I.eqb x2.1.1 (I.of .i64 7)) (some ((I.of .u64 0,(I.of .u64 10000,())),())) (brn (I.eqb x2.1.1 (I.of .i64 12)) (some ((x2.2.1.2.2.2.2.2.2.2.2.2.2.1,(I.of .u64 16777216,())),())) (some ((I.of .u64 0,(I.of .u64 18446744073709551615,())),())))))) fun j2 => brn (I.eqb x1.1.1 (I.of .i64 3)) (j2 ((x1.1.1,((I.eqb x1.1.1 (I.of .i64 3)),())),(x1.2.1,()))) (j2 ((x1.1.1,((I.eqb x1.1.1 (I.of .i64 10)),())),(x1.2.1,()))))) fun j1 => brn (I.eqb x0.1.1 (I.of .i64 2)) (j1 ((x0.1.1,((I.eqb x0.1.1 (I.of .i64 2)),())),(x0.2.1,()))) (j1 ((x0.1.1,((I.eqb x0.1.1 (I.of .i64 11)),())),(x0.2.1,()))))) fun j0 => brn (I.eqb b (I.of .i64 1)) (j0 ((b,((I.eqb b (I.of .i64 1)),())),(a,()))) (brn (I.eqb b (I.of .i64 5)) (j0 ((b,((I.eqb b (I.of .i64 5)),())),(a,()))) (j0 ((b,((I.eqb b (I.of .i64 9)),())),(a,()))))
noncomputable def a3Z (x : (⟨[.pl tY7], []⟩ : Tm).D) : Option (⟨[.pl (.int .i64)], []⟩ : Tm).D :=
 let a : (I .u64) × (I .u64) × (I .u64) × ((I .u64) × (I .u64) × (I .u64) × (I .u64) × Unit) × (I .u64) × ((I .u64) × (I .u64) × (I .u64) × (I .u64) × Unit) × (I .u64) × ((I .u64) × (I .u64) × (I .u64) × (I .u64) × Unit) × (I .u64) × (I .u64) × (I .u64) × (I .u64) × Unit := x.1.1
 iter none (fun x0 => brn (I.leb x0.1.1 (I.of .i64 12)) (optF (.done none) (b4P ((x0.2.1,(x0.1.1,())),())) fun y1 => optF (.done none) (b0U ((x0.2.1,(x0.1.1,())),())) fun y2 => optF (.done none) (a0L ((y2.1.1,()),())) fun y3 => optF (.done none) (a3W ((y1.1.1,(y3.1.1,())),())) fun y4 => brn (I.ltb y4.1.1 (I.of .i64 0)) (.done (some ((x0.1.1,()),()))) (optF (.done none) (a0L ((y2.1.2.1,()),())) fun y5 => optF (.done none) (a3W ((y1.1.1,(y5.1.1,())),())) fun y6 => brn (I.ltb (I.of .i64 0) y6.1.1) (.done (some ((x0.1.1,()),()))) (.again (((I.add x0.1.1 (I.of .i64 1)),()),(x0.2.1,()))))) (.done (some ((I.of .i64 0,()),())))) K0 ((I.of .i64 1,()),(a,()))
noncomputable def a6Y (x : (⟨[.pl tY7], []⟩ : Tm).D) : Option (⟨[.pl .bool], []⟩ : Tm).D :=
 let a : (I .u64) × (I .u64) × (I .u64) × ((I .u64) × (I .u64) × (I .u64) × (I .u64) × Unit) × (I .u64) × ((I .u64) × (I .u64) × (I .u64) × (I .u64) × Unit) × (I .u64) × ((I .u64) × (I .u64) × (I .u64) × (I .u64) × Unit) × (I .u64) × (I .u64) × (I .u64) × (I .u64) × Unit := x.1.1
 optF none (a3Z ((a,()),())) fun y0 => some (((I.eqb y0.1.1 (I.of .i64 0)),()),())
noncomputable def a7V (x : (⟨[.pl tY5, .pl tY5, .pl (.int .u64), .pl tY7], []⟩ : Tm).D) : Option (⟨[.pl tY5, .pl (.int .i64)], []⟩ : Tm).D :=
 let a : (Bool) × ((I .u64) × (I .u64) × (I .u64) × (I .u64) × Unit) × Unit := x.1.1
 let b : (Bool) × ((I .u64) × (I .u64) × (I .u64) × (I .u64) × Unit) × Unit := x.1.2.1
 let c : I .u64 := x.1.2.2.1
 let d : (I .u64) × (I .u64) × (I .u64) × ((I .u64) × (I .u64) × (I .u64) × (I .u64) × Unit) × (I .u64) × ((I .u64) × (I .u64) × (I .u64) × (I .u64) × Unit) × (I .u64) × ((I .u64) × (I .u64) × (I .u64) × (I .u64) × Unit) × (I .u64) × (I .u64) × (I .u64) × (I .u64) × Unit := x.1.2.2.2.1
 jn (fun (x0 : (((I .u64) × Unit) × ((Bool × (((I .u64) × ((I .u64) × ((I .u64) × ((I .u64) × Unit)))) × Unit)) × ((Bool × (((I .u64) × ((I .u64) × ((I .u64) × ((I .u64) × Unit)))) × Unit)) × (((I .u64) × ((I .u64) × ((I .u64) × (((I .u64) × ((I .u64) × ((I .u64) × ((I .u64) × Unit)))) × ((I .u64) × (((I .u64) × ((I .u64) × ((I .u64) × ((I .u64) × Unit)))) × ((I .u64) × (((I .u64) × ((I .u64) × ((I .u64) × ((I .u64) × Unit)))) × ((I .u64) × ((I .u64) × ((I .u64) × ((I .u64) × Unit)))))))))))) × ((Bool × (((I .u64) × ((I .u64) × ((I .u64) × ((I .u64) × Unit)))) × Unit)) × Unit)))))) => optF none (b0Q ((x0.2.1,()),())) fun y1 => optF none (a0L ((x0.2.2.2.1.2.2.2.2.2.2.2.2.1,()),())) fun y2 => optF none (a3F ((y1.1.1,(y2.1.1,())),())) fun y3 => optF none (a8M ((x0.2.1,(x0.2.2.1,())),())) fun y4 => brn (I.neb y4.1.2.1 (I.of .i64 0)) (some (((false,((I.of .u64 0,(I.of .u64 0,(I.of .u64 0,(I.of .u64 0,())))),())),(y4.1.2.1,())),())) (optF none (a0L ((x0.1.1,()),())) fun y5 => optF none (a3F ((y4.1.1,(y5.1.1,())),())) fun y6 => optF none (a8M ((y3.1.1,(y6.1.1,())),())) fun y7 => brn (I.neb y7.1.2.1 (I.of .i64 0)) (some (((false,((I.of .u64 0,(I.of .u64 0,(I.of .u64 0,(I.of .u64 0,())))),())),(y7.1.2.1,())),())) (optF none (a0L ((x0.1.1,()),())) fun y8 => optF none (a9I ((y7.1.1,((false,(y8.1.1,())),())),())) fun y9 => brn (I.neb y9.1.2.1 (I.of .i64 0)) (some (((false,((I.of .u64 0,(I.of .u64 0,(I.of .u64 0,(I.of .u64 0,())))),())),(y9.1.2.1,())),())) (brn (I.nz x0.2.2.2.1.2.2.2.2.2.2.2.2.2.1) (optF none (a0L (((I.quo x0.2.2.2.1.2.2.2.2.2.2.2.2.1 x0.2.2.2.1.2.2.2.2.2.2.2.2.2.1),()),())) fun y10 => optF none (a0L ((x0.1.1,()),())) fun y11 => optF none (a2A ((y10.1.1,(y11.1.1,())),())) fun y12 => optF none (a3F ((y9.1.1,(y12.1.1,())),())) fun y13 => some ((y13.1.1,(y13.1.2.1,())),())) none)))) fun j0 => optF none (a6Y ((d,()),())) fun y1 => brn (bnot y1.1.1) (some (((false,((I.of .u64 0,(I.of .u64 0,(I.of .u64 0,(I.of .u64 0,())))),())),(I.of .i64 15,())),())) (optF none (a1S ((a,()),())) fun y2 => brn (bnot y2.1.1) (some (((false,((I.of .u64 0,(I.of .u64 0,(I.of .u64 0,(I.of .u64 0,())))),())),(I.of .i64 2,())),())) (optF none (a1S ((b,()),())) fun y3 => brn (bnot y3.1.1) (some (((false,((I.of .u64 0,(I.of .u64 0,(I.of .u64 0,(I.of .u64 0,())))),())),(I.of .i64 2,())),())) (brn (I.eqb c (I.of .u64 0)) (some (((false,((I.of .u64 0,(I.of .u64 0,(I.of .u64 0,(I.of .u64 0,())))),())),(I.of .i64 2,())),())) (j0 ((c,()),(a,(b,(d,((false,((I.of .u64 0,(I.of .u64 0,(I.of .u64 0,(I.of .u64 0,())))),())),())))))))))
noncomputable def a2O (x : (⟨[.pl (.int .u64), .pl (.int .u64), .pl (.int .u64)], []⟩ : Tm).D) : Option (⟨[.pl .bool], []⟩ : Tm).D :=
 let a : I .u64 := x.1.1
 let b : I .u64 := x.1.2.1
 let c : I .u64 := x.1.2.2.1
 brn (I.leb b a) (some (((I.leb a c),()),())) (some ((false,()),()))
noncomputable def a7B (x : (⟨[.pl (.arr 4 (.int .u64))], []⟩ : Tm).D) : Option (⟨[.pl (.int .u64), .pl .bool], []⟩ : Tm).D :=
 let a : (I .u64) × (I .u64) × (I .u64) × (I .u64) × Unit := x.1.1
 brn (I.neb a.2.1 (I.of .u64 0)) (some ((I.of .u64 0,(false,())),())) (brn (I.neb a.2.2.1 (I.of .u64 0)) (some ((I.of .u64 0,(false,())),())) (brn (I.neb a.2.2.2.1 (I.of .u64 0)) (some ((I.of .u64 0,(false,())),())) (some ((a.1,(true,())),()))))
noncomputable def a3N (x : (⟨[.pl (.arr 4 (.int .u64)), .pl (.int .u64)], []⟩ : Tm).D) : Option (⟨[.pl .bool], []⟩ : Tm).D :=
 let a : (I .u64) × (I .u64) × (I .u64) × (I .u64) × Unit := x.1.1
 let b : I .u64 := x.1.2.1
 optF none (a7B ((a,()),())) fun y0 => brn y0.1.2.1 (some (((I.leb b y0.1.1),()),())) (some ((false,()),()))
noncomputable def a3U (x : (⟨[.pl tY7], []⟩ : Tm).D) : Option (⟨[.pl (.int .i64)], []⟩ : Tm).D :=
 let a : (I .u64) × (I .u64) × (I .u64) × ((I .u64) × (I .u64) × (I .u64) × (I .u64) × Unit) × (I .u64) × ((I .u64) × (I .u64) × (I .u64) × (I .u64) × Unit) × (I .u64) × ((I .u64) × (I .u64) × (I .u64) × (I .u64) × Unit) × (I .u64) × (I .u64) × (I .u64) × (I .u64) × Unit := x.1.1
 optF none (a2O ((a.1,(I.of .u64 1,(I.of .u64 1099511627776,()))),())) fun y0 => optF none (a2O ((a.2.1,(I.of .u64 0,(I.of .u64 1048576,()))),())) fun y1 => optF none (a2O ((a.2.2.1,(I.of .u64 1,(I.of .u64 1048576,()))),())) fun y2 => optF none (a3N ((a.2.2.2.1,(I.of .u64 1,())),())) fun y3 => optF none (a2O ((a.2.2.2.2.1,(I.of .u64 1,(I.of .u64 1099511627776,()))),())) fun y4 => optF none (a3N ((a.2.2.2.2.2.1,(I.of .u64 0,())),())) fun y5 => optF none (a2O ((a.2.2.2.2.2.2.1,(I.of .u64 0,(I.of .u64 10000,()))),())) fun y6 => optF none (a3N ((a.2.2.2.2.2.2.2.1,(I.of .u64 0,())),())) fun y7 => optF none (a2O ((a.2.2.2.2.2.2.2.2.1,(I.of .u64 1,(I.of .u64 1099511627776,()))),())) fun y8 => optF none (a2O ((a.2.2.2.2.2.2.2.2.2.1,(I.of .u64 1,(I.of .u64 1048576,()))),())) fun y9 => optF none (a2O ((a.2.2.2.2.2.2.2.2.2.2.1,(I.of .u64 0,(I.of .u64 1048576,()))),())) fun y10 => optF none (a2O ((a.2.2.2.2.2.2.2.2.2.2.2.1,(a.2.2.2.2.2.2.2.2.2.2.1,(I.of .u64 16777216,()))),())) fun y11 => brn (bnot y0.1.1) (some ((I.of .i64 1,()),())) (brn (bnot y1.1.1) (some ((I.of .i64 2,()),())) (brn (bnot y2.1.1) (some ((I.of .i64 3,()),())) (brn (bnot y3.1.1) (some ((I.of .i64 4,()),())) (brn (bnot y4.1.1) (some ((I.of .i64 5,()),())) (brn (bnot y5.1.1) (some ((I.of .i64 6,()),())) (brn (bnot y6.1.1) (some ((I.of .i64 7,()),())) (brn (bnot y7.1.1) (some ((I.of .i64 8,()),())) (brn (bnot y8.1.1) (some ((I.of .i64 9,()),())) (brn (bnot y9.1.1) (some ((I.of .i64 10,()),())) (brn (bnot y10.1.1) (some ((I.of .i64 11,()),())) (brn (bnot y11.1.1) (some ((I.of .i64 12,()),())) (some ((I.of .i64 0,()),())))))))))))))
noncomputable def a4P (x : (⟨[.pl tY7], []⟩ : Tm).D) : Option (⟨[.pl .bool], []⟩ : Tm).D :=
 let a : (I .u64) × (I .u64) × (I .u64) × ((I .u64) × (I .u64) × (I .u64) × (I .u64) × Unit) × (I .u64) × ((I .u64) × (I .u64) × (I .u64) × (I .u64) × Unit) × (I .u64) × ((I .u64) × (I .u64) × (I .u64) × (I .u64) × Unit) × (I .u64) × (I .u64) × (I .u64) × (I .u64) × Unit := x.1.1
 optF none (a3U ((a,()),())) fun y0 => some (((I.eqb y0.1.1 (I.of .i64 0)),()),())
noncomputable def a6V (x : (⟨[.pl tY5, .pl tY5, .pl (.int .u64), .pl tY7], []⟩ : Tm).D) : Option (⟨[.pl tY5, .pl (.int .i64)], []⟩ : Tm).D :=
 let a : (Bool) × ((I .u64) × (I .u64) × (I .u64) × (I .u64) × Unit) × Unit := x.1.1
 let b : (Bool) × ((I .u64) × (I .u64) × (I .u64) × (I .u64) × Unit) × Unit := x.1.2.1
 let c : I .u64 := x.1.2.2.1
 let d : (I .u64) × (I .u64) × (I .u64) × ((I .u64) × (I .u64) × (I .u64) × (I .u64) × Unit) × (I .u64) × ((I .u64) × (I .u64) × (I .u64) × (I .u64) × Unit) × (I .u64) × ((I .u64) × (I .u64) × (I .u64) × (I .u64) × Unit) × (I .u64) × (I .u64) × (I .u64) × (I .u64) × Unit := x.1.2.2.2.1
 optF none (a4P ((d,()),())) fun y0 => brn (bnot y0.1.1) (some (((false,((I.of .u64 0,(I.of .u64 0,(I.of .u64 0,(I.of .u64 0,())))),())),(I.of .i64 15,())),())) (jn (fun (x1 : (((I .u64) × Unit) × ((Bool × (((I .u64) × ((I .u64) × ((I .u64) × ((I .u64) × Unit)))) × Unit)) × ((Bool × (((I .u64) × ((I .u64) × ((I .u64) × ((I .u64) × Unit)))) × Unit)) × (((I .u64) × ((I .u64) × ((I .u64) × (((I .u64) × ((I .u64) × ((I .u64) × ((I .u64) × Unit)))) × ((I .u64) × (((I .u64) × ((I .u64) × ((I .u64) × ((I .u64) × Unit)))) × ((I .u64) × (((I .u64) × ((I .u64) × ((I .u64) × ((I .u64) × Unit)))) × ((I .u64) × ((I .u64) × ((I .u64) × ((I .u64) × Unit)))))))))))) × ((Bool × (((I .u64) × ((I .u64) × ((I .u64) × ((I .u64) × Unit)))) × Unit)) × Unit)))))) => optF none (a2K ((x1.2.1,()),())) fun y2 => optF none (a3Q ((y2.1.1,()),())) fun y3 => optF none (a1F ((x1.2.2.2.1.2.2.2.2.2.2.2.2.1,()),())) fun y4 => optF none (a2Z ((y3.1.1,(y4.1.1,())),())) fun y5 => optF none (a2K ((x1.2.1,()),())) fun y6 => optF none (a2K ((x1.2.2.1,()),())) fun y7 => optF none (a3Q ((y7.1.1,()),())) fun y8 => optF none (a4O ((y6.1.1,(y8.1.1,())),())) fun y9 => optF none (a1F ((x1.1.1,()),())) fun y10 => optF none (a2Z ((y9.1.1,(y10.1.1,())),())) fun y11 => optF none (a3Q ((y11.1.1,()),())) fun y12 => optF none (a4O ((y5.1.1,(y12.1.1,())),())) fun y13 => optF none (a1F ((x1.1.1,()),())) fun y14 => optF none (a7M ((y13.1.1,((false,(y14.1.1,())),())),())) fun y15 => jn (fun (x16 : (((I .u64) × Unit) × (((I .u64) × ((I .u64) × ((I .u64) × (((I .u64) × ((I .u64) × ((I .u64) × ((I .u64) × Unit)))) × ((I .u64) × (((I .u64) × ((I .u64) × ((I .u64) × ((I .u64) × Unit)))) × ((I .u64) × (((I .u64) × ((I .u64) × ((I .u64) × ((I .u64) × Unit)))) × ((I .u64) × ((I .u64) × ((I .u64) × ((I .u64) × Unit)))))))))))) × ((Bool × (((I .u64) × ((I .u64) × ((I .u64) × ((I .u64) × Unit)))) × Unit)) × ((Bool × ((List (I .i64)) × Unit)) × Unit))))) => optF none (a1F ((x16.2.1.2.2.2.2.2.2.2.2.1,()),())) fun y17 => optF none (a1F ((x16.2.1.2.2.2.2.2.2.2.2.2.1,()),())) fun y18 => optF none (a4L ((y17.1.1,(y18.1.1,())),())) fun y19 => optF none (a1F ((x16.1.1,()),())) fun y20 => optF none (a2B ((y19.1.1,(y20.1.1,())),())) fun y21 => optF none (a2Z ((x16.2.2.2.1,(y21.1.1,())),())) fun y22 => optF none (a4Z ((y22.1.1,()),())) fun y23 => some ((y23.1.1,(y23.1.2.1,())),())) fun j16 => optF none (a2R ((y9.1.1.2.1,()),())) fun y17 => brn (bnot y17.1.1) (some (((false,((I.of .u64 0,(I.of .u64 0,(I.of .u64 0,(I.of .u64 0,())))),())),(I.of .i64 4,())),())) (optF none (a2R ((y13.1.1.2.1,()),())) fun y18 => brn (bnot y18.1.1) (some (((false,((I.of .u64 0,(I.of .u64 0,(I.of .u64 0,(I.of .u64 0,())))),())),(I.of .i64 4,())),())) (optF none (a2R ((y15.1.1.2.1,()),())) fun y19 => brn (bnot y19.1.1) (some (((false,((I.of .u64 0,(I.of .u64 0,(I.of .u64 0,(I.of .u64 0,())))),())),(I.of .i64 4,())),())) (j16 ((x1.1.1,()),(x1.2.2.2.1,(x1.2.2.2.2.1,(y15.1.1,())))))))) fun j1 => optF none (a2Y ((a,()),())) fun y2 => brn (bnot y2.1.1) (some (((false,((I.of .u64 0,(I.of .u64 0,(I.of .u64 0,(I.of .u64 0,())))),())),(I.of .i64 2,())),())) (optF none (a2Y ((b,()),())) fun y3 => brn (bnot y3.1.1) (some (((false,((I.of .u64 0,(I.of .u64 0,(I.of .u64 0,(I.of .u64 0,())))),())),(I.of .i64 2,())),())) (brn (I.eqb c (I.of .u64 0)) (some (((false,((I.of .u64 0,(I.of .u64 0,(I.of .u64 0,(I.of .u64 0,())))),())),(I.of .i64 2,())),())) (j1 ((c,()),(a,(b,(d,((false,((I.of .u64 0,(I.of .u64 0,(I.of .u64 0,(I.of .u64 0,())))),())),())))))))))
noncomputable def a9A (x : (⟨[.pl (.arr 4 (.int .u64)), .pl tY5, .pl tY5, .pl (.int .u64), .pl tY7], []⟩ : Tm).D) : Option (⟨[.pl (.arr 4 (.int .u64)), .pl (.int .i64)], []⟩ : Tm).D :=
 let a : (I .u64) × (I .u64) × (I .u64) × (I .u64) × Unit := x.1.1
 let b : (Bool) × ((I .u64) × (I .u64) × (I .u64) × (I .u64) × Unit) × Unit := x.1.2.1
 let c : (Bool) × ((I .u64) × (I .u64) × (I .u64) × (I .u64) × Unit) × Unit := x.1.2.2.1
 let d : I .u64 := x.1.2.2.2.1
 let e : (I .u64) × (I .u64) × (I .u64) × ((I .u64) × (I .u64) × (I .u64) × (I .u64) × Unit) × (I .u64) × ((I .u64) × (I .u64) × (I .u64) × (I .u64) × Unit) × (I .u64) × ((I .u64) × (I .u64) × (I .u64) × (I .u64) × Unit) × (I .u64) × (I .u64) × (I .u64) × (I .u64) × Unit := x.1.2.2.2.2.1
 jn (fun (x0 : (((I .u64) × Unit) × (((I .u64) × ((I .u64) × ((I .u64) × ((I .u64) × Unit)))) × ((Bool × (((I .u64) × ((I .u64) × ((I .u64) × ((I .u64) × Unit)))) × Unit)) × ((Bool × (((I .u64) × ((I .u64) × ((I .u64) × ((I .u64) × Unit)))) × Unit)) × (((I .u64) × ((I .u64) × ((I .u64) × (((I .u64) × ((I .u64) × ((I .u64) × ((I .u64) × Unit)))) × ((I .u64) × (((I .u64) × ((I .u64) × ((I .u64) × ((I .u64) × Unit)))) × ((I .u64) × (((I .u64) × ((I .u64) × ((I .u64) × ((I .u64) × Unit)))) × ((I .u64) × ((I .u64) × ((I .u64) × ((I .u64) × Unit)))))))))))) × (((I .u64) × ((I .u64) × ((I .u64) × ((I .u64) × Unit)))) × Unit))))))) => optF none (a7V ((x0.2.2.1,(x0.2.2.2.1,(x0.1.1,(x0.2.2.2.2.1,())))),())) fun y1 => brn (I.neb y1.1.2.1 (I.of .i64 0)) (some (((I.of .u64 0,(I.of .u64 0,(I.of .u64 0,(I.of .u64 0,())))),(y1.1.2.1,())),())) (optF none (a5Y ((x0.2.1,(y1.1.1,())),())) fun y2 => some ((y2.1.1,(y2.1.2.1,())),()))) fun j0 => optF none (a6Y ((e,()),())) fun y1 => brn (bnot y1.1.1) (some (((I.of .u64 0,(I.of .u64 0,(I.of .u64 0,(I.of .u64 0,())))),(I.of .i64 15,())),())) (jn (fun (x2 : (((I .u64) × (Bool × Unit)) × (((I .u64) × ((I .u64) × ((I .u64) × ((I .u64) × Unit)))) × ((Bool × (((I .u64) × ((I .u64) × ((I .u64) × ((I .u64) × Unit)))) × Unit)) × ((Bool × (((I .u64) × ((I .u64) × ((I .u64) × ((I .u64) × Unit)))) × Unit)) × (((I .u64) × ((I .u64) × ((I .u64) × (((I .u64) × ((I .u64) × ((I .u64) × ((I .u64) × Unit)))) × ((I .u64) × (((I .u64) × ((I .u64) × ((I .u64) × ((I .u64) × Unit)))) × ((I .u64) × (((I .u64) × ((I .u64) × ((I .u64) × ((I .u64) × Unit)))) × ((I .u64) × ((I .u64) × ((I .u64) × ((I .u64) × Unit)))))))))))) × (((I .u64) × ((I .u64) × ((I .u64) × ((I .u64) × Unit)))) × Unit))))))) => brn x2.1.2.1 (some (((I.of .u64 0,(I.of .u64 0,(I.of .u64 0,(I.of .u64 0,())))),(I.of .i64 2,())),())) (brn (I.eqb x2.1.1 (I.of .u64 0)) (some ((x2.2.1,(I.of .i64 0,())),())) (j0 ((x2.1.1,()),(x2.2.1,(x2.2.2.1,(x2.2.2.2.1,(x2.2.2.2.2.1,(x2.2.2.2.2.2.1,()))))))))) fun j2 => optF none (a1S ((b,()),())) fun y3 => brn (bnot y3.1.1) (j2 ((d,(true,())),(a,(b,(c,(e,((I.of .u64 0,(I.of .u64 0,(I.of .u64 0,(I.of .u64 0,())))),()))))))) (optF none (a1S ((c,()),())) fun y4 => j2 ((d,((bnot y4.1.1),())),(a,(b,(c,(e,((I.of .u64 0,(I.of .u64 0,(I.of .u64 0,(I.of .u64 0,())))),()))))))))
noncomputable def a7N (x : (⟨[.pl (.arr 4 (.int .u64)), .pl tY5, .pl tY5, .pl (.int .u64), .pl tY7], []⟩ : Tm).D) : Option (⟨[.pl (.arr 4 (.int .u64)), .pl (.int .i64)], []⟩ : Tm).D :=
 let a : (I .u64) × (I .u64) × (I .u64) × (I .u64) × Unit := x.1.1
 let b : (Bool) × ((I .u64) × (I .u64) × (I .u64) × (I .u64) × Unit) × Unit := x.1.2.1
 let c : (Bool) × ((I .u64) × (I .u64) × (I .u64) × (I .u64) × Unit) × Unit := x.1.2.2.1
 let d : I .u64 := x.1.2.2.2.1
 let e : (I .u64) × (I .u64) × (I .u64) × ((I .u64) × (I .u64) × (I .u64) × (I .u64) × Unit) × (I .u64) × ((I .u64) × (I .u64) × (I .u64) × (I .u64) × Unit) × (I .u64) × ((I .u64) × (I .u64) × (I .u64) × (I .u64) × Unit) × (I .u64) × (I .u64) × (I .u64) × (I .u64) × Unit := x.1.2.2.2.2.1
 optF none (a4P ((e,()),())) fun y0 => brn (bnot y0.1.1) (some (((I.of .u64 0,(I.of .u64 0,(I.of .u64 0,(I.of .u64 0,())))),(I.of .i64 15,())),())) (jn (fun (x1 : (((I .u64) × Unit) × (((I .u64) × ((I .u64) × ((I .u64) × ((I .u64) × Unit)))) × ((Bool × (((I .u64) × ((I .u64) × ((I .u64) × ((I .u64) × Unit)))) × Unit)) × ((Bool × (((I .u64) × ((I .u64) × ((I .u64) × ((I .u64) × Unit)))) × Unit)) × (((I .u64) × ((I .u64) × ((I .u64) × (((I .u64) × ((I .u64) × ((I .u64) × ((I .u64) × Unit)))) × ((I .u64) × (((I .u64) × ((I .u64) × ((I .u64) × ((I .u64) × Unit)))) × ((I .u64) × (((I .u64) × ((I .u64) × ((I .u64) × ((I .u64) × Unit)))) × ((I .u64) × ((I .u64) × ((I .u64) × ((I .u64) × Unit)))))))))))) × (((I .u64) × ((I .u64) × ((I .u64) × ((I .u64) × Unit)))) × Unit))))))) => brn (I.eqb x1.1.1 (I.of .u64 0)) (some ((x1.2.1,(I.of .i64 0,())),())) (optF none (a6V ((x1.2.2.1,(x1.2.2.2.1,(x1.1.1,(x1.2.2.2.2.1,())))),())) fun y2 => brn (I.neb y2.1.2.1 (I.of .i64 0)) (some (((I.of .u64 0,(I.of .u64 0,(I.of .u64 0,(I.of .u64 0,())))),(y2.1.2.1,())),())) (optF none (a4W ((x1.2.1,(y2.1.1,())),())) fun y3 => some ((y3.1.1,(y3.1.2.1,())),())))) fun j1 => optF none (a2Y ((b,()),())) fun y2 => brn (bnot y2.1.1) (some (((I.of .u64 0,(I.of .u64 0,(I.of .u64 0,(I.of .u64 0,())))),(I.of .i64 2,())),())) (optF none (a2Y ((c,()),())) fun y3 => brn (bnot y3.1.1) (some (((I.of .u64 0,(I.of .u64 0,(I.of .u64 0,(I.of .u64 0,())))),(I.of .i64 2,())),())) (j1 ((d,()),(a,(b,(c,(e,((I.of .u64 0,(I.of .u64 0,(I.of .u64 0,(I.of .u64 0,())))),())))))))))
noncomputable def a7S (x : (⟨[.pl (.arr 4 (.int .u64)), .pl (.arr 4 (.int .u64))], []⟩ : Tm).D) : Option (⟨[.pl tY5], []⟩ : Tm).D :=
 let a : (I .u64) × (I .u64) × (I .u64) × (I .u64) × Unit := x.1.1
 let b : (I .u64) × (I .u64) × (I .u64) × (I .u64) × Unit := x.1.2.1
 optF none (b0G ((a,(b,())),())) fun y0 => some ((y0.1.1,()),())
end Sym

/- The given functions as plain functions, as the printer told them. -/
namespace Sym
open Go
noncomputable def b0P (x : (⟨[.pl (.arr 4 (.int .u64)), .pl (.arr 4 (.int .u64))], []⟩ : Tm).D) : Option (⟨[.pl (.arr 4 (.int .u64)), .pl (.arr 4 (.int .u64))], []⟩ : Tm).D :=
 let a : (I .u64) × (I .u64) × (I .u64) × (I .u64) × Unit := x.1.1
 let b : (I .u64) × (I .u64) × (I .u64) × (I .u64) × Unit := x.1.2.1
 iter none (fun x0 => brn (I.ltb x0.1.1 (I.of .i64 4)) (iter (.done none) (fun x1 => brn (I.ltb x1.1.2.2.2.1 (I.of .i64 4)) (brn (inB x1.1.1 4) (brn (inB x1.1.2.2.2.1 4) (optF (.done (.done none)) (a6M (((@Arr.sel (I .u64) (I.of .u64 0) 4 x1.2.1 (I.nat x1.1.1)),((@Arr.sel (I .u64) (I.of .u64 0) 4 x1.2.2.1 (I.nat x1.1.2.2.2.1)),())),())) fun y2 => optF (.done (.done none)) (b0S ((y2.1.2.1,(x1.1.2.1,(I.of .u64 0,()))),())) fun y3 => brn (inB (I.add x1.1.1 x1.1.2.2.2.1) 8) (optF (.done (.done none)) (b0S (((@Arr.sel (I .u64) (I.of .u64 0) 8 x1.2.2.2.2.2.1 (I.nat (I.add x1.1.1 x1.1.2.2.2.1))),(y3.1.1,(I.of .u64 0,()))),())) fun y4 => brn (inB (I.add x1.1.1 x1.1.2.2.2.1) 8) (.again ((x1.1.1,((I.add (I.add y2.1.1 y3.1.2.1) y4.1.2.1),(x1.1.2.2.1,((I.add x1.1.2.2.2.1 (I.of .i64 1)),())))),(x1.2.1,(x1.2.2.1,(x1.2.2.2.1,(x1.2.2.2.2.1,((@Arr.upd (I .u64) 8 x1.2.2.2.2.2.1 (I.nat (I.add x1.1.1 x1.1.2.2.2.1)) y4.1.1),()))))))) (.done (.done none))) (.done (.done none))) (.done (.done none))) (.done (.done none))) (.done (brn (inB (I.add x1.1.1 (I.of .i64 4)) 8) (.again (((I.add x1.1.2.2.1 (I.of .i64 1)),()),(x1.2.1,(x1.2.2.1,(x1.2.2.2.1,(x1.2.2.2.2.1,((@Arr.upd (I .u64) 8 x1.2.2.2.2.2.1 (I.nat (I.add x1.1.1 (I.of .i64 4))) x1.1.2.1),()))))))) (.done none)))) K0 ((x0.1.1,(I.of .u64 0,(x0.1.1,(I.of .i64 0,())))),(x0.2.1,(x0.2.2.1,(x0.2.2.2.1,(x0.2.2.2.2.1,(x0.2.2.2.2.2.1,()))))))) (.done (some (((@Arr.ofList (I .u64) (I.of .u64 0) 4 (@subL (I .u64) (@Arr.list (I .u64) 8 x0.2.2.2.2.2.1) 0 4)),((@Arr.ofList (I .u64) (I.of .u64 0) 4 (@subL (I .u64) (@Arr.list (I .u64) 8 x0.2.2.2.2.2.1) 4 4)),())),())))) K0 ((I.of .i64 0,()),(a,(b,((I.of .u64 0,(I.of .u64 0,(I.of .u64 0,(I.of .u64 0,())))),((I.of .u64 0,(I.of .u64 0,(I.of .u64 0,(I.of .u64 0,())))),((I.of .u64 0,(I.of .u64 0,(I.of .u64 0,(I.of .u64 0,(I.of .u64 0,(I.of .u64 0,(I.of .u64 0,(I.of .u64 0,())))))))),()))))))
noncomputable def a3P (x : (⟨[.pl (.arr 4 (.int .u64)), .pl (.arr 4 (.int .u64)), .pl (.arr 4 (.int .u64))], []⟩ : Tm).D) : Option (⟨[.pl (.arr 4 (.int .u64)), .pl (.int .i64)], []⟩ : Tm).D :=
 let a : (I .u64) × (I .u64) × (I .u64) × (I .u64) × Unit := x.1.1
 let b : (I .u64) × (I .u64) × (I .u64) × (I .u64) × Unit := x.1.2.1
 let c : (I .u64) × (I .u64) × (I .u64) × (I .u64) × Unit := x.1.2.2.1
 optF none (b0P ((a,(b,())),())) fun y0 => optF none (a5C ((y0.1.1,(y0.1.2.1,(c,()))),())) fun y1 => some ((y1.1.1,(y1.1.2.2.1,())),())
end Sym
