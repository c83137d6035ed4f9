/- Functions without a body: sums with a carry. -/
import Derived.Carry
import Derived.SizedLaws
import Derived.ChangeOld
import Derived.OpenShut
import Derived.Test.YtmjjppoaianfmaaPart2
import Derived.Test.YtmjjppoaianfmaaPart1
namespace Sym
open Go

abbrev u64 : Ty := .int .u64

def add64F (x : (⟨[.pl u64, .pl u64, .pl u64], []⟩ : Tm).D) : Option (⟨[.pl u64, .pl u64], []⟩ : Tm).D :=
  match Nat.ble (I.nat (k := .u64) x.1.2.2.1) 1 with
  | true => some ((I.of .u64 (x.1.1.val + x.1.2.1.val + x.1.2.2.1.val), I.of .u64 ((x.1.1.val + x.1.2.1.val + x.1.2.2.1.val) / 18446744073709551616), ()), ())
  | false => none

def sub64F (x : (⟨[.pl u64, .pl u64, .pl u64], []⟩ : Tm).D) : Option (⟨[.pl u64, .pl u64], []⟩ : Tm).D :=
  match Nat.ble (I.nat (k := .u64) x.1.2.2.1) 1 with
  | true => some ((I.of .u64 (x.1.1.val - x.1.2.1.val - x.1.2.2.1.val), I.of .u64 (bif decide (x.1.1.val < x.1.2.1.val + x.1.2.2.1.val) then 1 else 0), ()), ())
  | false => none

def add64C : Con := ⟨_, _, add64F⟩
def sub64C : Con := ⟨_, _, sub64F⟩

def add64E : Array Value → Sem Value := fun args => do
  let (x, y, c) ← Extern.MathBitsCarry.three "Add64" args
  pure (Extern.MathBitsCarry.pair ((x + y + c) % Extern.MathBitsCarry.m64) ((x + y + c) / Extern.MathBitsCarry.m64))

def sub64E : Array Value → Sem Value := fun args => do
  let (x, y, b) ← Extern.MathBitsCarry.three "Sub64" args
  pure (Extern.MathBitsCarry.pair ((x + Extern.MathBitsCarry.m64 - y - b) % Extern.MathBitsCarry.m64) (if x < y + b then 1 else 0))

theorem I_range (x : I .u64) : 0 ≤ x.val ∧ x.val < 18446744073709551616 := by
  have h := x.ok
  simp only [IntKind.wrap, IntKind.bits, IntKind.signed, Bool.false_and, Bool.false_eq_true, if_false] at h
  constructor
  · rw [← h]; exact Int.emod_nonneg _ (by decide)
  · rw [← h]; exact Int.emod_lt_of_pos _ (by decide)

theorem wrap_u64 (n : Int) : IntKind.u64.wrap n = n % 18446744073709551616 := rfl

/-- A function without a body that answers at once, and turns nothing. -/
theorem extern_con {P : Program} {f : FuncId} {fn : Func} {e : Array Value → Sem Value} (hf : P.funcs[f]? = some fn) (hb : fn.body = none) (hn : (fn.name == "runtime.NumGoroutine") = false) (hx : (Extern.findNext fn).isNone = true) (he : Extern.find fn = some e) (args : Array Value) (w : World) {v : Value} (hr : (e args).run P w = .ok v w) :
    (callFunc f args).run P w = .ok (.value v) w := by
  unfold callFunc
  rw [Sem.run_bind]
  have : (program : Sem Program).run P w = .ok P w := rfl
  rw [this, Result.andThen_ok]
  simp only [hf, hn, hb, Option.isNone_none, if_true, Bool.false_eq_true, if_false]
  rw [Option.isNone_iff_eq_none] at hx
  simp only [hx, he]
  rw [Sem.run_bind]
  have hm : (mark (.extern f) : Sem Unit).run P w = .ok () w := rfl
  rw [hm, Result.andThen_ok]
  simp [hr]

theorem three_run {P : Program} {s : String} {w : World} (x y c : I .u64) (hc : Nat.ble c.nat 1 = true) : (Extern.MathBitsCarry.three s #[.int .u64 x.val, .int .u64 y.val, .int .u64 c.val]).run P w = .ok (x.nat, y.nat, c.nat) w := by
  have hc : ¬ c.val.toNat > 1 := by have := Nat.le_of_ble_eq_true hc; simp only [I.nat] at this; omega
  have h3 : ∀ (x y c : Value), Extern.MathBitsCarry.three s #[x, y, c] = (do
    let c := (← asInt c).toNat
    if c > 1 then unsupported (.noEntry ("extern/math/bits." ++ s ++ ": a carry that is neither 0 nor 1"))
    pure ((← asInt x).toNat, (← asInt y).toNat, c)) := fun _ _ _ => rfl
  rw [h3]
  have ha : ∀ (i : I .u64), (asInt (.int .u64 i.val)).run P w = .ok i.val w := fun i => rfl
  simp only [Sem.run_bind, ha, Result.andThen_ok, hc, if_false, Sem.run_pure]
  rfl

theorem carry_con {P : Program} {f : FuncId} {F : (⟨[.pl u64, .pl u64, .pl u64], []⟩ : Tm).D → Option (⟨[.pl u64, .pl u64], []⟩ : Tm).D}
    (h : ∀ (x y c : I .u64) (z q : I .u64), F ((x, y, c, ()), ()) = some ((z, q, ()), ()) → ∀ w, (callFunc f #[.int .u64 x.val, .int .u64 y.val, .int .u64 c.val]).run P w = .ok (.value (.tuple #[.int .u64 z.val, .int .u64 q.val])) w) :
    ConOk P f ⟨_, _, F⟩ := by
  rintro ⟨⟨x, y, c, ⟨⟩⟩, ⟨⟩⟩ ⟨⟨z, q, ⟨⟩⟩, ⟨⟩⟩ hF cx vals hS hH hargs
  match vals, hargs with
  | [a, b, d], ⟨h1, h2, h3, _⟩ =>
    left
    rw [v_int h1, v_int h2, v_int h3]
    refine ⟨_, _, h x y c z q hF cx.w, cx, rfl, hH, ⟨[_, _], rfl, [_], [_], rfl, rfl, [_], [], rfl, rfl, rfl⟩, hS.mem⟩

theorem add64_ok {P : Program} {f : FuncId} {fn : Func} (hf : P.funcs[f]? = some fn) (hb : fn.body = none) (hn : (fn.name == "runtime.NumGoroutine") = false) (hx : (Extern.findNext fn).isNone = true) (he : Extern.find fn = some add64E) : ConOk P f add64C := by
  refine carry_con fun x y c z q hF w => extern_con hf hb hn hx he _ w ?_
  simp only [add64F] at hF
  split at hF
  · rename_i hc
    have hF := Option.some.inj hF
    have e1 := congrArg (fun (p : (I .u64 × I .u64 × Unit) × Unit) => p.1.1) hF
    have e2 := congrArg (fun (p : (I .u64 × I .u64 × Unit) × Unit) => p.1.2.1) hF
    simp only at e1 e2
    subst e1 e2
    simp only [add64E, Sem.run_bind, three_run x y c hc, Result.andThen_ok, Sem.run_pure]
    have rx := I_range x
    have ry := I_range y
    have rc := I_range c
    have hc : c.val.toNat ≤ 1 := Nat.le_of_ble_eq_true hc
    unfold Extern.MathBitsCarry.pair I.nat Extern.MathBitsCarry.m64
    congr
    · show Int.ofNat _ = IntKind.u64.wrap _
      rw [wrap_u64]
      try simp only [Int.ofNat_eq_natCast]
      omega
    · show Int.ofNat _ = IntKind.u64.wrap _
      rw [wrap_u64]
      try simp only [Int.ofNat_eq_natCast]
      omega
  · cases hF

theorem sub64_ok {P : Program} {f : FuncId} {fn : Func} (hf : P.funcs[f]? = some fn) (hb : fn.body = none) (hn : (fn.name == "runtime.NumGoroutine") = false) (hx : (Extern.findNext fn).isNone = true) (he : Extern.find fn = some sub64E) : ConOk P f sub64C := by
  refine carry_con fun x y c z q hF w => extern_con hf hb hn hx he _ w ?_
  simp only [sub64F] at hF
  split at hF
  · rename_i hc
    have hF := Option.some.inj hF
    have e1 := congrArg (fun (p : (I .u64 × I .u64 × Unit) × Unit) => p.1.1) hF
    have e2 := congrArg (fun (p : (I .u64 × I .u64 × Unit) × Unit) => p.1.2.1) hF
    simp only at e1 e2
    subst e1 e2
    simp only [sub64E, Sem.run_bind, three_run x y c hc, Result.andThen_ok, Sem.run_pure]
    have rx := I_range x
    have ry := I_range y
    have rc := I_range c
    have hc : c.val.toNat ≤ 1 := Nat.le_of_ble_eq_true hc
    unfold Extern.MathBitsCarry.pair I.nat Extern.MathBitsCarry.m64
    congr
    · show Int.ofNat _ = IntKind.u64.wrap _
      rw [wrap_u64]
      try simp only [Int.ofNat_eq_natCast]
      omega
    · show Int.ofNat _ = IntKind.u64.wrap _
      rw [wrap_u64]
      by_cases hlt : x.val < y.val + c.val
      · rw [if_pos (by omega)]
        simp [hlt]
      · rw [if_neg (by omega)]
        simp [hlt]
  · cases hF
end Sym

/- An environment out of lists. -/
namespace Sym
open Go

def lookN {X : Type} : List (Nat × X) → Nat → Option X
  | [], _ => none
  | (i, x) :: l, n => match Nat.beq i n with
    | true => some x
    | false => lookN l n

theorem lookN_mem {X : Type} : ∀ {l : List (Nat × X)} {n : Nat} {x : X}, lookN l n = some x → (n, x) ∈ l
  | (i, y) :: l, n, x, h => by
    simp only [lookN] at h
    split at h
    · rename_i hb
      have := Nat.eq_of_beq_eq_true hb
      subst this
      simp only [Option.some.injEq] at h
      subst h
      exact List.mem_cons_self
    · exact List.mem_cons_of_mem _ (lookN_mem h)

def mkEnv (P : Program) (tys : List (Nat × Ty)) (eqs : List (Nat × Ty)) (hows : List (Nat × How)) : Env := ⟨P, lookN tys, lookN eqs, lookN hows⟩

def HowsOk (P : Program) : List (Nat × How) → Prop
  | [] => True
  | (f, .con C) :: l => ConOk P f C ∧ HowsOk P l
  | (_, .inl) :: l => HowsOk P l
  | (f, .fresh C) :: l => ConFresh P f C ∧ HowsOk P l

theorem HowsOk.con {P : Program} : ∀ {l : List (Nat × How)} {f : FuncId} {C : Con}, HowsOk P l → (f, How.con C) ∈ l → ConOk P f C
  | (g, .con D) :: l, f, C, h, hm => by
    simp only [List.mem_cons] at hm
    rcases hm with hm | hm
    · injection hm with h1 h2
      injection h2 with h2
      subst h1 h2
      exact h.1
    · exact HowsOk.con h.2 hm
  | (g, .inl) :: l, f, C, h, hm => by
    simp only [List.mem_cons] at hm
    rcases hm with hm | hm
    · injection hm with h1 h2
      cases h2
    · exact HowsOk.con (l := l) h hm
  | (g, .fresh D) :: l, f, C, h, hm => by
    simp only [List.mem_cons] at hm
    rcases hm with hm | hm
    · injection hm with h1 h2
      cases h2
    · exact HowsOk.con h.2 hm

theorem HowsOk.fresh {P : Program} : ∀ {l : List (Nat × How)} {f : FuncId} {C : Con}, HowsOk P l → (f, How.fresh C) ∈ l → ConFresh P f C
  | (g, .fresh D) :: l, f, C, h, hm => by
    simp only [List.mem_cons] at hm
    rcases hm with hm | hm
    · injection hm with h1 h2
      injection h2 with h2
      subst h1 h2
      exact h.1
    · exact HowsOk.fresh h.2 hm
  | (g, .inl) :: l, f, C, h, hm => by
    simp only [List.mem_cons] at hm
    rcases hm with hm | hm
    · injection hm with h1 h2
      cases h2
    · exact HowsOk.fresh (l := l) h hm
  | (g, .con D) :: l, f, C, h, hm => by
    simp only [List.mem_cons] at hm
    rcases hm with hm | hm
    · injection hm with h1 h2
      cases h2
    · exact HowsOk.fresh h.2 hm

def eqiB (P : Program) (id : TypeId) (t : Ty) : Bool := tiB P id t && (t.isOpq || (eqtB P t id && (Nat.ble t.dep 9000 && (!t.isAgg || !P.eqGuardType P.depth id))))

theorem eqi_ok {P : Program} {id : TypeId} {t : Ty} (h : eqiB P id t = true) : EqI P id t := by
  unfold eqiB at h
  simp only [Bool.and_eq_true, Bool.or_eq_true, Bool.not_eq_true'] at h
  obtain ⟨h1, h2⟩ := h
  refine ⟨(ti_ok h1).ok, ?_⟩
  rcases h2 with h2 | ⟨h2, h3, h4⟩
  · left; cases t <;> first | rfl | cases h2
  · right; exact ⟨h2, Nat.le_of_ble_eq_true h3, fun ha => h4.resolve_left (by rw [ha]; simp)⟩

theorem envOk {P : Program} {tys eqs : List (Nat × Ty)} {hows : List (Nat × How)} (h1 : tys.all (fun x => tiB P x.1 x.2) = true) (h2 : eqs.all (fun x => eqiB P x.1 x.2) = true) (h3 : HowsOk P hows) (h4 : P.follows .mixedOrders = true) : EnvOk (mkEnv P tys eqs hows) := by
  refine ⟨fun id t h => ?_, fun id t h => ?_, fun f C h => h3.con (lookN_mem h), fun f C h => h3.fresh (lookN_mem h), h4⟩
  · rw [List.all_eq_true] at h1
    exact ti_ok (h1 _ (lookN_mem h))
  · rw [List.all_eq_true] at h2
    exact eqi_ok (h2 _ (lookN_mem h))

theorem noOdd_of {P : Program} (h : P.funcs.toList.all (fun fn => !(fn.name == "runtime.NumGoroutine")) = true) : noOdd P := by
  intro f fn hf
  rw [List.all_eq_true] at h
  have : fn ∈ P.funcs.toList := by
    rw [← Array.getElem?_toList] at hf
    exact List.mem_of_getElem? hf
  have := h fn this
  simpa using this
end Sym

/- From what a row reads of the arguments to plain values, and from a contract to the row's answer. -/
namespace Sym
open Go

mutual
def argB (P : Program) : Ty → TypeId → Bool
  | .cons a b, id => match P.underlying id with
    | some (.struct fs) => (match fs.toList with
      | f :: r => argB P a f.type && fargB P b r
      | [] => false)
    | _ => false
  | .arr _ t, id => match P.underlying id with
    | some (.array _ e) => argB P t e
    | _ => false
  | .sl t, id => match P.underlying id with
    | some (.slice e) => Nat.ble 1 t.sz && (Nat.ble 1 (P.bytesOf e) && argB P t e)
    | _ => false
  | .opq, _ => false
  | _, _ => true
def fargB (P : Program) : Ty → List Field → Bool
  | .cons a b, f :: r => argB P a f.type && fargB P b r
  | _, _ => true
end

theorem mapM_some {X Y : Type} {f : X → Option Y} : ∀ {l : List X} {r : List Y}, l.mapM f = some r → r.length = l.length ∧ ∀ (i : Nat) (a : X), l[i]? = some a → ∃ b, r[i]? = some b ∧ f a = some b
  | [], r, h => by
    simp only [List.mapM_nil, Option.pure_def, Option.some.injEq] at h
    subst h
    exact ⟨rfl, fun i a h => by simp at h⟩
  | a :: l, r, h => by
    simp only [List.mapM_cons, Option.bind_eq_bind, Option.bind_eq_some_iff, Option.pure_def, Option.some.injEq] at h
    obtain ⟨b, hb, s, hs, rfl⟩ := h
    obtain ⟨h1, h2⟩ := mapM_some hs
    refine ⟨by simp [h1], fun i x hx => ?_⟩
    cases i with
    | zero =>
      simp only [List.getElem?_cons_zero, Option.some.injEq] at hx
      subst hx
      exact ⟨b, by simp, hb⟩
    | succ i =>
      simp only [List.getElem?_cons_succ] at hx
      obtain ⟨y, h3, h4⟩ := h2 i x hx
      exact ⟨y, by simp [h3], h4⟩

theorem mapM_range {Y : Type} {f : Nat → Option Y} {n : Nat} {r : List Y} (h : (List.range n).mapM f = some r) : r.length = n ∧ ∀ i, i < n → ∃ b, r[i]? = some b ∧ f i = some b := by
  obtain ⟨h1, h2⟩ := mapM_some h
  refine ⟨by simpa using h1, fun i hi => h2 i i (by simp [hi])⟩

theorem exists_list {X : Type} : ∀ (n : Nat) (R : Nat → X → Prop), (∀ i, i < n → ∃ x, R i x) → ∃ l : List X, l.length = n ∧ ∀ i x, l[i]? = some x → R i x
  | 0, _, _ => ⟨[], rfl, fun i x h => by simp at h⟩
  | n + 1, R, h => by
    obtain ⟨x, hx⟩ := h 0 (by omega)
    obtain ⟨l, h1, h2⟩ := exists_list n (fun i x => R (i + 1) x) fun i hi => h (i + 1) (by omega)
    refine ⟨x :: l, by simp [h1], fun i y hy => ?_⟩
    cases i with
    | zero => simp only [List.getElem?_cons_zero, Option.some.injEq] at hy; subst hy; exact hx
    | succ i => exact h2 i y (by simpa using hy)

theorem exists_arr {X : Type} {E : X → List Value → Prop} {s : Nat} : ∀ (n : Nat) (cs : List Value), cs.length = n * s → (∀ i, i < n → ∃ x, E x ((cs.drop (i * s)).take s)) → ∃ x, EncArr E n x cs
  | 0, cs, hl, _ => ⟨(), by simp at hl; exact hl⟩
  | n + 1, cs, hl, h => by
    obtain ⟨x, hx⟩ := h 0 (by omega)
    simp only [Nat.zero_mul, List.drop_zero] at hx
    obtain ⟨y, hy⟩ := exists_arr (E := E) (s := s) n (cs.drop s) (by rw [List.length_drop, hl, Nat.succ_mul]; omega) fun i hi => by
      obtain ⟨z, hz⟩ := h (i + 1) (by omega)
      refine ⟨z, ?_⟩
      rw [List.drop_drop, show s + i * s = (i + 1) * s by rw [Nat.succ_mul]; omega]
      exact hz
    exact ⟨(x, y), cs.take s, cs.drop s, (List.take_append_drop s cs).symm, hx, hy⟩

theorem weightsAll_mem {H : Type} {P : Program} {e : TypeId} : ∀ {ds : List (DataW H)} {i : Nat} {d : DataW H}, ds[i]? = some d → ∀ n ∈ d.weights P e, n ∈ DataW.weightsAll P e ds
  | d0 :: ds, 0, d, hd, n, hn => by
    simp only [List.getElem?_cons_zero, Option.some.injEq] at hd
    subst hd
    simp only [DataW.weightsAll, List.mem_append]
    exact .inl hn
  | d0 :: ds, i + 1, d, hd, n, hn => by
    simp only [List.getElem?_cons_succ] at hd
    simp only [DataW.weightsAll, List.mem_append]
    exact .inr (weightsAll_mem hd n hn)

def strOf (s : ByteArray) : List (I .u8) := s.data.toList.map fun b => I.of .u8 b.toNat

theorem bytesOf_strOf (s : ByteArray) : bytesOf (strOf s) = s := by
  unfold bytesOf strOf
  cases s with | mk a =>
  congr 1
  rw [List.map_map]
  have : ((fun c : I .u8 => UInt8.ofNat c.val.toNat) ∘ fun b : UInt8 => I.of .u8 b.toNat) = id := by
    funext b
    simp only [Function.comp, id, I.of, IntKind.wrap, IntKind.bits, IntKind.signed, Bool.false_and, Bool.false_eq_true, if_false]
    have := b.toNat_lt
    rw [show ((b.toNat : Int) % 2 ^ 8) = (b.toNat : Int) by omega, Int.toNat_natCast]
    exact UInt8.ofNat_toNat
  rw [this, List.map_id, Array.toArray_toList]

section
variable {H : Type} {enc : TypeId × Value → H} {P : Program} {W : World} {base : Nat} {spare : Nat → Bool} {held : Bool}

abbrev GW (W : World) : Nat → Prop := fun r => r < W.heap.size

theorem cell_lt {a : Addr} {v : Value} (h : W.cell? a = some v) : a.spot = none ∧ a.block < W.heap.size := by
  unfold World.cell? at h
  split at h
  · rename_i c _ _ hc
    split at h
    · cases h
    · rename_i hs
      refine ⟨by simpa using hs, ?_⟩
      rw [Array.getElem?_eq_some_iff] at hc
      exact hc.1
  · cases h

theorem cells_row {base : Nat} {a : Addr} {n : Nat} {ds : List Value} (h : W.cells? base a n = some ds) : ds.length = n ∧ ∀ j d, ds[j]? = some d → W.cell? (a.add j) = some d := by
  unfold World.cells? at h
  split at h
  · obtain ⟨h1, h2⟩ := mapM_range h
    refine ⟨h1, fun j d hd => ?_⟩
    obtain ⟨b, h3, h4⟩ := h2 j (by rw [← h1]; exact (List.getElem?_eq_some_iff.1 hd).1)
    rw [h3] at hd
    rw [h4, hd]
  · cases h

theorem addr_add {a : Addr} (hs : a.spot = none) (n : Nat) : a.add n = ⟨a.block, a.off + n, none⟩ := by
  unfold Addr.add
  cases a
  simp only at hs
  subst hs
  split
  · rename_i h; subst h; rfl
  · rfl

theorem enc_of_trod : ∀ (t : Ty),
    (∀ fuel id cs (d : DataW H) (p : List MemPlace), TOk P t id → argB P t id = true → DataW.trod enc P W base spare held fuel id cs = some (d, p) → (∀ n ∈ d.weights P id, n ≤ reachBytes) → ∃ x, Enc W (GW W) t x cs) ∧
    (∀ fuel (r : List Field) (o : Nat) (cs : List Value) (xs : List (DataW H × List MemPlace)), FOk P t r o → fargB P t r = true → xs.length = r.length →
      (∀ (i : Nat) (f : Field), r[i]? = some f → DataW.trod enc P W base spare held fuel f.type ((cs.drop f.offset).take (P.cellsOf f.type)) = xs[i]?) →
      (∀ n ∈ DataW.weightsEach P (r.map (·.type)) (xs.map (·.1)), n ≤ reachBytes) → cs.length = o + t.sz → ∃ x, Enc W (GW W) t x (cs.drop o)) := by
  intro t
  have nofld : ∀ t, (∀ a b, t ≠ .cons a b) → t ≠ .nil → ∀ (r : List Field) (o : Nat), ¬ FOk P t r o := by
    intro t h1 h2 r o h
    cases t <;> first | exact h1 _ _ rfl | exact h2 rfl | (cases r <;> exact h.elim)
  induction t with
  | int k =>
    refine ⟨fun fuel id cs d p hT _ h _ => ?_, fun fuel r o cs xs h => (nofld _ (by simp) (by simp) _ _ h).elim⟩
    obtain ⟨n, hcs, _, hw⟩ := DataW.trod_int hT.2 h
    simp only [Lit.wf, Bool.and_eq_true, decide_eq_true_eq] at hw
    exact ⟨(⟨n, wrap_eq_of_range hw⟩ : I k), hcs⟩
  | bool =>
    refine ⟨fun fuel id cs d p hT _ h _ => ?_, fun fuel r o cs xs h => (nofld _ (by simp) (by simp) _ _ h).elim⟩
    obtain ⟨n, hcs, _⟩ := DataW.trod_bool hT.2 h
    exact ⟨n, hcs⟩
  | str =>
    refine ⟨fun fuel id cs d p hT _ h hw => ?_, fun fuel r o cs xs h => (nofld _ (by simp) (by simp) _ _ h).elim⟩
    obtain ⟨s, hcs, hx, _⟩ := DataW.trod_string hT.2 h
    simp only [Prod.mk.injEq] at hx
    obtain ⟨rfl, rfl⟩ := hx
    refine ⟨strOf s, ?_, ?_⟩
    · rw [bytesOf_strOf]; exact hcs
    · have := hw s.data.toList.length (by simp [DataW.weights])
      have h2 : (strOf s).length = s.data.toList.length := List.length_map _
      show (strOf s).length ≤ LIM
      rw [h2]
      simp only [reachBytes, LIM] at *
      omega
  | nil =>
    refine ⟨fun fuel id cs d p hT _ h hw => ?_, fun fuel r o cs xs h _ _ _ _ hl => ⟨(), ?_⟩⟩
    · obtain ⟨xs, n, _, _, hl, _⟩ := DataW.trod_struct hT.2 h
      rw [hT.1] at hl
      exact ⟨(), List.eq_nil_of_length_eq_zero hl⟩
    · show cs.drop o = []
      simp only [Ty.sz, Nat.add_zero] at hl
      rw [List.drop_eq_nil_iff]; omega
  | cons a b iha ihb =>
    refine ⟨fun fuel id cs d p hT hA h hw => ?_, fun fuel r o cs xs hF hA hlen hf hw hl => ?_⟩
    · obtain ⟨hsz, fs, f, r, hu, hfs, hf0, hTa, hFb⟩ := hT
      obtain ⟨xs, n, _, hx, hl, hlen, hfx⟩ := DataW.trod_struct hu h
      simp only [Prod.mk.injEq] at hx
      obtain ⟨rfl, rfl⟩ := hx
      simp only [argB, hu, hfs, Bool.and_eq_true] at hA
      have hfl : ∀ (i : Nat) (g : Field), (f :: r)[i]? = some g → DataW.trod enc P W base spare held n g.type ((cs.drop g.offset).take (P.cellsOf g.type)) = xs[i]? := by
        intro i g hg
        refine hfx i g ?_
        rw [← Array.getElem?_toList, hfs]
        exact hg
      have hlen' : xs.length = r.length + 1 := by rw [hlen, ← Array.length_toList, hfs]; rfl
      match xs, hlen' with
      | y :: ys, hlen' =>
        simp only [DataW.weights, hu, hfs, List.map_cons, DataW.weightsEach, List.mem_append] at hw
        have h0 := hfl 0 f rfl
        simp only [List.getElem?_cons_zero] at h0
        rw [hf0, hTa.size, List.drop_zero] at h0
        obtain ⟨x, hx⟩ := iha.1 n f.type _ y.1 y.2 hTa hA.1 h0 (fun m hm => hw m (.inl hm))
        obtain ⟨z, hz⟩ := ihb.2 n r a.sz cs ys hFb hA.2 (by simpa using hlen') (fun i g hg => by simpa using hfl (i + 1) g hg) (fun m hm => hw m (.inr hm)) (by rw [hl, hsz])
        exact ⟨(x, z), _, _, (List.take_append_drop a.sz cs).symm, hx, hz⟩
    · cases r with
      | nil => exact hF.elim
      | cons f r =>
        obtain ⟨hf0, hTa, hFb⟩ := hF
        simp only [fargB, Bool.and_eq_true] at hA
        match xs, hlen with
        | y :: ys, hlen =>
          simp only [List.map_cons, DataW.weightsEach, List.mem_append] at hw
          have h0 := hf 0 f rfl
          simp only [List.getElem?_cons_zero] at h0
          rw [hf0, hTa.size] at h0
          simp only [Ty.sz] at hl
          obtain ⟨x, hx⟩ := iha.1 fuel f.type _ y.1 y.2 hTa hA.1 h0 (fun m hm => hw m (.inl hm))
          obtain ⟨z, hz⟩ := ihb.2 fuel r (o + a.sz) cs ys hFb hA.2 (by simpa using hlen) (fun i g hg => by simpa using hf (i + 1) g hg) (fun m hm => hw m (.inr hm)) (by omega)
          refine ⟨(x, z), _, _, (List.take_append_drop a.sz (cs.drop o)).symm, hx, ?_⟩
          rw [List.drop_drop]
          exact hz
  | arr n t ih =>
    refine ⟨fun fuel id cs d p hT hA h hw => ?_, fun fuel r o cs xs h => (nofld _ (by simp) (by simp) _ _ h).elim⟩
    obtain ⟨hsz, e, hu, hTe⟩ := hT
    obtain ⟨xs, m, _, hx, hl, hlen, hfx⟩ := DataW.trod_array hu h
    simp only [Prod.mk.injEq] at hx
    obtain ⟨rfl, rfl⟩ := hx
    simp only [argB, hu] at hA
    simp only [DataW.weights, hu] at hw
    refine exists_arr n cs (by rw [hl, hsz]) fun i hi => ?_
    have h0 := hfx i hi
    rw [hTe.size, List.getElem?_eq_getElem (by omega)] at h0
    refine ih.1 m e _ (xs[i]'(by omega)).1 (xs[i]'(by omega)).2 hTe hA h0 fun k hk => hw k (weightsAll_mem (i := i) ?_ k hk)
    rw [List.getElem?_map, List.getElem?_eq_getElem (by omega)]; rfl
  | sl t ih =>
    refine ⟨fun fuel id cs d p hT hA h hw => ?_, fun fuel r o cs xs h => (nofld _ (by simp) (by simp) _ _ h).elim⟩
    obtain ⟨hsz, e, hu, hTe⟩ := hT
    simp only [argB, hu, Bool.and_eq_true] at hA
    obtain ⟨hA1, hA2, hA⟩ := hA
    have hA1 := Nat.le_of_ble_eq_true hA1
    have hA2 := Nat.le_of_ble_eq_true hA2
    rcases DataW.trod_slice hu h with ⟨rfl, _⟩ | ⟨a, len, cap, elems, rest, m, _, rfl, hx, _, hlc, _, hel, hfx, _, _⟩
    · refine ⟨([] : List t.D), none, 0, rfl, Nat.le_refl _, by simp, .inl rfl⟩
    · simp only [Prod.mk.injEq] at hx
      obtain ⟨rfl, rfl⟩ := hx
      simp only [DataW.weights, hu, List.mem_cons, List.mem_append] at hw
      have hb := hw _ (.inl rfl)
      have hlim : len ≤ LIM := by
        have h1 : len ≤ (elems.length + rest.length) * P.bytesOf e := by
          rw [← hel]
          refine Nat.le_trans ?_ (Nat.mul_le_mul_left _ hA2)
          omega
        simp only [List.length_map] at hb
        simp only [reachBytes, LIM] at *
        omega
      have key : ∀ i, i < len → a.spot = none ∧ a.block < W.heap.size ∧ ∃ x ds, Enc W (GW W) t x ds ∧ cellsAt W a.block (a.off + i * t.sz) ds := by
        have one : ∀ i, i < len → ∃ (ds : List Value) (x : t.D), ds.length = t.sz ∧ Enc W (GW W) t x ds ∧ ∀ j d, ds[j]? = some d → W.cell? ((a.add (i * t.sz)).add j) = some d := by
          intro i hi
          have h0 := hfx i hi
          rw [List.getElem?_eq_getElem (by omega)] at h0
          simp only [Option.bind_eq_some_iff] at h0
          obtain ⟨ds, h1, h2⟩ := h0
          obtain ⟨h3, h4⟩ := cells_row h1
          rw [hTe.size] at h3 h4
          obtain ⟨x, hx⟩ := ih.1 m e ds (elems[i]'(by omega)).1 (elems[i]'(by omega)).2 hTe hA h2 fun k hk => hw k (.inr (.inl (weightsAll_mem (i := i) (by rw [List.getElem?_map, List.getElem?_eq_getElem (by omega)]; rfl) k hk)))
          exact ⟨ds, x, h3, hx, h4⟩
        intro i hi
        obtain ⟨ds, x, h1, h2, h3⟩ := one i hi
        obtain ⟨ds0, _, g1, _, g3⟩ := one 0 (by omega)
        have c0 := g3 0 (ds0[0]'(by omega)) (List.getElem?_eq_getElem _)
        simp only [Nat.zero_mul] at c0
        have e0 : (a.add 0).add 0 = a := by simp [Addr.add]
        rw [e0] at c0
        obtain ⟨hs, hlt⟩ := cell_lt c0
        refine ⟨hs, hlt, x, ds, h2, fun j d hd => ?_⟩
        have := h3 j d hd
        rw [addr_add hs, addr_add rfl] at this
        exact this
      obtain ⟨l, hl1, hl2⟩ := exists_list len (fun i x => ∃ ds, Enc W (GW W) t x ds ∧ cellsAt W a.block (a.off + i * t.sz) ds) fun i hi => (key i hi).2.2
      refine ⟨l, some a, cap, ?_, ?_, ?_, ?_⟩
      · show [Value.slice (some a) len cap] = [Value.slice (some a) l.length cap]; rw [hl1]
      · show l.length ≤ cap; omega
      · show l.length ≤ LIM; omega
      · by_cases h0 : len = 0
        · left; show l = []; exact List.eq_nil_of_length_eq_zero (by omega)
        · obtain ⟨h1, h2, _⟩ := key 0 (by omega)
          exact .inr ⟨a, rfl, h1, h2, hl2⟩
  | opq => exact ⟨fun fuel id cs d p hT hA => by simp [argB] at hA, fun fuel r o cs xs h => (nofld _ (by simp) (by simp) _ _ h).elim⟩
end

/-- What an argument's form leaves of its cells. -/
theorem val_of_ok {P : Program} {W : World} {rr : Reach} {base : Nat} {id : TypeId} {v : Value} {t : Ty} (hT : TOk P t id) (hne : t ≠ .opq) (h : Value.okWide P W rr base id v) : v = mkV t.isAgg v.cells.toList := by
  have agg : (∃ cs, v = .agg cs) → v = mkV true v.cells.toList := by
    rintro ⟨cs, rfl⟩
    show Value.agg cs = .agg _
    congr 1
  cases t with
  | int k => obtain ⟨n, rfl⟩ := Go.WideShapes.okWide_int hT.2 h; rfl
  | bool => obtain ⟨n, rfl⟩ := Go.WideShapes.okWide_bool hT.2 h; rfl
  | str => obtain ⟨n, rfl⟩ := Go.WideShapes.okWide_string hT.2 h; rfl
  | sl t => obtain ⟨_, e, hu, _⟩ := hT; obtain ⟨a, l, c, rfl⟩ := Go.WideShapes.okWide_slice hu h; rfl
  | opq => exact (hne rfl).elim
  | nil => obtain ⟨_, hu⟩ := hT; simp only [Value.okWide, hu] at h; exact agg ⟨_, h.choose_spec.1⟩
  | cons a b => obtain ⟨_, fs, f, r, hu, _⟩ := hT; simp only [Value.okWide, hu] at h; exact agg ⟨_, h.choose_spec.1⟩
  | arr n t => obtain ⟨_, e, hu, _⟩ := hT; simp only [Value.okWide, hu] at h; exact agg ⟨_, h.choose_spec.1⟩

def Arr.all {X : Type} (p : X → Prop) : (n : Nat) → Arr X n → Prop
  | 0, _ => True
  | n + 1, x => p x.1 ∧ Arr.all p n x.2

/-- No slice and no string is longer than memory. -/
def Ty.bd : (t : Ty) → t.D → Prop
  | .str, x => (show List (I .u8) from x).length ≤ LIM
  | .cons a b, x => a.bd x.1 ∧ b.bd x.2
  | .arr n t, x => Arr.all t.bd n x
  | .sl t, x => (show List t.D from x).length ≤ LIM ∧ ∀ (i : Nat) (y : t.D), (show List t.D from x)[i]? = some y → t.bd y
  | .int _, _ => True
  | .bool, _ => True
  | .nil, _ => True
  | .opq, _ => True

theorem EncArr_all {X : Type} {E : X → List Value → Prop} {p : X → Prop} (h : ∀ x cs, E x cs → p x) : ∀ (n : Nat) (x : Arr X n) (cs : List Value), EncArr E n x cs → Arr.all p n x
  | 0, _, _, _ => trivial
  | n + 1, x, cs, he => by
    obtain ⟨c1, c2, _, h1, h2⟩ := he
    exact ⟨h _ _ h1, EncArr_all h n x.2 c2 h2⟩

theorem Enc_bd {W : World} {G : Nat → Prop} : ∀ (t : Ty) (x : t.D) (cs : List Value), Enc W G t x cs → t.bd x := by
  intro t
  induction t with
  | int k => intro x cs _; trivial
  | bool => intro x cs _; trivial
  | nil => intro x cs _; trivial
  | opq => intro x cs _; trivial
  | str => intro x cs h; exact h.2
  | cons a b iha ihb => intro x cs h; obtain ⟨c1, c2, _, h1, h2⟩ := h; exact ⟨iha _ _ h1, ihb _ _ h2⟩
  | arr n t ih => intro x cs h; exact EncArr_all (fun x cs => ih x cs) n x cs h
  | sl t ih =>
    intro x cs h
    obtain ⟨a, c, _, _, hl, hx⟩ := h
    refine ⟨hl, fun i y hy => ?_⟩
    rcases hx with hx | ⟨ad, _, _, _, hr⟩
    · rw [hx] at hy; simp at hy
    · obtain ⟨ds, h1, _⟩ := hr i y hy
      exact ih y ds h1

def bdAll : (ts : List Ty) → ShD (ts.map .pl) → Prop
  | [], _ => True
  | t :: ts, x => t.bd x.1 ∧ bdAll ts x.2

def argsB (P : Program) : List Ty → List TypeId → Bool
  | [], [] => true
  | t :: ts, id :: ids => tokB P t id && (argB P t id && (P.readableRec id && (Nat.blt id P.types.size && argsB P ts ids)))
  | _, _ => false

section
variable {H : Type} {enc : TypeId × Value → H} {P : Program} {W : World}

def cx0 (W : World) : Cx := ⟨W, GW W, fun _ => .bool false, []⟩

theorem args_val {rr : Reach} {base : Nat} : ∀ (ts : List Ty) (ids : List TypeId) (vs : List Value) (ds : List (DataW H)) (ps : List MemPlace), argsB P ts ids = true →
    DataW.TrodAll enc P W 0 (fun _ => true) true ids vs ds ps → (∀ (j : Nat) t v, ids[j]? = some t → vs[j]? = some v → Value.okWide P W rr base t v) →
    (∀ n ∈ DataW.weightsEach P ids ds, n ≤ reachBytes) → ds.length = ts.length ∧ ∃ x : ShD (ts.map .pl), bdAll ts x ∧ All2 (VOk (cx0 W)) (mkSlots (ts.map .pl) x) vs
  | [], [], vs, ds, ps, _, hA, _, _ => by
    obtain ⟨rfl, rfl, rfl⟩ := Go.ChangeShapes.trodAll_nil hA
    exact ⟨rfl, (), trivial, trivial⟩
  | [], _ :: _, _, _, _, h, _, _, _ => by cases h
  | _ :: _, [], _, _, _, h, _, _, _ => by cases h
  | t :: ts, id :: ids, vs, ds, ps, h, hA, hv, hw => by
    simp only [argsB, Bool.and_eq_true] at h
    obtain ⟨h1, h2, _, _, h5⟩ := h
    obtain ⟨v, vs', d, ds', p, q, rfl, rfl, rfl, ⟨fuel, hd⟩, hrest⟩ := Go.ChangeShapes.trodAll_cons hA
    simp only [DataW.weightsEach, List.mem_append] at hw
    have hT := (tok_both P t).1 id h1
    obtain ⟨x, hx⟩ := (enc_of_trod t).1 fuel id _ d p hT h2 hd fun n hn => hw n (.inl hn)
    obtain ⟨hl, y, hbd, hy⟩ := args_val ts ids vs' ds' q h5 hrest (fun j t v ht hv' => hv (j + 1) t v (by simpa using ht) (by simpa using hv')) fun n hn => hw n (.inr hn)
    refine ⟨by simp [hl], (x, y), ⟨Enc_bd t x _ hx, hbd⟩, ?_, hy⟩
    refine ⟨_, hx, ?_⟩
    exact val_of_ok hT (by rintro rfl; simp [argB] at h2) (hv 0 id v rfl rfl)

theorem trodAll_below (hl : laidOutB P = true) {W' : World} (hb : Go.RowKit.Below W.heap.size W W') : ∀ (ts : List Ty) (ids : List TypeId) (vs : List Value) (ds : List (DataW H)) (ps : List MemPlace), argsB P ts ids = true →
    DataW.TrodAll enc P W 0 (fun _ => true) true ids vs ds ps → (∀ x ∈ ps, x.block < W.heap.size) → DataW.TrodAll enc P W' 0 (fun b => decide (b < W.heap.size)) true ids vs ds ps
  | [], [], vs, ds, ps, _, hA, _ => by
    obtain ⟨rfl, rfl, rfl⟩ := Go.ChangeShapes.trodAll_nil hA
    exact Go.ChangeShapes.trodAll_mk0
  | [], _ :: _, _, _, _, h, _, _ => by cases h
  | _ :: _, [], _, _, _, h, _, _ => by cases h
  | t :: ts, id :: ids, vs, ds, ps, h, hA, hlt => by
    simp only [argsB, Bool.and_eq_true] at h
    obtain ⟨_, _, h3, h4, h5⟩ := h
    obtain ⟨v, vs', d, ds', p, q, rfl, rfl, rfl, hd, hrest⟩ := Go.ChangeShapes.trodAll_cons hA
    refine ⟨p, q, Go.RowKit.Below.trod hl h3 (Nat.lt_of_succ_le (Nat.le_of_ble_eq_true h4)) hd hb fun x hx => hlt x (by simp [hx]), ?_, rfl⟩
    exact trodAll_below hl hb ts ids vs' ds' q h5 hrest fun x hx => hlt x (by simp [hx])

theorem start0 : Start (cx0 W) := by
  have hu : ∀ b, blkAt (cx0 W).H b = .unborn := fun b => by simp [cx0, blkAt]
  refine ⟨fun b => ?_, fun b b' r h => ?_, fun r hr => ⟨hr, fun b h => ?_⟩⟩
  · unfold BlkOk; rw [hu]; trivial
  · rw [hu] at h; cases h
  · rw [hu] at h; cases h

theorem row_of_con {C : Checked} {f : FuncId} {fn : Func} {s : ChangeSpec} {ts : List Ty} {bt : TypeId} {F : (⟨ts.map .pl, []⟩ : Tm).D → Option (⟨[.pl .bool], []⟩ : Tm).D}
    (hl : laidOutB C.prog = true) (hfn : C.prog.funcs[f]? = some fn) (hbody : fn.body.isSome = true) (hname : (fn.name == "runtime.NumGoroutine") = false)
    (hargs : argsB C.prog ts fn.params.toList = true) (hres : fn.resultTypes = #[bt]) (hbt : C.prog.underlying bt = some .bool) (hvars : s.vars = [])
    (hs : ∀ ds : List (DataW H), ds.length = ts.length → s.fn H ds = { results := [.lit (.bool true)], args := ds })
    (hcon : ConOk C.prog f ⟨⟨ts.map .pl, []⟩, ⟨[.pl .bool], []⟩, F⟩) (hF : ∀ x, bdAll ts x → F (x, ()) = some ((true, ()), ()))
    (base : Nat) (args : Array Value) (ds gs : List (DataW H)) (before : List MemPlace)
    (hval : ∀ (j : Nat) t v, fn.params[j]? = some t → args[j]? = some v → Value.okWide C.prog W .any base t v)
    (hW : DataW.Whole enc C.prog fn.params.toList s.vars false W args.toList ds gs before)
    (hsz : (DataW.weightsEach C.prog (fn.params.toList ++ s.plain.varTypes C.prog) (ds ++ gs)).all (· ≤ reachBytes) = true) :
    Calls C.prog f args W fun e W' => ∃ v, e = .returned v ∧ s.post enc C.prog fn false true false false W args v W' := by
  have hW' := hW
  obtain ⟨p, q, hA, hV, rfl, hfz, hnd⟩ := hW
  rw [hvars] at hV
  obtain ⟨rfl, rfl⟩ := Go.ChangeShapes.trodVars_none hV
  have hvt : s.plain.varTypes C.prog = [] := by simp [DataSpec.varTypes, ChangeSpec.plain, hvars]
  rw [hvt, List.append_nil, List.append_nil, List.all_eq_true] at hsz
  obtain ⟨hlen, x, hbd, hx⟩ := args_val (P := C.prog) ts fn.params.toList args.toList ds p hargs hA
    (fun j t v h1 h2 => hval j t v (by rw [← Array.getElem?_toList]; exact h1) (by rw [← Array.getElem?_toList]; exact h2)) fun n hn => of_decide_eq_true (hsz n hn)
  have key := hcon (x, ()) ((true, ()), ()) (hF x hbd) (cx0 W) args.toList start0 rfl hx
  rw [Array.toArray_toList] at key
  obtain ⟨b, hb⟩ := Option.isSome_iff_exists.1 hbody
  have hent := run_callFunc (args := args) (w := W) hfn hb hname
  rcases key with ⟨v, w', h1, _⟩ | ⟨_, h⟩
  · change (callFunc f args).run C.prog W = _ at h1
    rw [hent] at h1
    cases h1
  · refine h.mono fun e w' hr => ?_
    obtain ⟨v, he, c', hw, hH, hv, hM⟩ := hr
    subst he hw
    refine ⟨v, rfl, ?_⟩
    have hown : ∀ r, ¬ ownOf (cx0 W) r := by
      rintro r ⟨b, hb, _⟩
      simp [cx0, blkAt, live] at hb
    have bel : Go.RowKit.Below W.heap.size W c'.w := ⟨hM.os, hM.tape, hM.output, hM.size, fun k hk => hM.frame k hk (hown k)⟩
    obtain ⟨cs, hcs, hv⟩ := hv
    have hcs : cs = [.bool true] := hcs
    subst hcs
    have hv : v = .bool true := hv
    subst hv
    have hfnH := hs ds hlen
    refine ⟨ds, [], _, [], p, [], hW', ?_, ?_, ?_, bel.frame _, fun h => by cases h⟩
    · rw [List.append_nil, hfnH, hres]
      exact Go.ChangeShapes.trodAll_mk1 (Go.RowKit.shut_bool hbt _)
    · rw [List.append_nil, hfnH]
      refine trodAll_below hl bel ts _ _ _ _ hargs hA fun x hx => ?_
      exact DataW.TrodAll.lt hA x hx
    · rw [List.append_nil, hfnH, hvars]
      rfl
end
end Sym

/- Whole numbers of 256 bits: what the four words are worth. -/
namespace Sym
open Go

abbrev U : Type := I .u64 × I .u64 × I .u64 × I .u64 × Unit
abbrev u256 : Ty := .arr 4 (.int .u64)
abbrev i64 : Ty := .int .i64

theorem nat_val (x : I .u64) : (x.nat : Int) = x.val := by
  have := (I_range x).1
  simp only [I.nat]; omega

theorem nat_lt (x : I .u64) : x.nat < 18446744073709551616 := by
  have := I_range x
  simp only [I.nat]; omega

theorem of_nat {n : Nat} (h : n < 18446744073709551616) : (I.of .u64 (n : Int)).nat = n := by
  show (IntKind.u64.wrap n).toNat = n
  rw [wrap_u64]; omega

theorem nat_of (x : I .u64) : I.of .u64 (x.nat : Int) = x := by
  apply I.ext'
  show IntKind.u64.wrap _ = _
  rw [nat_val]; exact x.ok

def U.val (a : U) : Nat := a.1.nat + 18446744073709551616 * (a.2.1.nat + 18446744073709551616 * (a.2.2.1.nat + 18446744073709551616 * a.2.2.2.1.nat))

def U.of (n : Nat) : U := (I.of .u64 ((n % 18446744073709551616 : Nat) : Int), I.of .u64 ((n / 18446744073709551616 % 18446744073709551616 : Nat) : Int), I.of .u64 ((n / 340282366920938463463374607431768211456 % 18446744073709551616 : Nat) : Int), I.of .u64 ((n / 6277101735386680763835789423207666416102355444464034512896 % 18446744073709551616 : Nat) : Int), ())

def U.top : Nat := 115792089237316195423570985008687907853269984665640564039457584007913129639936

theorem U.lt (a : U) : a.val < U.top := by
  have h0 := nat_lt a.1
  have h1 := nat_lt a.2.1
  have h2 := nat_lt a.2.2.1
  have h3 := nat_lt a.2.2.2.1
  unfold U.val U.top
  omega

theorem U.val_of {n : Nat} (h : n < U.top) : (U.of n).val = n := by
  unfold U.val U.of
  unfold U.top at h
  simp only
  rw [of_nat (by omega), of_nat (by omega), of_nat (by omega), of_nat (by omega)]
  omega

theorem U.ext {a b : U} (h : a.val = b.val) : a = b := by
  obtain ⟨a0, a1, a2, a3, ⟨⟩⟩ := a
  obtain ⟨b0, b1, b2, b3, ⟨⟩⟩ := b
  unfold U.val at h
  simp only at h
  have i0 := nat_lt a0
  have i1 := nat_lt a1
  have i2 := nat_lt a2
  have i3 := nat_lt a3
  have j0 := nat_lt b0
  have j1 := nat_lt b1
  have j2 := nat_lt b2
  have j3 := nat_lt b3
  have e : ∀ {x y : I .u64}, x.nat = y.nat → x = y := fun {x y} h => by rw [← nat_of x, ← nat_of y, h]
  rw [e (show a0.nat = b0.nat by omega), e (show a1.nat = b1.nat by omega), e (show a2.nat = b2.nat by omega), e (show a3.nat = b3.nat by omega)]

theorem U.of_val (a : U) : U.of a.val = a := U.ext (U.val_of a.lt)

theorem add64_nat (x y c : I .u64) (hc : c.nat ≤ 1) : ∃ z q : I .u64, add64F ((x, y, c, ()), ()) = some ((z, q, ()), ()) ∧ z.nat + 18446744073709551616 * q.nat = x.nat + y.nat + c.nat ∧ q.nat ≤ 1 := by
  have hb : Nat.ble c.nat 1 = true := by rw [Nat.ble_eq]; exact hc
  refine ⟨_, _, by simp only [add64F, hb]; rfl, ?_⟩
  have hx := nat_val x
  have hy := nat_val y
  have hcv := nat_val c
  have lx := nat_lt x
  have ly := nat_lt y
  rw [← hx, ← hy, ← hcv]
  have e1 : (I.of .u64 ((x.nat : Int) + y.nat + c.nat)).nat = (x.nat + y.nat + c.nat) % 18446744073709551616 := by
    show (IntKind.u64.wrap _).toNat = _
    rw [wrap_u64]; omega
  have e2 : (I.of .u64 (((x.nat : Int) + y.nat + c.nat) / 18446744073709551616)).nat = (x.nat + y.nat + c.nat) / 18446744073709551616 := by
    show (IntKind.u64.wrap _).toNat = _
    rw [wrap_u64]; omega
  rw [e1, e2]
  omega

theorem sub64_nat (x y c : I .u64) (hc : c.nat ≤ 1) : ∃ z q : I .u64, sub64F ((x, y, c, ()), ()) = some ((z, q, ()), ()) ∧ z.nat + y.nat + c.nat = x.nat + 18446744073709551616 * q.nat ∧ q.nat ≤ 1 := by
  have hb : Nat.ble c.nat 1 = true := by rw [Nat.ble_eq]; exact hc
  refine ⟨_, _, by simp only [sub64F, hb]; rfl, ?_⟩
  have hx := nat_val x
  have hy := nat_val y
  have hcv := nat_val c
  have lx := nat_lt x
  have ly := nat_lt y
  rw [← hx, ← hy, ← hcv]
  have e1 : ((I.of .u64 ((x.nat : Int) - y.nat - c.nat)).nat : Int) = ((x.nat : Int) - y.nat - c.nat) % 18446744073709551616 := by
    show ((IntKind.u64.wrap _).toNat : Int) = _
    rw [wrap_u64]; omega
  by_cases h : (x.nat : Int) < y.nat + c.nat
  · have e2 : (I.of .u64 (bif decide ((x.nat : Int) < y.nat + c.nat) then 1 else 0)).nat = 1 := by simp [h]; rfl
    rw [e2]
    omega
  · have e2 : (I.of .u64 (bif decide ((x.nat : Int) < y.nat + c.nat) then 1 else 0)).nat = 0 := by simp [h]; rfl
    rw [e2]
    omega
end Sym

/- What the functions of uint256 compute, told of whole numbers. (The functions are as the printer gave them.) -/
namespace Sym
open Go

abbrev UU : Tm := ⟨[.pl u256, .pl u256], []⟩
abbrev UE : Tm := ⟨[.pl u256, .pl i64], []⟩

def uint256_Add (x : UU.D) : Option UE.D :=
 let a : U := x.1.1
 let b : U := x.1.2.1
 optF (none) (add64F ((a.1, (b.1, ((I.of .u64 0), ()))), ())) fun y0 =>
 optF (none) (add64F ((a.2.1, (b.2.1, (y0.1.2.1, ()))), ())) fun y1 =>
 optF (none) (add64F ((a.2.2.1, (b.2.2.1, (y1.1.2.1, ()))), ())) fun y2 =>
 optF (none) (add64F ((a.2.2.2.1, (b.2.2.2.1, (y2.1.2.1, ()))), ())) fun y3 =>
 brn (@I.neb .u64 y3.1.2.1 (I.of .u64 0))
  (some ((((I.of .u64 0), ((I.of .u64 0), ((I.of .u64 0), ((I.of .u64 0), ())))), ((I.of .i64 4), ())), ()))
  (some (((y0.1.1, (y1.1.1, (y2.1.1, (y3.1.1, ())))), ((I.of .i64 0), ())), ()))

def uint256_Sub (x : UU.D) : Option UE.D :=
 let a : U := x.1.1
 let b : U := x.1.2.1
 optF (none) (sub64F ((a.1, (b.1, ((I.of .u64 0), ()))), ())) fun y0 =>
 optF (none) (sub64F ((a.2.1, (b.2.1, (y0.1.2.1, ()))), ())) fun y1 =>
 optF (none) (sub64F ((a.2.2.1, (b.2.2.1, (y1.1.2.1, ()))), ())) fun y2 =>
 optF (none) (sub64F ((a.2.2.2.1, (b.2.2.2.1, (y2.1.2.1, ()))), ())) fun y3 =>
 brn (@I.neb .u64 y3.1.2.1 (I.of .u64 0))
  (some ((((I.of .u64 0), ((I.of .u64 0), ((I.of .u64 0), ((I.of .u64 0), ())))), ((I.of .i64 4), ())), ()))
  (some (((y0.1.1, (y1.1.1, (y2.1.1, (y3.1.1, ())))), ((I.of .i64 0), ())), ()))

def uint256_Cmp (x : UU.D) : Option (⟨[.pl i64], []⟩ : Tm).D :=
 let a : U := x.1.1
 let b : U := x.1.2.1
 brn (@I.ltb .u64 a.2.2.2.1 b.2.2.2.1)
  (some (((I.of .i64 (-1)), ()), ()))
  (brn (@I.ltb .u64 b.2.2.2.1 a.2.2.2.1)
   (some (((I.of .i64 1), ()), ()))
   (brn (@I.ltb .u64 a.2.2.1 b.2.2.1)
    (some (((I.of .i64 (-1)), ()), ()))
    (brn (@I.ltb .u64 b.2.2.1 a.2.2.1)
     (some (((I.of .i64 1), ()), ()))
     (brn (@I.ltb .u64 a.2.1 b.2.1)
      (some (((I.of .i64 (-1)), ()), ()))
      (brn (@I.ltb .u64 b.2.1 a.2.1)
       (some (((I.of .i64 1), ()), ()))
       (brn (@I.ltb .u64 a.1 b.1)
        (some (((I.of .i64 (-1)), ()), ()))
        (brn (@I.ltb .u64 b.1 a.1)
         (some (((I.of .i64 1), ()), ()))
         (some (((I.of .i64 0), ()), ())))))))))

theorem neb_zero (x : I .u64) : I.neb x (I.of .u64 0) = !decide (x.nat = 0) := by
  unfold I.neb
  have : (I.of .u64 0).val = 0 := rfl
  rw [this, ← nat_val]
  congr 1
  simp

theorem ltb_nat (x y : I .u64) : I.ltb x y = decide (x.nat < y.nat) := by
  unfold I.ltb
  rw [← nat_val, ← nat_val]
  simp

/-- The sum, or an error. -/
def addS (a b : U) : U × I .i64 := if a.val + b.val < U.top then (U.of (a.val + b.val), I.of .i64 0) else (U.of 0, I.of .i64 4)
def subS (a b : U) : U × I .i64 := if b.val ≤ a.val then (U.of (a.val - b.val), I.of .i64 0) else (U.of 0, I.of .i64 4)
def cmpS (a b : U) : I .i64 := if a.val < b.val then I.of .i64 (-1) else if b.val < a.val then I.of .i64 1 else I.of .i64 0

theorem uint256_Add_eq (a b : U) : uint256_Add ((a, b, ()), ()) = some (((addS a b).1, (addS a b).2, ()), ()) := by
  obtain ⟨a0, a1, a2, a3, ⟨⟩⟩ := a
  obtain ⟨b0, b1, b2, b3, ⟨⟩⟩ := b
  obtain ⟨z0, q0, h0, e0, l0⟩ := add64_nat a0 b0 (I.of .u64 0) (by decide)
  obtain ⟨z1, q1, h1, e1, l1⟩ := add64_nat a1 b1 q0 l0
  obtain ⟨z2, q2, h2, e2, l2⟩ := add64_nat a2 b2 q1 l1
  obtain ⟨z3, q3, h3, e3, l3⟩ := add64_nat a3 b3 q2 l2
  have ez : (I.of .u64 0).nat = 0 := rfl
  rw [ez] at e0
  have n0 := nat_lt z0
  have n1 := nat_lt z1
  have n2 := nat_lt z2
  have n3 := nat_lt z3
  have step : uint256_Add ((((a0, a1, a2, a3, ()) : U), ((b0, b1, b2, b3, ()) : U), ()), ()) = brn (@I.neb .u64 q3 (I.of .u64 0)) (some ((U.of 0, I.of .i64 4, ()), ())) (some ((((z0, z1, z2, z3, ()) : U), I.of .i64 0, ()), ())) := by
    unfold uint256_Add
    simp only [h0, optF, h1, h2, h3]
    rfl
  rw [step, neb_zero]
  unfold addS
  have hs : U.val (a0, a1, a2, a3, ()) + U.val (b0, b1, b2, b3, ()) = U.val (z0, z1, z2, z3, ()) + U.top * q3.nat := by
    unfold U.val U.top
    simp only
    omega
  have hz := U.lt (z0, z1, z2, z3, ())
  by_cases hq : q3.nat = 0
  · rw [hq, Nat.mul_zero, Nat.add_zero] at hs
    rw [hs, if_pos hz, U.of_val]
    simp [hq]; rfl
  · have hq1 : q3.nat = 1 := by omega
    rw [hq1, Nat.mul_one] at hs
    rw [hs, if_neg (by omega)]
    simp [hq1]; rfl

theorem uint256_Sub_eq (a b : U) : uint256_Sub ((a, b, ()), ()) = some (((subS a b).1, (subS a b).2, ()), ()) := by
  obtain ⟨a0, a1, a2, a3, ⟨⟩⟩ := a
  obtain ⟨b0, b1, b2, b3, ⟨⟩⟩ := b
  obtain ⟨z0, q0, h0, e0, l0⟩ := sub64_nat a0 b0 (I.of .u64 0) (by decide)
  obtain ⟨z1, q1, h1, e1, l1⟩ := sub64_nat a1 b1 q0 l0
  obtain ⟨z2, q2, h2, e2, l2⟩ := sub64_nat a2 b2 q1 l1
  obtain ⟨z3, q3, h3, e3, l3⟩ := sub64_nat a3 b3 q2 l2
  have ez : (I.of .u64 0).nat = 0 := rfl
  rw [ez] at e0
  have n0 := nat_lt z0
  have n1 := nat_lt z1
  have n2 := nat_lt z2
  have n3 := nat_lt z3
  have step : uint256_Sub ((((a0, a1, a2, a3, ()) : U), ((b0, b1, b2, b3, ()) : U), ()), ()) = brn (@I.neb .u64 q3 (I.of .u64 0)) (some ((U.of 0, I.of .i64 4, ()), ())) (some ((((z0, z1, z2, z3, ()) : U), I.of .i64 0, ()), ())) := by
    unfold uint256_Sub
    simp only [h0, optF, h1, h2, h3]
    rfl
  rw [step, neb_zero]
  unfold subS
  have hs : U.val (z0, z1, z2, z3, ()) + U.val (b0, b1, b2, b3, ()) = U.val (a0, a1, a2, a3, ()) + U.top * q3.nat := by
    unfold U.val U.top
    simp only
    omega
  have key : ∀ va vb vz q : Nat, vz + vb = va + U.top * q → vz < U.top → q ≤ 1 → (q = 0 → vb ≤ va ∧ va - vb = vz) ∧ (q = 1 → ¬ vb ≤ va) := by
    intro va vb vz q h1 h2 h3
    refine ⟨fun h => ?_, fun h => ?_⟩
    · subst h; rw [Nat.mul_zero] at h1; omega
    · subst h; rw [Nat.mul_one] at h1; omega
  obtain ⟨k0, k1⟩ := key _ _ _ _ hs (U.lt (z0, z1, z2, z3, ())) l3
  by_cases hq : q3.nat = 0
  · obtain ⟨k2, k3⟩ := k0 hq
    rw [if_pos k2, k3, U.of_val]
    simp [hq]; rfl
  · have hq1 : q3.nat = 1 := by omega
    rw [if_neg (k1 hq1)]
    simp [hq1]; rfl

theorem uint256_Cmp_eq (a b : U) : uint256_Cmp ((a, b, ()), ()) = some ((cmpS a b, ()), ()) := by
  obtain ⟨a0, a1, a2, a3, ⟨⟩⟩ := a
  obtain ⟨b0, b1, b2, b3, ⟨⟩⟩ := b
  unfold uint256_Cmp cmpS U.val
  simp only [ltb_nat]
  have n0 := nat_lt a0
  have n1 := nat_lt a1
  have n2 := nat_lt a2
  have n3 := nat_lt a3
  have m0 := nat_lt b0
  have m1 := nat_lt b1
  have m2 := nat_lt b2
  have m3 := nat_lt b3
  by_cases c1 : a3.nat < b3.nat
  · simp only [c1, decide_true, cond_true, brn]; rw [if_pos (by omega)]; rfl
  by_cases c2 : b3.nat < a3.nat
  · simp only [c1, c2, decide_true, decide_false, cond_true, cond_false, brn]; rw [if_neg (by omega), if_pos (by omega)]; rfl
  by_cases c3 : a2.nat < b2.nat
  · simp only [c1, c2, c3, decide_true, decide_false, cond_true, cond_false, brn]; rw [if_pos (by omega)]; rfl
  by_cases c4 : b2.nat < a2.nat
  · simp only [c1, c2, c3, c4, decide_true, decide_false, cond_true, cond_false, brn]; rw [if_neg (by omega), if_pos (by omega)]; rfl
  by_cases c5 : a1.nat < b1.nat
  · simp only [c1, c2, c3, c4, c5, decide_true, decide_false, cond_true, cond_false, brn]; rw [if_pos (by omega)]; rfl
  by_cases c6 : b1.nat < a1.nat
  · simp only [c1, c2, c3, c4, c5, c6, decide_true, decide_false, cond_true, cond_false, brn]; rw [if_neg (by omega), if_pos (by omega)]; rfl
  by_cases c7 : a0.nat < b0.nat
  · simp only [c1, c2, c3, c4, c5, c6, c7, decide_true, decide_false, cond_true, cond_false, brn]; rw [if_pos (by omega)]; rfl
  by_cases c8 : b0.nat < a0.nat
  · simp only [c1, c2, c3, c4, c5, c6, c7, c8, decide_true, decide_false, cond_true, cond_false, brn]; rw [if_neg (by omega), if_pos (by omega)]; rfl
  · simp only [c1, c2, c3, c4, c5, c6, c7, c8, decide_false, cond_false, brn]; rw [if_neg (by omega), if_neg (by omega)]; rfl
end Sym

/- Rounds: more than any run takes, and never counted out. -/
namespace Sym
theorem roundsEx : ∃ k : Nat, k = 2 ^ 64 := ⟨_, rfl⟩
/-- The rounds that a loop may take. -/
noncomputable def K0 : Nat := Classical.choose roundsEx
theorem K0_eq : K0 = 2 ^ 64 := Classical.choose_spec roundsEx
end Sym

/- The given functions as plain functions, as the printer told them. -/
namespace Sym
open Go

/-- pontage/pontageref1.norm -/
noncomputable def pontageref1_norm (x : (⟨[.pl (.sl (.int .i64))], []⟩ : Tm).D) : Option (⟨[.pl (.sl (.int .i64))], []⟩ : Tm).D :=
 let a : List (I .i64) := x.1.1
 iter (none) (fun x0 =>
   brn (@I.ltb .i64 (I.of .i64 0) x0.1.2.1)
    (brn (@inB .i64 (@I.sub .i64 x0.1.2.1 (I.of .i64 1)) (@lenL (I .i64) x0.1.1))
     (brn (@I.eqb .i64 (@rdL (I .i64) (I.of .i64 0) x0.1.1 (@I.nat .i64 (@I.sub .i64 x0.1.2.1 (I.of .i64 1)))) (I.of .i64 0))
      (.again ((x0.1.1, ((@I.sub .i64 x0.1.2.1 (I.of .i64 1)), ())), ()))
      (.done (brn (@inB' .i64 x0.1.2.1 (@lenL (I .i64) x0.1.1))
       (some (((@subL (I .i64) x0.1.1 0 (@I.nat .i64 x0.1.2.1)), ()), ()))
       (none))))
     (.done (none)))
    (.done (brn (@inB' .i64 x0.1.2.1 (@lenL (I .i64) x0.1.1))
     (some (((@subL (I .i64) x0.1.1 0 (@I.nat .i64 x0.1.2.1)), ()), ()))
     (none))))
 K0 ((a, ((I.ofNat .i64 (@lenL (I .i64) a)), ())), ())

/-- pontage/pontageref1.Cmp -/
noncomputable def pontageref1_Cmp (x : (⟨[.pl (.sl (.int .i64)), .pl (.sl (.int .i64))], []⟩ : Tm).D) : Option (⟨[.pl (.int .i64)], []⟩ : Tm).D :=
 let a : List (I .i64) := x.1.1
 let b : List (I .i64) := x.1.2.1
 brn (@I.neb .i64 (I.ofNat .i64 (@lenL (I .i64) a)) (I.ofNat .i64 (@lenL (I .i64) b)))
  (brn (@I.ltb .i64 (I.ofNat .i64 (@lenL (I .i64) a)) (I.ofNat .i64 (@lenL (I .i64) b)))
   (some (((I.of .i64 (-1)), ()), ()))
   (some (((I.of .i64 1), ()), ())))
  (iter (none) (fun x0 =>
    brn (@I.leb .i64 (I.of .i64 0) x0.1.2.2.1)
     (brn (@inB .i64 x0.1.2.2.1 (@lenL (I .i64) x0.1.1))
      (brn (@inB .i64 x0.1.2.2.1 (@lenL (I .i64) x0.1.2.1))
       (brn (@I.ltb .i64 (@rdL (I .i64) (I.of .i64 0) x0.1.1 (@I.nat .i64 x0.1.2.2.1)) (@rdL (I .i64) (I.of .i64 0) x0.1.2.1 (@I.nat .i64 x0.1.2.2.1)))
        (.done (some (((I.of .i64 (-1)), ()), ())))
        (brn (@inB .i64 x0.1.2.2.1 (@lenL (I .i64) x0.1.1))
         (brn (@inB .i64 x0.1.2.2.1 (@lenL (I .i64) x0.1.2.1))
          (brn (@I.ltb .i64 (@rdL (I .i64) (I.of .i64 0) x0.1.2.1 (@I.nat .i64 x0.1.2.2.1)) (@rdL (I .i64) (I.of .i64 0) x0.1.1 (@I.nat .i64 x0.1.2.2.1)))
           (.done (some (((I.of .i64 1), ()), ())))
           (.again ((x0.1.1, (x0.1.2.1, ((@I.sub .i64 x0.1.2.2.1 (I.of .i64 1)), ()))), ())))
          (.done (none)))
         (.done (none))))
       (.done (none)))
      (.done (none)))
     (.done (some (((I.of .i64 0), ()), ()))))
  K0 ((a, (b, ((@I.sub .i64 (I.ofNat .i64 (@lenL (I .i64) a)) (I.of .i64 1)), ()))), ()))

/-- pontage/pontageref1.Sub -/
noncomputable def pontageref1_Sub (x : (⟨[.pl (.sl (.int .i64)), .pl (.sl (.int .i64))], []⟩ : Tm).D) : Option (⟨[.pl (.sl (.int .i64))], []⟩ : Tm).D :=
 let a : List (I .i64) := x.1.1
 let b : List (I .i64) := x.1.2.1
 brn (@inB' .i64 (I.ofNat .i64 (@lenL (I .i64) a)) (@I.nat .i64 (I.ofNat .i64 (@lenL (I .i64) a))))
  (brn (@inB' .i64 (I.ofNat .i64 (@lenL (I .i64) a)) 1073741824)
   (iter (none) (fun x0 =>
     brn (@I.ltb .i64 x0.1.2.2.2.1 (I.ofNat .i64 (@lenL (I .i64) x0.1.1)))
      (brn (@inB .i64 x0.1.2.2.2.1 (@lenL (I .i64) x0.1.1))
       (jn (fun (x1 : (((List (I .i64)) × ((List (I .i64)) × ((I .i64) × ((I .i64) × Unit)))) × ((List (I .i64)) × Unit))) =>
         brn (@I.ltb .i64 x1.1.2.2.2.1 (I.of .i64 0))
          (brn (@inB .i64 x1.1.2.2.1 (@lenL (I .i64) x1.2.1))
           (.again ((x1.1.1, (x1.1.2.1, ((I.of .i64 1), ((@I.add .i64 x1.1.2.2.1 (I.of .i64 1)), ())))), ((@setL (I .i64) x1.2.1 (@I.nat .i64 x1.1.2.2.1) (@I.add .i64 x1.1.2.2.2.1 (I.of .i64 65536))), ())))
           (.done (none)))
          (brn (@inB .i64 x1.1.2.2.1 (@lenL (I .i64) x1.2.1))
           (.again ((x1.1.1, (x1.1.2.1, ((I.of .i64 0), ((@I.add .i64 x1.1.2.2.1 (I.of .i64 1)), ())))), ((@setL (I .i64) x1.2.1 (@I.nat .i64 x1.1.2.2.1) x1.1.2.2.2.1), ())))
           (.done (none)))) fun j1 =>
       brn (@I.ltb .i64 x0.1.2.2.2.1 (I.ofNat .i64 (@lenL (I .i64) x0.1.2.1)))
        (brn (@inB .i64 x0.1.2.2.2.1 (@lenL (I .i64) x0.1.2.1))
         (j1 ((x0.1.1, (x0.1.2.1, (x0.1.2.2.2.1, ((@I.sub .i64 (@I.sub .i64 (@rdL (I .i64) (I.of .i64 0) x0.1.1 (@I.nat .i64 x0.1.2.2.2.1)) x0.1.2.2.1) (@rdL (I .i64) (I.of .i64 0) x0.1.2.1 (@I.nat .i64 x0.1.2.2.2.1))), ())))), (x0.2.1, ())))
         (.done (none)))
        (j1 ((x0.1.1, (x0.1.2.1, (x0.1.2.2.2.1, ((@I.sub .i64 (@rdL (I .i64) (I.of .i64 0) x0.1.1 (@I.nat .i64 x0.1.2.2.2.1)) x0.1.2.2.1), ())))), (x0.2.1, ()))))
       (.done (none)))
      (.done (iter (none) (fun x1 =>
        brn (@I.ltb .i64 (I.of .i64 0) x1.1.1)
         (brn (@inB .i64 (@I.sub .i64 x1.1.1 (I.of .i64 1)) (@lenL (I .i64) x1.2.1))
          (brn (@I.eqb .i64 (@rdL (I .i64) (I.of .i64 0) x1.2.1 (@I.nat .i64 (@I.sub .i64 x1.1.1 (I.of .i64 1)))) (I.of .i64 0))
           (.again (((@I.sub .i64 x1.1.1 (I.of .i64 1)), ()), (x1.2.1, ())))
           (.done (brn (@inB' .i64 x1.1.1 (@lenL (I .i64) x1.2.1))
            (some (((@subL (I .i64) x1.2.1 0 (@I.nat .i64 x1.1.1)), ()), ()))
            (none))))
          (.done (none)))
         (.done (brn (@inB' .i64 x1.1.1 (@lenL (I .i64) x1.2.1))
          (some (((@subL (I .i64) x1.2.1 0 (@I.nat .i64 x1.1.1)), ()), ()))
          (none))))
      K0 (((I.ofNat .i64 (@lenL (I .i64) x0.2.1)), ()), (x0.2.1, ())))))
   K0 ((a, (b, ((I.of .i64 0), ((I.of .i64 0), ())))), ((@repD (I .i64) (@I.nat .i64 (I.ofNat .i64 (@lenL (I .i64) a))) (I.of .i64 0)), ())))
   (none))
  (none)

/-- pontage/pontageref1.short -/
noncomputable def pontageref1_short (x : (⟨[.pl (.sl (.int .i64)), .pl (.int .i64)], []⟩ : Tm).D) : Option (⟨[.pl (.sl (.int .i64)), .pl (.sl (.int .i64))], []⟩ : Tm).D :=
 let a : List (I .i64) := x.1.1
 let b : I .i64 := x.1.2.1
 brn (@inB' .i64 (I.ofNat .i64 (@lenL (I .i64) a)) (@I.nat .i64 (I.ofNat .i64 (@lenL (I .i64) a))))
  (brn (@inB' .i64 (I.ofNat .i64 (@lenL (I .i64) a)) 1073741824)
   (iter (none) (fun x0 =>
     brn (@I.leb .i64 (I.of .i64 0) x0.1.2.2.2.1)
      (brn (@inB .i64 x0.1.2.2.2.1 (@lenL (I .i64) x0.1.1))
       (brn (@I.nz .i64 x0.1.2.1)
        (brn (@I.nz .i64 x0.1.2.1)
         (brn (@inB .i64 x0.1.2.2.2.1 (@lenL (I .i64) x0.2.1))
          (.again ((x0.1.1, (x0.1.2.1, ((@I.rem .i64 (@I.add .i64 (@I.mul .i64 (I.of .i64 65536) x0.1.2.2.1) (@rdL (I .i64) (I.of .i64 0) x0.1.1 (@I.nat .i64 x0.1.2.2.2.1))) x0.1.2.1), ((@I.sub .i64 x0.1.2.2.2.1 (I.of .i64 1)), ())))), ((@setL (I .i64) x0.2.1 (@I.nat .i64 x0.1.2.2.2.1) (@I.quo .i64 (@I.add .i64 (@I.mul .i64 (I.of .i64 65536) x0.1.2.2.1) (@rdL (I .i64) (I.of .i64 0) x0.1.1 (@I.nat .i64 x0.1.2.2.2.1))) x0.1.2.1)), ())))
          (.done (none)))
         (.done (none)))
        (.done (none)))
       (.done (none)))
      (.done (optF (none) (pontageref1_norm ((x0.2.1, ()), ())) fun y1 =>
      optF (none) (pontageref1_norm (((x0.1.2.2.1 :: []), ()), ())) fun y2 =>
      some ((y1.1.1, (y2.1.1, ())), ()))))
   K0 ((a, (b, ((I.of .i64 0), ((@I.sub .i64 (I.ofNat .i64 (@lenL (I .i64) a)) (I.of .i64 1)), ())))), ((@repD (I .i64) (@I.nat .i64 (I.ofNat .i64 (@lenL (I .i64) a))) (I.of .i64 0)), ())))
   (none))
  (none)

/-- pontage/pontageref1.Div -/
noncomputable def pontageref1_Div (x : (⟨[.pl (.sl (.int .i64)), .pl (.sl (.int .i64))], []⟩ : Tm).D) : Option (⟨[.pl (.sl (.int .i64)), .pl (.sl (.int .i64))], []⟩ : Tm).D :=
 let a : List (I .i64) := x.1.1
 let b : List (I .i64) := x.1.2.1
 brn (@I.eqb .i64 (I.ofNat .i64 (@lenL (I .i64) b)) (I.of .i64 1))
  (brn (@inB .i64 (I.of .i64 0) (@lenL (I .i64) b))
   (optF (none) (pontageref1_short ((a, ((@rdL (I .i64) (I.of .i64 0) b 0), ())), ())) fun y0 =>
   some ((y0.1.1, (y0.1.2.1, ())), ()))
   (none))
  (brn (@inB' .i64 (I.ofNat .i64 (@lenL (I .i64) a)) (@I.nat .i64 (I.ofNat .i64 (@lenL (I .i64) a))))
   (brn (@inB' .i64 (I.ofNat .i64 (@lenL (I .i64) a)) 1073741824)
    (brn (@inB' .i64 (@I.add .i64 (I.ofNat .i64 (@lenL (I .i64) b)) (I.of .i64 1)) (@I.nat .i64 (@I.add .i64 (I.ofNat .i64 (@lenL (I .i64) b)) (I.of .i64 1))))
     (brn (@inB' .i64 (@I.add .i64 (I.ofNat .i64 (@lenL (I .i64) b)) (I.of .i64 1)) 1073741824)
      (iter (none) (fun x0 =>
        brn (@I.leb .i64 (I.of .i64 0) x0.1.2.2.1)
         (iter (.done (none)) (fun x1 =>
           brn (@I.leb .i64 (I.of .i64 0) x1.1.2.2.2.1)
            (brn (@inB .i64 x1.1.2.2.1 (@lenL (I .i64) x1.1.1))
             (brn (@I.nn .u64 (I.conv (k := .i64) .u64 x1.1.2.2.2.1))
              (iter (.done (.done (none))) (fun x2 =>
                brn (@I.ltb .i64 x2.1.2.2.2.2.2.1 (I.ofNat .i64 (@lenL (I .i64) x2.2.2.1)))
                 (brn (@inB .i64 x2.1.2.2.2.2.2.1 (@lenL (I .i64) x2.2.2.1))
                  (brn (@inB .i64 x2.1.2.2.2.2.2.1 (@lenL (I .i64) x2.2.2.1))
                   (.again ((x2.1.1, (x2.1.2.1, (x2.1.2.2.1, (x2.1.2.2.2.1, ((@I.shr .i64 .u64 (@I.add .i64 x2.1.2.2.2.2.1 (@I.mul .i64 (I.of .i64 2) (@rdL (I .i64) (I.of .i64 0) x2.2.2.1 (@I.nat .i64 x2.1.2.2.2.2.2.1)))) (I.of .u64 16)), ((@I.add .i64 x2.1.2.2.2.2.2.1 (I.of .i64 1)), ())))))), (x2.2.1, ((@setL (I .i64) x2.2.2.1 (@I.nat .i64 x2.1.2.2.2.2.2.1) (@I.and .i64 (@I.add .i64 x2.1.2.2.2.2.1 (@I.mul .i64 (I.of .i64 2) (@rdL (I .i64) (I.of .i64 0) x2.2.2.1 (@I.nat .i64 x2.1.2.2.2.2.2.1)))) (I.of .i64 65535))), ()))))
                   (.done (.done (.done (none)))))
                  (.done (.done (.done (none)))))
                 (.done (iter (.done (.done (none))) (fun x3 =>
                   brn (@I.ltb .i64 (I.of .i64 0) x3.1.1)
                    (brn (@inB .i64 (@I.sub .i64 x3.1.1 (I.of .i64 1)) (@lenL (I .i64) x3.2.1))
                     (brn (@I.eqb .i64 (@rdL (I .i64) (I.of .i64 0) x3.2.1 (@I.nat .i64 (@I.sub .i64 x3.1.1 (I.of .i64 1)))) (I.of .i64 0))
                      (.again (((@I.sub .i64 x3.1.1 (I.of .i64 1)), (x3.1.2.1, (x3.1.2.2.1, (x3.1.2.2.2.1, (x3.1.2.2.2.2.1, ()))))), (x3.2.1, (x3.2.2.1, ()))))
                      (.done (brn (@inB' .i64 x3.1.1 (@lenL (I .i64) x3.2.1))
                       (optF (.done (.done (none))) (pontageref1_Cmp (((@subL (I .i64) x3.2.1 0 (@I.nat .i64 x3.1.1)), (x3.1.2.2.1, ())), ())) fun y4 =>
                       brn (@I.leb .i64 (I.of .i64 0) y4.1.1)
                        (iter (.done (.done (none))) (fun x5 =>
                          brn (@I.ltb .i64 (I.of .i64 0) x5.1.1)
                           (brn (@inB .i64 (@I.sub .i64 x5.1.1 (I.of .i64 1)) (@lenL (I .i64) x5.2.1))
                            (brn (@I.eqb .i64 (@rdL (I .i64) (I.of .i64 0) x5.2.1 (@I.nat .i64 (@I.sub .i64 x5.1.1 (I.of .i64 1)))) (I.of .i64 0))
                             (.again (((@I.sub .i64 x5.1.1 (I.of .i64 1)), (x5.1.2.1, (x5.1.2.2.1, (x5.1.2.2.2.1, (x5.1.2.2.2.2.1, ()))))), (x5.2.1, (x5.2.2.1, ()))))
                             (.done (brn (@inB' .i64 x5.1.1 (@lenL (I .i64) x5.2.1))
                              (optF (.done (.done (none))) (pontageref1_Sub (((@subL (I .i64) x5.2.1 0 (@I.nat .i64 x5.1.1)), (x5.1.2.2.1, ())), ())) fun y6 =>
                              iter (.done (.done (none))) (fun x7 =>
                                brn (@I.ltb .i64 x7.1.2.2.2.2.2.1 (I.ofNat .i64 (@lenL (I .i64) x7.2.2.1)))
                                 (brn (@inB .i64 x7.1.2.2.2.2.2.1 (@lenL (I .i64) x7.2.2.1))
                                  (brn (@I.ltb .i64 x7.1.2.2.2.2.2.1 (I.ofNat .i64 (@lenL (I .i64) x7.1.2.2.2.2.1)))
                                   (brn (@inB .i64 x7.1.2.2.2.2.2.1 (@lenL (I .i64) x7.1.2.2.2.2.1))
                                    (brn (@inB .i64 x7.1.2.2.2.2.2.1 (@lenL (I .i64) (@setL (I .i64) x7.2.2.1 (@I.nat .i64 x7.1.2.2.2.2.2.1) (I.of .i64 0))))
                                     (.again ((x7.1.1, (x7.1.2.1, (x7.1.2.2.1, (x7.1.2.2.2.1, (x7.1.2.2.2.2.1, ((@I.add .i64 x7.1.2.2.2.2.2.1 (I.of .i64 1)), ())))))), (x7.2.1, ((@setL (I .i64) (@setL (I .i64) x7.2.2.1 (@I.nat .i64 x7.1.2.2.2.2.2.1) (I.of .i64 0)) (@I.nat .i64 x7.1.2.2.2.2.2.1) (@rdL (I .i64) (I.of .i64 0) x7.1.2.2.2.2.1 (@I.nat .i64 x7.1.2.2.2.2.2.1))), ()))))
                                     (.done (.done (.done (none)))))
                                    (.done (.done (.done (none)))))
                                   (.again ((x7.1.1, (x7.1.2.1, (x7.1.2.2.1, (x7.1.2.2.2.1, (x7.1.2.2.2.2.1, ((@I.add .i64 x7.1.2.2.2.2.2.1 (I.of .i64 1)), ())))))), (x7.2.1, ((@setL (I .i64) x7.2.2.1 (@I.nat .i64 x7.1.2.2.2.2.2.1) (I.of .i64 0)), ())))))
                                  (.done (.done (.done (none)))))
                                 (.done (brn (@inB .i64 x7.1.2.2.1 (@lenL (I .i64) x7.2.1))
                                  (brn (@I.nn .u64 (I.conv (k := .i64) .u64 x7.1.2.2.2.1))
                                   (brn (@inB .i64 x7.1.2.2.1 (@lenL (I .i64) x7.2.1))
                                    (.again ((x7.1.1, (x7.1.2.1, (x7.1.2.2.1, ((@I.sub .i64 x7.1.2.2.2.1 (I.of .i64 1)), ())))), ((@setL (I .i64) x7.2.1 (@I.nat .i64 x7.1.2.2.1) (@I.add .i64 (@rdL (I .i64) (I.of .i64 0) x7.2.1 (@I.nat .i64 x7.1.2.2.1)) (@I.shl .i64 .u64 (I.of .i64 1) (I.conv (k := .i64) .u64 x7.1.2.2.2.1)))), (x7.2.2.1, ()))))
                                    (.done (.done (none))))
                                   (.done (.done (none))))
                                  (.done (.done (none))))))
                              K0 ((x5.1.2.1, (x5.1.2.2.1, (x5.1.2.2.2.1, (x5.1.2.2.2.2.1, (y6.1.1, ((I.of .i64 0), ())))))), (x5.2.2.1, (x5.2.1, ()))))
                              (.done (.done (none))))))
                            (.done (.done (.done (none)))))
                           (.done (brn (@inB' .i64 x5.1.1 (@lenL (I .i64) x5.2.1))
                            (optF (.done (.done (none))) (pontageref1_Sub (((@subL (I .i64) x5.2.1 0 (@I.nat .i64 x5.1.1)), (x5.1.2.2.1, ())), ())) fun y6 =>
                            iter (.done (.done (none))) (fun x7 =>
                              brn (@I.ltb .i64 x7.1.2.2.2.2.2.1 (I.ofNat .i64 (@lenL (I .i64) x7.2.2.1)))
                               (brn (@inB .i64 x7.1.2.2.2.2.2.1 (@lenL (I .i64) x7.2.2.1))
                                (brn (@I.ltb .i64 x7.1.2.2.2.2.2.1 (I.ofNat .i64 (@lenL (I .i64) x7.1.2.2.2.2.1)))
                                 (brn (@inB .i64 x7.1.2.2.2.2.2.1 (@lenL (I .i64) x7.1.2.2.2.2.1))
                                  (brn (@inB .i64 x7.1.2.2.2.2.2.1 (@lenL (I .i64) (@setL (I .i64) x7.2.2.1 (@I.nat .i64 x7.1.2.2.2.2.2.1) (I.of .i64 0))))
                                   (.again ((x7.1.1, (x7.1.2.1, (x7.1.2.2.1, (x7.1.2.2.2.1, (x7.1.2.2.2.2.1, ((@I.add .i64 x7.1.2.2.2.2.2.1 (I.of .i64 1)), ())))))), (x7.2.1, ((@setL (I .i64) (@setL (I .i64) x7.2.2.1 (@I.nat .i64 x7.1.2.2.2.2.2.1) (I.of .i64 0)) (@I.nat .i64 x7.1.2.2.2.2.2.1) (@rdL (I .i64) (I.of .i64 0) x7.1.2.2.2.2.1 (@I.nat .i64 x7.1.2.2.2.2.2.1))), ()))))
                                   (.done (.done (.done (none)))))
                                  (.done (.done (.done (none)))))
                                 (.again ((x7.1.1, (x7.1.2.1, (x7.1.2.2.1, (x7.1.2.2.2.1, (x7.1.2.2.2.2.1, ((@I.add .i64 x7.1.2.2.2.2.2.1 (I.of .i64 1)), ())))))), (x7.2.1, ((@setL (I .i64) x7.2.2.1 (@I.nat .i64 x7.1.2.2.2.2.2.1) (I.of .i64 0)), ())))))
                                (.done (.done (.done (none)))))
                               (.done (brn (@inB .i64 x7.1.2.2.1 (@lenL (I .i64) x7.2.1))
                                (brn (@I.nn .u64 (I.conv (k := .i64) .u64 x7.1.2.2.2.1))
                                 (brn (@inB .i64 x7.1.2.2.1 (@lenL (I .i64) x7.2.1))
                                  (.again ((x7.1.1, (x7.1.2.1, (x7.1.2.2.1, ((@I.sub .i64 x7.1.2.2.2.1 (I.of .i64 1)), ())))), ((@setL (I .i64) x7.2.1 (@I.nat .i64 x7.1.2.2.1) (@I.add .i64 (@rdL (I .i64) (I.of .i64 0) x7.2.1 (@I.nat .i64 x7.1.2.2.1)) (@I.shl .i64 .u64 (I.of .i64 1) (I.conv (k := .i64) .u64 x7.1.2.2.2.1)))), (x7.2.2.1, ()))))
                                  (.done (.done (none))))
                                 (.done (.done (none))))
                                (.done (.done (none))))))
                            K0 ((x5.1.2.1, (x5.1.2.2.1, (x5.1.2.2.2.1, (x5.1.2.2.2.2.1, (y6.1.1, ((I.of .i64 0), ())))))), (x5.2.2.1, (x5.2.1, ()))))
                            (.done (.done (none))))))
                        K0 (((I.ofNat .i64 (@lenL (I .i64) x3.2.1)), (x3.1.2.1, (x3.1.2.2.1, (x3.1.2.2.2.1, (x3.1.2.2.2.2.1, ()))))), (x3.2.1, (x3.2.2.1, ()))))
                        (.again ((x3.1.2.1, (x3.1.2.2.1, (x3.1.2.2.2.1, ((@I.sub .i64 x3.1.2.2.2.2.1 (I.of .i64 1)), ())))), (x3.2.2.1, (x3.2.1, ())))))
                       (.done (.done (none))))))
                     (.done (.done (.done (none)))))
                    (.done (brn (@inB' .i64 x3.1.1 (@lenL (I .i64) x3.2.1))
                     (optF (.done (.done (none))) (pontageref1_Cmp (((@subL (I .i64) x3.2.1 0 (@I.nat .i64 x3.1.1)), (x3.1.2.2.1, ())), ())) fun y4 =>
                     brn (@I.leb .i64 (I.of .i64 0) y4.1.1)
                      (iter (.done (.done (none))) (fun x5 =>
                        brn (@I.ltb .i64 (I.of .i64 0) x5.1.1)
                         (brn (@inB .i64 (@I.sub .i64 x5.1.1 (I.of .i64 1)) (@lenL (I .i64) x5.2.1))
                          (brn (@I.eqb .i64 (@rdL (I .i64) (I.of .i64 0) x5.2.1 (@I.nat .i64 (@I.sub .i64 x5.1.1 (I.of .i64 1)))) (I.of .i64 0))
                           (.again (((@I.sub .i64 x5.1.1 (I.of .i64 1)), (x5.1.2.1, (x5.1.2.2.1, (x5.1.2.2.2.1, (x5.1.2.2.2.2.1, ()))))), (x5.2.1, (x5.2.2.1, ()))))
                           (.done (brn (@inB' .i64 x5.1.1 (@lenL (I .i64) x5.2.1))
                            (optF (.done (.done (none))) (pontageref1_Sub (((@subL (I .i64) x5.2.1 0 (@I.nat .i64 x5.1.1)), (x5.1.2.2.1, ())), ())) fun y6 =>
                            iter (.done (.done (none))) (fun x7 =>
                              brn (@I.ltb .i64 x7.1.2.2.2.2.2.1 (I.ofNat .i64 (@lenL (I .i64) x7.2.2.1)))
                               (brn (@inB .i64 x7.1.2.2.2.2.2.1 (@lenL (I .i64) x7.2.2.1))
                                (brn (@I.ltb .i64 x7.1.2.2.2.2.2.1 (I.ofNat .i64 (@lenL (I .i64) x7.1.2.2.2.2.1)))
                                 (brn (@inB .i64 x7.1.2.2.2.2.2.1 (@lenL (I .i64) x7.1.2.2.2.2.1))
                                  (brn (@inB .i64 x7.1.2.2.2.2.2.1 (@lenL (I .i64) (@setL (I .i64) x7.2.2.1 (@I.nat .i64 x7.1.2.2.2.2.2.1) (I.of .i64 0))))
                                   (.again ((x7.1.1, (x7.1.2.1, (x7.1.2.2.1, (x7.1.2.2.2.1, (x7.1.2.2.2.2.1, ((@I.add .i64 x7.1.2.2.2.2.2.1 (I.of .i64 1)), ())))))), (x7.2.1, ((@setL (I .i64) (@setL (I .i64) x7.2.2.1 (@I.nat .i64 x7.1.2.2.2.2.2.1) (I.of .i64 0)) (@I.nat .i64 x7.1.2.2.2.2.2.1) (@rdL (I .i64) (I.of .i64 0) x7.1.2.2.2.2.1 (@I.nat .i64 x7.1.2.2.2.2.2.1))), ()))))
                                   (.done (.done (.done (none)))))
                                  (.done (.done (.done (none)))))
                                 (.again ((x7.1.1, (x7.1.2.1, (x7.1.2.2.1, (x7.1.2.2.2.1, (x7.1.2.2.2.2.1, ((@I.add .i64 x7.1.2.2.2.2.2.1 (I.of .i64 1)), ())))))), (x7.2.1, ((@setL (I .i64) x7.2.2.1 (@I.nat .i64 x7.1.2.2.2.2.2.1) (I.of .i64 0)), ())))))
                                (.done (.done (.done (none)))))
                               (.done (brn (@inB .i64 x7.1.2.2.1 (@lenL (I .i64) x7.2.1))
                                (brn (@I.nn .u64 (I.conv (k := .i64) .u64 x7.1.2.2.2.1))
                                 (brn (@inB .i64 x7.1.2.2.1 (@lenL (I .i64) x7.2.1))
                                  (.again ((x7.1.1, (x7.1.2.1, (x7.1.2.2.1, ((@I.sub .i64 x7.1.2.2.2.1 (I.of .i64 1)), ())))), ((@setL (I .i64) x7.2.1 (@I.nat .i64 x7.1.2.2.1) (@I.add .i64 (@rdL (I .i64) (I.of .i64 0) x7.2.1 (@I.nat .i64 x7.1.2.2.1)) (@I.shl .i64 .u64 (I.of .i64 1) (I.conv (k := .i64) .u64 x7.1.2.2.2.1)))), (x7.2.2.1, ()))))
                                  (.done (.done (none))))
                                 (.done (.done (none))))
                                (.done (.done (none))))))
                            K0 ((x5.1.2.1, (x5.1.2.2.1, (x5.1.2.2.2.1, (x5.1.2.2.2.2.1, (y6.1.1, ((I.of .i64 0), ())))))), (x5.2.2.1, (x5.2.1, ()))))
                            (.done (.done (none))))))
                          (.done (.done (.done (none)))))
                         (.done (brn (@inB' .i64 x5.1.1 (@lenL (I .i64) x5.2.1))
                          (optF (.done (.done (none))) (pontageref1_Sub (((@subL (I .i64) x5.2.1 0 (@I.nat .i64 x5.1.1)), (x5.1.2.2.1, ())), ())) fun y6 =>
                          iter (.done (.done (none))) (fun x7 =>
                            brn (@I.ltb .i64 x7.1.2.2.2.2.2.1 (I.ofNat .i64 (@lenL (I .i64) x7.2.2.1)))
                             (brn (@inB .i64 x7.1.2.2.2.2.2.1 (@lenL (I .i64) x7.2.2.1))
                              (brn (@I.ltb .i64 x7.1.2.2.2.2.2.1 (I.ofNat .i64 (@lenL (I .i64) x7.1.2.2.2.2.1)))
                               (brn (@inB .i64 x7.1.2.2.2.2.2.1 (@lenL (I .i64) x7.1.2.2.2.2.1))
                                (brn (@inB .i64 x7.1.2.2.2.2.2.1 (@lenL (I .i64) (@setL (I .i64) x7.2.2.1 (@I.nat .i64 x7.1.2.2.2.2.2.1) (I.of .i64 0))))
                                 (.again ((x7.1.1, (x7.1.2.1, (x7.1.2.2.1, (x7.1.2.2.2.1, (x7.1.2.2.2.2.1, ((@I.add .i64 x7.1.2.2.2.2.2.1 (I.of .i64 1)), ())))))), (x7.2.1, ((@setL (I .i64) (@setL (I .i64) x7.2.2.1 (@I.nat .i64 x7.1.2.2.2.2.2.1) (I.of .i64 0)) (@I.nat .i64 x7.1.2.2.2.2.2.1) (@rdL (I .i64) (I.of .i64 0) x7.1.2.2.2.2.1 (@I.nat .i64 x7.1.2.2.2.2.2.1))), ()))))
                                 (.done (.done (.done (none)))))
                                (.done (.done (.done (none)))))
                               (.again ((x7.1.1, (x7.1.2.1, (x7.1.2.2.1, (x7.1.2.2.2.1, (x7.1.2.2.2.2.1, ((@I.add .i64 x7.1.2.2.2.2.2.1 (I.of .i64 1)), ())))))), (x7.2.1, ((@setL (I .i64) x7.2.2.1 (@I.nat .i64 x7.1.2.2.2.2.2.1) (I.of .i64 0)), ())))))
                              (.done (.done (.done (none)))))
                             (.done (brn (@inB .i64 x7.1.2.2.1 (@lenL (I .i64) x7.2.1))
                              (brn (@I.nn .u64 (I.conv (k := .i64) .u64 x7.1.2.2.2.1))
                               (brn (@inB .i64 x7.1.2.2.1 (@lenL (I .i64) x7.2.1))
                                (.again ((x7.1.1, (x7.1.2.1, (x7.1.2.2.1, ((@I.sub .i64 x7.1.2.2.2.1 (I.of .i64 1)), ())))), ((@setL (I .i64) x7.2.1 (@I.nat .i64 x7.1.2.2.1) (@I.add .i64 (@rdL (I .i64) (I.of .i64 0) x7.2.1 (@I.nat .i64 x7.1.2.2.1)) (@I.shl .i64 .u64 (I.of .i64 1) (I.conv (k := .i64) .u64 x7.1.2.2.2.1)))), (x7.2.2.1, ()))))
                                (.done (.done (none))))
                               (.done (.done (none))))
                              (.done (.done (none))))))
                          K0 ((x5.1.2.1, (x5.1.2.2.1, (x5.1.2.2.2.1, (x5.1.2.2.2.2.1, (y6.1.1, ((I.of .i64 0), ())))))), (x5.2.2.1, (x5.2.1, ()))))
                          (.done (.done (none))))))
                      K0 (((I.ofNat .i64 (@lenL (I .i64) x3.2.1)), (x3.1.2.1, (x3.1.2.2.1, (x3.1.2.2.2.1, (x3.1.2.2.2.2.1, ()))))), (x3.2.1, (x3.2.2.1, ()))))
                      (.again ((x3.1.2.1, (x3.1.2.2.1, (x3.1.2.2.2.1, ((@I.sub .i64 x3.1.2.2.2.2.1 (I.of .i64 1)), ())))), (x3.2.2.1, (x3.2.1, ())))))
                     (.done (.done (none))))))
                 K0 (((I.ofNat .i64 (@lenL (I .i64) x2.2.2.1)), (x2.1.1, (x2.1.2.1, (x2.1.2.2.1, (x2.1.2.2.2.1, ()))))), (x2.2.2.1, (x2.2.1, ()))))))
              K0 ((x1.1.1, (x1.1.2.1, (x1.1.2.2.1, (x1.1.2.2.2.1, ((@I.and .i64 (@I.shr .i64 .u64 (@rdL (I .i64) (I.of .i64 0) x1.1.1 (@I.nat .i64 x1.1.2.2.1)) (I.conv (k := .i64) .u64 x1.1.2.2.2.1)) (I.of .i64 1)), ((I.of .i64 0), ())))))), (x1.2.1, (x1.2.2.1, ()))))
              (.done (.done (none))))
             (.done (.done (none))))
            (.done (.again ((x1.1.1, (x1.1.2.1, ((@I.sub .i64 x1.1.2.2.1 (I.of .i64 1)), ()))), (x1.2.1, (x1.2.2.1, ()))))))
         K0 ((x0.1.1, (x0.1.2.1, (x0.1.2.2.1, ((I.of .i64 15), ())))), (x0.2.1, (x0.2.2.1, ()))))
         (.done (iter (none) (fun x1 =>
           brn (@I.ltb .i64 (I.of .i64 0) x1.1.1)
            (brn (@inB .i64 (@I.sub .i64 x1.1.1 (I.of .i64 1)) (@lenL (I .i64) x1.2.1))
             (brn (@I.eqb .i64 (@rdL (I .i64) (I.of .i64 0) x1.2.1 (@I.nat .i64 (@I.sub .i64 x1.1.1 (I.of .i64 1)))) (I.of .i64 0))
              (.again (((@I.sub .i64 x1.1.1 (I.of .i64 1)), ()), (x1.2.1, (x1.2.2.1, ()))))
              (.done (brn (@inB' .i64 x1.1.1 (@lenL (I .i64) x1.2.1))
               (iter (none) (fun x2 =>
                 brn (@I.ltb .i64 (I.of .i64 0) x2.1.1)
                  (brn (@inB .i64 (@I.sub .i64 x2.1.1 (I.of .i64 1)) (@lenL (I .i64) x2.2.1))
                   (brn (@I.eqb .i64 (@rdL (I .i64) (I.of .i64 0) x2.2.1 (@I.nat .i64 (@I.sub .i64 x2.1.1 (I.of .i64 1)))) (I.of .i64 0))
                    (.again (((@I.sub .i64 x2.1.1 (I.of .i64 1)), (x2.1.2.1, ())), (x2.2.1, ())))
                    (.done (brn (@inB' .i64 x2.1.1 (@lenL (I .i64) x2.2.1))
                     (some ((x2.1.2.1, ((@subL (I .i64) x2.2.1 0 (@I.nat .i64 x2.1.1)), ())), ()))
                     (none))))
                   (.done (none)))
                  (.done (brn (@inB' .i64 x2.1.1 (@lenL (I .i64) x2.2.1))
                   (some ((x2.1.2.1, ((@subL (I .i64) x2.2.1 0 (@I.nat .i64 x2.1.1)), ())), ()))
                   (none))))
               K0 (((I.ofNat .i64 (@lenL (I .i64) x1.2.2.1)), ((@subL (I .i64) x1.2.1 0 (@I.nat .i64 x1.1.1)), ())), (x1.2.2.1, ())))
               (none))))
             (.done (none)))
            (.done (brn (@inB' .i64 x1.1.1 (@lenL (I .i64) x1.2.1))
             (iter (none) (fun x2 =>
               brn (@I.ltb .i64 (I.of .i64 0) x2.1.1)
                (brn (@inB .i64 (@I.sub .i64 x2.1.1 (I.of .i64 1)) (@lenL (I .i64) x2.2.1))
                 (brn (@I.eqb .i64 (@rdL (I .i64) (I.of .i64 0) x2.2.1 (@I.nat .i64 (@I.sub .i64 x2.1.1 (I.of .i64 1)))) (I.of .i64 0))
                  (.again (((@I.sub .i64 x2.1.1 (I.of .i64 1)), (x2.1.2.1, ())), (x2.2.1, ())))
                  (.done (brn (@inB' .i64 x2.1.1 (@lenL (I .i64) x2.2.1))
                   (some ((x2.1.2.1, ((@subL (I .i64) x2.2.1 0 (@I.nat .i64 x2.1.1)), ())), ()))
                   (none))))
                 (.done (none)))
                (.done (brn (@inB' .i64 x2.1.1 (@lenL (I .i64) x2.2.1))
                 (some ((x2.1.2.1, ((@subL (I .i64) x2.2.1 0 (@I.nat .i64 x2.1.1)), ())), ()))
                 (none))))
             K0 (((I.ofNat .i64 (@lenL (I .i64) x1.2.2.1)), ((@subL (I .i64) x1.2.1 0 (@I.nat .i64 x1.1.1)), ())), (x1.2.2.1, ())))
             (none))))
         K0 (((I.ofNat .i64 (@lenL (I .i64) x0.2.1)), ()), (x0.2.1, (x0.2.2.1, ()))))))
      K0 ((a, (b, ((@I.sub .i64 (I.ofNat .i64 (@lenL (I .i64) a)) (I.of .i64 1)), ()))), ((@repD (I .i64) (@I.nat .i64 (I.ofNat .i64 (@lenL (I .i64) a))) (I.of .i64 0)), ((@repD (I .i64) (@I.nat .i64 (@I.add .i64 (I.ofNat .i64 (@lenL (I .i64) b)) (I.of .i64 1))) (I.of .i64 0)), ()))))
      (none))
     (none))
    (none))
   (none))

/-- pontage/pontageref1.Add -/
noncomputable def pontageref1_Add (x : (⟨[.pl (.sl (.int .i64)), .pl (.sl (.int .i64))], []⟩ : Tm).D) : Option (⟨[.pl (.sl (.int .i64))], []⟩ : Tm).D :=
 let a : List (I .i64) := x.1.1
 let b : List (I .i64) := x.1.2.1
 iter (none) (fun x0 =>
   jn (fun (x1 : (((List (I .i64)) × ((List (I .i64)) × ((I .i64) × ((I .i64) × Unit)))) × ((List (I .i64)) × Unit))) =>
     jn (fun (x2 : (((List (I .i64)) × ((List (I .i64)) × ((I .i64) × ((I .i64) × Unit)))) × ((List (I .i64)) × Unit))) =>
       brn (@I.ltb .i64 x2.1.2.2.2.1 (I.ofNat .i64 (@lenL (I .i64) x2.1.2.1)))
        (brn (@inB .i64 x2.1.2.2.2.1 (@lenL (I .i64) x2.1.2.1))
         (brn (fitsLen (@lenL (I .i64) (@appL (I .i64) x2.2.1 ((@I.and .i64 (@I.add .i64 x2.1.2.2.1 (@rdL (I .i64) (I.of .i64 0) x2.1.2.1 (@I.nat .i64 x2.1.2.2.2.1))) (I.of .i64 65535)) :: []))))
          (.again ((x2.1.1, (x2.1.2.1, ((@I.shr .i64 .u64 (@I.add .i64 x2.1.2.2.1 (@rdL (I .i64) (I.of .i64 0) x2.1.2.1 (@I.nat .i64 x2.1.2.2.2.1))) (I.of .u64 16)), ((@I.add .i64 x2.1.2.2.2.1 (I.of .i64 1)), ())))), ((@appL (I .i64) x2.2.1 ((@I.and .i64 (@I.add .i64 x2.1.2.2.1 (@rdL (I .i64) (I.of .i64 0) x2.1.2.1 (@I.nat .i64 x2.1.2.2.2.1))) (I.of .i64 65535)) :: [])), ())))
          (.done (none)))
         (.done (none)))
        (brn (fitsLen (@lenL (I .i64) (@appL (I .i64) x2.2.1 ((@I.and .i64 x2.1.2.2.1 (I.of .i64 65535)) :: []))))
         (.again ((x2.1.1, (x2.1.2.1, ((@I.shr .i64 .u64 x2.1.2.2.1 (I.of .u64 16)), ((@I.add .i64 x2.1.2.2.2.1 (I.of .i64 1)), ())))), ((@appL (I .i64) x2.2.1 ((@I.and .i64 x2.1.2.2.1 (I.of .i64 65535)) :: [])), ())))
         (.done (none)))) fun j2 =>
     brn (@I.ltb .i64 x1.1.2.2.2.1 (I.ofNat .i64 (@lenL (I .i64) x1.1.1)))
      (brn (@inB .i64 x1.1.2.2.2.1 (@lenL (I .i64) x1.1.1))
       (j2 ((x1.1.1, (x1.1.2.1, ((@I.add .i64 x1.1.2.2.1 (@rdL (I .i64) (I.of .i64 0) x1.1.1 (@I.nat .i64 x1.1.2.2.2.1))), (x1.1.2.2.2.1, ())))), (x1.2.1, ())))
       (.done (none)))
      (j2 ((x1.1.1, (x1.1.2.1, (x1.1.2.2.1, (x1.1.2.2.2.1, ())))), (x1.2.1, ())))) fun j1 =>
   brn (@I.ltb .i64 x0.1.2.2.2.1 (I.ofNat .i64 (@lenL (I .i64) x0.1.1)))
    (j1 ((x0.1.1, (x0.1.2.1, (x0.1.2.2.1, (x0.1.2.2.2.1, ())))), (x0.2.1, ())))
    (brn (@I.ltb .i64 x0.1.2.2.2.1 (I.ofNat .i64 (@lenL (I .i64) x0.1.2.1)))
     (j1 ((x0.1.1, (x0.1.2.1, (x0.1.2.2.1, (x0.1.2.2.2.1, ())))), (x0.2.1, ())))
     (brn (@I.ltb .i64 (I.of .i64 0) x0.1.2.2.1)
      (j1 ((x0.1.1, (x0.1.2.1, (x0.1.2.2.1, (x0.1.2.2.2.1, ())))), (x0.2.1, ())))
      (.done (some ((x0.2.1, ()), ()))))))
 K0 ((a, (b, ((I.of .i64 0), ((I.of .i64 0), ())))), ([], ()))

/-- pontage/pontageref1.FromUint256 -/
noncomputable def pontageref1_FromUint256 (x : (⟨[.pl (.arr 4 (.int .u64))], []⟩ : Tm).D) : Option (⟨[.pl (.sl (.int .i64))], []⟩ : Tm).D :=
 let a : (I .u64) × (I .u64) × (I .u64) × (I .u64) × Unit := x.1.1
 iter (none) (fun x0 =>
   brn (@I.ltb .i64 x0.1.1 (I.of .i64 16))
    (brn (@inB .i64 (@I.quo .i64 x0.1.1 (I.of .i64 4)) 4)
     (brn (@I.nn .u64 (I.conv (k := .i64) .u64 (@I.mul .i64 (I.of .i64 16) (@I.rem .i64 x0.1.1 (I.of .i64 4)))))
      (brn (@inB .i64 x0.1.1 (@lenL (I .i64) x0.2.2.1))
       (.again (((@I.add .i64 x0.1.1 (I.of .i64 1)), ()), (x0.2.1, ((@setL (I .i64) x0.2.2.1 (@I.nat .i64 x0.1.1) (I.conv (k := .u64) .i64 (@I.and .u64 (@I.shr .u64 .u64 (@Arr.sel (I .u64) (I.of .u64 0) 4 x0.2.1 (@I.nat .i64 (@I.quo .i64 x0.1.1 (I.of .i64 4)))) (I.conv (k := .i64) .u64 (@I.mul .i64 (I.of .i64 16) (@I.rem .i64 x0.1.1 (I.of .i64 4))))) (I.of .u64 65535)))), ()))))
       (.done (none)))
      (.done (none)))
     (.done (none)))
    (.done (optF (none) (pontageref1_norm ((x0.2.2.1, ()), ())) fun y1 =>
    some ((y1.1.1, ()), ()))))
 K0 (((I.of .i64 0), ()), (a, ((@repD (I .i64) 16 (I.of .i64 0)), ())))

/-- pontage/pontageref1.FromUint64 -/
noncomputable def pontageref1_FromUint64 (x : (⟨[.pl (.int .u64)], []⟩ : Tm).D) : Option (⟨[.pl (.sl (.int .i64))], []⟩ : Tm).D :=
 let a : I .u64 := x.1.1
 optF (none) (pontageref1_FromUint256 (((a, ((I.of .u64 0), ((I.of .u64 0), ((I.of .u64 0), ())))), ()), ())) fun y0 =>
 some ((y0.1.1, ()), ())

/-- pontage/pontageref1.Fits -/
noncomputable def pontageref1_Fits (x : (⟨[.pl (.sl (.int .i64))], []⟩ : Tm).D) : Option (⟨[.pl .bool], []⟩ : Tm).D :=
 let a : List (I .i64) := x.1.1
 some (((@I.leb .i64 (I.ofNat .i64 (@lenL (I .i64) a)) (I.of .i64 16)), ()), ())

/-- pontage/pontageref1.ToUint256 -/
noncomputable def pontageref1_ToUint256 (x : (⟨[.pl (.sl (.int .i64))], []⟩ : Tm).D) : Option (⟨[.pl (.arr 4 (.int .u64))], []⟩ : Tm).D :=
 let a : List (I .i64) := x.1.1
 iter (none) (fun x0 =>
   jn (fun (x1 : (((List (I .i64)) × ((I .i64) × ((I .i64) × (Bool × Unit)))) × (((I .u64) × ((I .u64) × ((I .u64) × ((I .u64) × Unit)))) × (((I .u64) × ((I .u64) × ((I .u64) × ((I .u64) × Unit)))) × Unit)))) =>
     brn (@inB .i64 (@I.quo .i64 x1.1.2.1 (I.of .i64 4)) 4)
      (brn (@inB .i64 x1.1.2.1 (@lenL (I .i64) x1.1.1))
       (brn (@I.nn .u64 (I.conv (k := .i64) .u64 (@I.mul .i64 (I.of .i64 16) (@I.rem .i64 x1.1.2.1 (I.of .i64 4)))))
        (brn (@inB .i64 (@I.quo .i64 x1.1.2.1 (I.of .i64 4)) 4)
         (.again ((x1.1.1, ((@I.add .i64 x1.1.2.1 (I.of .i64 1)), ())), (x1.2.1, ((@Arr.upd (I .u64) 4 x1.2.2.1 (@I.nat .i64 (@I.quo .i64 x1.1.2.1 (I.of .i64 4))) (@I.add .u64 (@Arr.sel (I .u64) (I.of .u64 0) 4 x1.2.2.1 (@I.nat .i64 (@I.quo .i64 x1.1.2.1 (I.of .i64 4)))) (@I.shl .u64 .u64 (I.conv (k := .i64) .u64 (@rdL (I .i64) (I.of .i64 0) x1.1.1 (@I.nat .i64 x1.1.2.1))) (I.conv (k := .i64) .u64 (@I.mul .i64 (I.of .i64 16) (@I.rem .i64 x1.1.2.1 (I.of .i64 4))))))), ()))))
         (.done (none)))
        (.done (none)))
       (.done (none)))
      (.done (none))) fun j1 =>
   brn (@I.ltb .i64 x0.1.2.1 (I.ofNat .i64 (@lenL (I .i64) x0.1.1)))
    (brn (@I.ltb .i64 x0.1.2.1 (I.of .i64 16))
     (j1 ((x0.1.1, (x0.1.2.1, (x0.1.2.1, ((@I.ltb .i64 x0.1.2.1 (I.of .i64 16)), ())))), (x0.2.1, (x0.2.2.1, ()))))
     (.done (some ((x0.2.2.1, ()), ()))))
    (.done (some ((x0.2.2.1, ()), ()))))
 K0 ((a, ((I.of .i64 0), ())), (((I.of .u64 0), ((I.of .u64 0), ((I.of .u64 0), ((I.of .u64 0), ())))), (((I.of .u64 0), ((I.of .u64 0), ((I.of .u64 0), ((I.of .u64 0), ())))), ())))

/-- pontage/pontageref1.Mul -/
noncomputable def pontageref1_Mul (x : (⟨[.pl (.sl (.int .i64)), .pl (.sl (.int .i64))], []⟩ : Tm).D) : Option (⟨[.pl (.sl (.int .i64))], []⟩ : Tm).D :=
 let a : List (I .i64) := x.1.1
 let b : List (I .i64) := x.1.2.1
 brn (@inB' .i64 (@I.add .i64 (I.ofNat .i64 (@lenL (I .i64) a)) (I.ofNat .i64 (@lenL (I .i64) b))) (@I.nat .i64 (@I.add .i64 (I.ofNat .i64 (@lenL (I .i64) a)) (I.ofNat .i64 (@lenL (I .i64) b)))))
  (brn (@inB' .i64 (@I.add .i64 (I.ofNat .i64 (@lenL (I .i64) a)) (I.ofNat .i64 (@lenL (I .i64) b))) 1073741824)
   (iter (none) (fun x0 =>
     brn (@I.ltb .i64 x0.1.2.2.1 (I.ofNat .i64 (@lenL (I .i64) x0.1.1)))
      (iter (.done (none)) (fun x1 =>
        brn (@I.ltb .i64 x1.1.2.2.2.2.1 (I.ofNat .i64 (@lenL (I .i64) x1.1.2.1)))
         (brn (@inB .i64 (@I.add .i64 x1.1.2.2.1 x1.1.2.2.2.2.1) (@lenL (I .i64) x1.2.1))
          (brn (@inB .i64 x1.1.2.2.1 (@lenL (I .i64) x1.1.1))
           (brn (@inB .i64 x1.1.2.2.2.2.1 (@lenL (I .i64) x1.1.2.1))
            (brn (@inB .i64 (@I.add .i64 x1.1.2.2.1 x1.1.2.2.2.2.1) (@lenL (I .i64) x1.2.1))
             (.again ((x1.1.1, (x1.1.2.1, (x1.1.2.2.1, ((@I.shr .i64 .u64 (@I.add .i64 (@I.add .i64 x1.1.2.2.2.1 (@rdL (I .i64) (I.of .i64 0) x1.2.1 (@I.nat .i64 (@I.add .i64 x1.1.2.2.1 x1.1.2.2.2.2.1)))) (@I.mul .i64 (@rdL (I .i64) (I.of .i64 0) x1.1.1 (@I.nat .i64 x1.1.2.2.1)) (@rdL (I .i64) (I.of .i64 0) x1.1.2.1 (@I.nat .i64 x1.1.2.2.2.2.1)))) (I.of .u64 16)), ((@I.add .i64 x1.1.2.2.2.2.1 (I.of .i64 1)), ()))))), ((@setL (I .i64) x1.2.1 (@I.nat .i64 (@I.add .i64 x1.1.2.2.1 x1.1.2.2.2.2.1)) (@I.and .i64 (@I.add .i64 (@I.add .i64 x1.1.2.2.2.1 (@rdL (I .i64) (I.of .i64 0) x1.2.1 (@I.nat .i64 (@I.add .i64 x1.1.2.2.1 x1.1.2.2.2.2.1)))) (@I.mul .i64 (@rdL (I .i64) (I.of .i64 0) x1.1.1 (@I.nat .i64 x1.1.2.2.1)) (@rdL (I .i64) (I.of .i64 0) x1.1.2.1 (@I.nat .i64 x1.1.2.2.2.2.1)))) (I.of .i64 65535))), ())))
             (.done (.done (none))))
            (.done (.done (none))))
           (.done (.done (none))))
          (.done (.done (none))))
         (.done (brn (@inB .i64 (@I.add .i64 x1.1.2.2.1 (I.ofNat .i64 (@lenL (I .i64) x1.1.2.1))) (@lenL (I .i64) x1.2.1))
          (.again ((x1.1.1, (x1.1.2.1, ((@I.add .i64 x1.1.2.2.1 (I.of .i64 1)), ()))), ((@setL (I .i64) x1.2.1 (@I.nat .i64 (@I.add .i64 x1.1.2.2.1 (I.ofNat .i64 (@lenL (I .i64) x1.1.2.1)))) x1.1.2.2.2.1), ())))
          (.done (none)))))
      K0 ((x0.1.1, (x0.1.2.1, (x0.1.2.2.1, ((I.of .i64 0), ((I.of .i64 0), ()))))), (x0.2.1, ())))
      (.done (optF (none) (pontageref1_norm ((x0.2.1, ()), ())) fun y1 =>
      some ((y1.1.1, ()), ()))))
   K0 ((a, (b, ((I.of .i64 0), ()))), ((@repD (I .i64) (@I.nat .i64 (@I.add .i64 (I.ofNat .i64 (@lenL (I .i64) a)) (I.ofNat .i64 (@lenL (I .i64) b)))) (I.of .i64 0)), ())))
   (none))
  (none)

/-- pontage/pontageref1.Checked -/
noncomputable def pontageref1_Checked (x : (⟨[.pl (.sl (.int .i64))], []⟩ : Tm).D) : Option (⟨[.pl (.arr 4 (.int .u64)), .pl (.int .i64)], []⟩ : Tm).D :=
 let a : List (I .i64) := x.1.1
 optF (none) (pontageref1_Fits ((a, ()), ())) fun y0 =>
 brn (bnot y0.1.1)
  (some ((((I.of .u64 0), ((I.of .u64 0), ((I.of .u64 0), ((I.of .u64 0), ())))), ((I.of .i64 4), ())), ()))
  (optF (none) (pontageref1_ToUint256 ((a, ()), ())) fun y1 =>
  some ((y1.1.1, ((I.of .i64 0), ())), ()))

/-- pontage/pontageref1.IsZero -/
noncomputable def pontageref1_IsZero (x : (⟨[.pl (.arr 4 (.int .u64))], []⟩ : Tm).D) : Option (⟨[.pl .bool], []⟩ : Tm).D :=
 let a : (I .u64) × (I .u64) × (I .u64) × (I .u64) × Unit := x.1.1
 some (((Ty.eqb (.arr 4 (.int .u64)) a ((I.of .u64 0), ((I.of .u64 0), ((I.of .u64 0), ((I.of .u64 0), ()))))), ()), ())

end Sym

/- The given functions as plain functions, as the printer told them. -/
namespace Sym
open Go

/-- pontage/muldiv.shiftLeft -/
noncomputable def muldiv_shiftLeft (x : (⟨[.pl (.arr 4 (.int .u64)), .pl (.int .u64)], []⟩ : Tm).D) : Option (⟨[.pl (.arr 4 (.int .u64)), .pl (.int .u64)], []⟩ : Tm).D :=
 let a : (I .u64) × (I .u64) × (I .u64) × (I .u64) × Unit := x.1.1
 let b : I .u64 := x.1.2.1
 iter (none) (fun x0 =>
   brn (@I.ltb .i64 (I.of .i64 0) x0.1.2.2.1)
    (brn (@inB .i64 x0.1.2.2.1 4)
     (brn (@inB .i64 (@I.sub .i64 x0.1.2.2.1 (I.of .i64 1)) 4)
      (brn (@inB .i64 x0.1.2.2.1 4)
       (.again ((x0.1.1, (x0.1.2.1, ((@I.sub .i64 x0.1.2.2.1 (I.of .i64 1)), ()))), ((@Arr.upd (I .u64) 4 x0.2.1 (@I.nat .i64 x0.1.2.2.1) (@I.or .u64 (@I.shl .u64 .u64 (@Arr.sel (I .u64) (I.of .u64 0) 4 x0.2.1 (@I.nat .i64 x0.1.2.2.1)) (I.of .u64 1)) (@I.shr .u64 .u64 (@Arr.sel (I .u64) (I.of .u64 0) 4 x0.2.1 (@I.nat .i64 (@I.sub .i64 x0.1.2.2.1 (I.of .i64 1)))) (I.of .u64 63)))), (x0.2.2.1, ()))))
       (.done (none)))
      (.done (none)))
     (.done (none)))
    (.done (some ((((@I.or .u64 (@I.shl .u64 .u64 x0.2.1.1 (I.of .u64 1)) x0.1.1), (x0.2.1.2.1, (x0.2.1.2.2.1, (x0.2.1.2.2.2.1, ())))), (x0.1.2.1, ())), ()))))
 K0 ((b, ((@I.shr .u64 .u64 a.2.2.2.1 (I.of .u64 63)), ((I.of .i64 3), ()))), (a, (((I.of .u64 0), ((I.of .u64 0), ((I.of .u64 0), ((I.of .u64 0), ())))), ())))

/-- pontage/muldiv.subWrap -/
noncomputable def muldiv_subWrap (x : (⟨[.pl (.arr 4 (.int .u64)), .pl (.arr 4 (.int .u64))], []⟩ : Tm).D) : Option (⟨[.pl (.arr 4 (.int .u64))], []⟩ : Tm).D :=
 let a : (I .u64) × (I .u64) × (I .u64) × (I .u64) × Unit := x.1.1
 let b : (I .u64) × (I .u64) × (I .u64) × (I .u64) × Unit := x.1.2.1
 iter (none) (fun x0 =>
   brn (@I.ltb .i64 x0.1.2.1 (I.of .i64 4))
    (brn (@inB .i64 x0.1.2.1 4)
     (brn (@inB .i64 x0.1.2.1 4)
      (optF (.done (none)) (sub64F (((@Arr.sel (I .u64) (I.of .u64 0) 4 x0.2.1 (@I.nat .i64 x0.1.2.1)), ((@Arr.sel (I .u64) (I.of .u64 0) 4 x0.2.2.1 (@I.nat .i64 x0.1.2.1)), (x0.1.1, ()))), ())) fun y1 =>
      brn (@inB .i64 x0.1.2.1 4)
       (.again ((y1.1.2.1, ((@I.add .i64 x0.1.2.1 (I.of .i64 1)), ())), ((@Arr.upd (I .u64) 4 x0.2.1 (@I.nat .i64 x0.1.2.1) y1.1.1), (x0.2.2.1, (x0.2.2.2.1, ())))))
       (.done (none)))
      (.done (none)))
     (.done (none)))
    (.done (some ((x0.2.1, ()), ()))))
 K0 (((I.of .u64 0), ((I.of .i64 0), ())), (a, (b, (((I.of .u64 0), ((I.of .u64 0), ((I.of .u64 0), ((I.of .u64 0), ())))), ()))))

/-- pontage/muldiv.Div512 -/
noncomputable def muldiv_Div512 (x : (⟨[.pl (.arr 4 (.int .u64)), .pl (.arr 4 (.int .u64)), .pl (.arr 4 (.int .u64))], []⟩ : Tm).D) : Option (⟨[.pl (.arr 4 (.int .u64)), .pl (.arr 4 (.int .u64)), .pl (.int .i64)], []⟩ : Tm).D :=
 let a : (I .u64) × (I .u64) × (I .u64) × (I .u64) × Unit := x.1.1
 let b : (I .u64) × (I .u64) × (I .u64) × (I .u64) × Unit := x.1.2.1
 let c : (I .u64) × (I .u64) × (I .u64) × (I .u64) × Unit := x.1.2.2.1
 brn (Ty.eqb (.arr 4 (.int .u64)) c ((I.of .u64 0), ((I.of .u64 0), ((I.of .u64 0), ((I.of .u64 0), ())))))
  (some ((((I.of .u64 0), ((I.of .u64 0), ((I.of .u64 0), ((I.of .u64 0), ())))), (((I.of .u64 0), ((I.of .u64 0), ((I.of .u64 0), ((I.of .u64 0), ())))), ((I.of .i64 5), ()))), ()))
  (optF (none) (uint256_Cmp ((b, (c, ())), ())) fun y0 =>
  brn (@I.leb .i64 (I.of .i64 0) y0.1.1)
   (some ((((I.of .u64 0), ((I.of .u64 0), ((I.of .u64 0), ((I.of .u64 0), ())))), (((I.of .u64 0), ((I.of .u64 0), ((I.of .u64 0), ((I.of .u64 0), ())))), ((I.of .i64 4), ()))), ()))
   (iter (none) (fun x1 =>
     brn (@I.leb .i64 (I.of .i64 0) x1.1.1)
      (brn (@inB .i64 (@I.quo .i64 x1.1.1 (I.of .i64 64)) 4)
       (brn (@I.nn .i64 (@I.rem .i64 x1.1.1 (I.of .i64 64)))
        (optF (.done (none)) (muldiv_shiftLeft ((x1.2.2.2.2.1, ((@I.and .u64 (@I.shr .u64 .i64 (@Arr.sel (I .u64) (I.of .u64 0) 4 x1.2.1 (@I.nat .i64 (@I.quo .i64 x1.1.1 (I.of .i64 64)))) (@I.rem .i64 x1.1.1 (I.of .i64 64))) (I.of .u64 1)), ())), ())) fun y2 =>
        brn (@I.eqb .u64 y2.1.2.1 (I.of .u64 1))
         (optF (.done (none)) (muldiv_subWrap ((y2.1.1, (x1.2.2.1, ())), ())) fun y3 =>
         brn (@inB .i64 (@I.quo .i64 x1.1.1 (I.of .i64 64)) 4)
          (brn (@I.nn .i64 (@I.rem .i64 x1.1.1 (I.of .i64 64)))
           (brn (@inB .i64 (@I.quo .i64 x1.1.1 (I.of .i64 64)) 4)
            (.again (((@I.sub .i64 x1.1.1 (I.of .i64 1)), ()), (x1.2.1, (x1.2.2.1, ((@Arr.upd (I .u64) 4 x1.2.2.2.1 (@I.nat .i64 (@I.quo .i64 x1.1.1 (I.of .i64 64))) (@I.or .u64 (@Arr.sel (I .u64) (I.of .u64 0) 4 x1.2.2.2.1 (@I.nat .i64 (@I.quo .i64 x1.1.1 (I.of .i64 64)))) (@I.shl .u64 .i64 (I.of .u64 1) (@I.rem .i64 x1.1.1 (I.of .i64 64))))), (y3.1.1, ()))))))
            (.done (none)))
           (.done (none)))
          (.done (none)))
         (optF (.done (none)) (uint256_Cmp ((y2.1.1, (x1.2.2.1, ())), ())) fun y3 =>
         brn (@I.leb .i64 (I.of .i64 0) y3.1.1)
          (optF (.done (none)) (muldiv_subWrap ((y2.1.1, (x1.2.2.1, ())), ())) fun y4 =>
          brn (@inB .i64 (@I.quo .i64 x1.1.1 (I.of .i64 64)) 4)
           (brn (@I.nn .i64 (@I.rem .i64 x1.1.1 (I.of .i64 64)))
            (brn (@inB .i64 (@I.quo .i64 x1.1.1 (I.of .i64 64)) 4)
             (.again (((@I.sub .i64 x1.1.1 (I.of .i64 1)), ()), (x1.2.1, (x1.2.2.1, ((@Arr.upd (I .u64) 4 x1.2.2.2.1 (@I.nat .i64 (@I.quo .i64 x1.1.1 (I.of .i64 64))) (@I.or .u64 (@Arr.sel (I .u64) (I.of .u64 0) 4 x1.2.2.2.1 (@I.nat .i64 (@I.quo .i64 x1.1.1 (I.of .i64 64)))) (@I.shl .u64 .i64 (I.of .u64 1) (@I.rem .i64 x1.1.1 (I.of .i64 64))))), (y4.1.1, ()))))))
             (.done (none)))
            (.done (none)))
           (.done (none)))
          (.again (((@I.sub .i64 x1.1.1 (I.of .i64 1)), ()), (x1.2.1, (x1.2.2.1, (x1.2.2.2.1, (y2.1.1, ()))))))))
        (.done (none)))
       (.done (none)))
      (.done (some ((x1.2.2.2.1, (x1.2.2.2.2.1, ((I.of .i64 0), ()))), ()))))
   K0 (((I.of .i64 255), ()), (a, (c, (((I.of .u64 0), ((I.of .u64 0), ((I.of .u64 0), ((I.of .u64 0), ())))), (b, ())))))))

/-- pontage/muldiv.DivMod -/
noncomputable def muldiv_DivMod (x : (⟨[.pl (.arr 4 (.int .u64)), .pl (.arr 4 (.int .u64))], []⟩ : Tm).D) : Option (⟨[.pl (.arr 4 (.int .u64)), .pl (.arr 4 (.int .u64)), .pl (.int .i64)], []⟩ : Tm).D :=
 let a : (I .u64) × (I .u64) × (I .u64) × (I .u64) × Unit := x.1.1
 let b : (I .u64) × (I .u64) × (I .u64) × (I .u64) × Unit := x.1.2.1
 optF (none) (muldiv_Div512 ((a, (((I.of .u64 0), ((I.of .u64 0), ((I.of .u64 0), ((I.of .u64 0), ())))), (b, ()))), ())) fun y0 =>
 some ((y0.1.1, (y0.1.2.1, (y0.1.2.2.1, ()))), ())

/-- math/bits.Mul64 -/
noncomputable def math_bits_Mul64 (x : (⟨[.pl (.int .u64), .pl (.int .u64)], []⟩ : Tm).D) : Option (⟨[.pl (.int .u64), .pl (.int .u64)], []⟩ : Tm).D :=
 let a : I .u64 := x.1.1
 let b : I .u64 := x.1.2.1
 some (((@I.add .u64 (@I.add .u64 (@I.mul .u64 (@I.shr .u64 .u64 a (I.of .u64 32)) (@I.shr .u64 .u64 b (I.of .u64 32))) (@I.shr .u64 .u64 (@I.add .u64 (@I.mul .u64 (@I.shr .u64 .u64 a (I.of .u64 32)) (@I.and .u64 b (I.of .u64 4294967295))) (@I.shr .u64 .u64 (@I.mul .u64 (@I.and .u64 a (I.of .u64 4294967295)) (@I.and .u64 b (I.of .u64 4294967295))) (I.of .u64 32))) (I.of .u64 32))) (@I.shr .u64 .u64 (@I.add .u64 (@I.and .u64 (@I.add .u64 (@I.mul .u64 (@I.shr .u64 .u64 a (I.of .u64 32)) (@I.and .u64 b (I.of .u64 4294967295))) (@I.shr .u64 .u64 (@I.mul .u64 (@I.and .u64 a (I.of .u64 4294967295)) (@I.and .u64 b (I.of .u64 4294967295))) (I.of .u64 32))) (I.of .u64 4294967295)) (@I.mul .u64 (@I.and .u64 a (I.of .u64 4294967295)) (@I.shr .u64 .u64 b (I.of .u64 32)))) (I.of .u64 32))), ((@I.mul .u64 a b), ())), ())

/-- pontage/uint256.Mul -/
noncomputable def uint256_Mul (x : (⟨[.pl (.arr 4 (.int .u64)), .pl (.arr 4 (.int .u64))], []⟩ : Tm).D) : Option (⟨[.pl (.arr 4 (.int .u64)), .pl (.int .i64)], []⟩ : Tm).D :=
 let a : (I .u64) × (I .u64) × (I .u64) × (I .u64) × Unit := x.1.1
 let b : (I .u64) × (I .u64) × (I .u64) × (I .u64) × Unit := x.1.2.1
 iter (none) (fun x0 =>
   brn (@I.ltb .i64 x0.1.1 (I.of .i64 4))
    (iter (.done (none)) (fun x1 =>
      brn (@I.ltb .i64 x1.1.2.2.2.1 (I.of .i64 4))
       (brn (@inB .i64 x1.1.1 4)
        (brn (@inB .i64 x1.1.2.2.2.1 4)
         (optF (.done (.done (none))) (math_bits_Mul64 (((@Arr.sel (I .u64) (I.of .u64 0) 4 x1.2.1 (@I.nat .i64 x1.1.1)), ((@Arr.sel (I .u64) (I.of .u64 0) 4 x1.2.2.1 (@I.nat .i64 x1.1.2.2.2.1)), ())), ())) fun y2 =>
         brn (@I.ltb .i64 (I.of .i64 3) (@I.add .i64 x1.1.1 x1.1.2.2.2.1))
          (brn (@I.neb .u64 (@I.or .u64 y2.1.1 y2.1.2.1) (I.of .u64 0))
           (.done (.done (some ((((I.of .u64 0), ((I.of .u64 0), ((I.of .u64 0), ((I.of .u64 0), ())))), ((I.of .i64 4), ())), ()))))
           (.again ((x1.1.1, (x1.1.2.1, (x1.1.2.2.1, ((@I.add .i64 x1.1.2.2.2.1 (I.of .i64 1)), ())))), (x1.2.1, (x1.2.2.1, (x1.2.2.2.1, (x1.2.2.2.2.1, ())))))))
          (optF (.done (.done (none))) (add64F ((y2.1.2.1, (x1.1.2.1, ((I.of .u64 0), ()))), ())) fun y3 =>
          brn (@inB .i64 (@I.add .i64 x1.1.1 x1.1.2.2.2.1) 4)
           (optF (.done (.done (none))) (add64F (((@Arr.sel (I .u64) (I.of .u64 0) 4 x1.2.2.2.2.1 (@I.nat .i64 (@I.add .i64 x1.1.1 x1.1.2.2.2.1))), (y3.1.1, ((I.of .u64 0), ()))), ())) fun y4 =>
           brn (@inB .i64 (@I.add .i64 x1.1.1 x1.1.2.2.2.1) 4)
            (.again ((x1.1.1, ((@I.add .u64 (@I.add .u64 y2.1.1 y3.1.2.1) y4.1.2.1), (x1.1.2.2.1, ((@I.add .i64 x1.1.2.2.2.1 (I.of .i64 1)), ())))), (x1.2.1, (x1.2.2.1, (x1.2.2.2.1, ((@Arr.upd (I .u64) 4 x1.2.2.2.2.1 (@I.nat .i64 (@I.add .i64 x1.1.1 x1.1.2.2.2.1)) y4.1.1), ()))))))
            (.done (.done (none))))
           (.done (.done (none)))))
         (.done (.done (none))))
        (.done (.done (none))))
       (.done (brn (@I.neb .u64 x1.1.2.1 (I.of .u64 0))
        (.done (some ((((I.of .u64 0), ((I.of .u64 0), ((I.of .u64 0), ((I.of .u64 0), ())))), ((I.of .i64 4), ())), ())))
        (.again (((@I.add .i64 x1.1.2.2.1 (I.of .i64 1)), ()), (x1.2.1, (x1.2.2.1, (x1.2.2.2.1, (x1.2.2.2.2.1, ())))))))))
    K0 ((x0.1.1, ((I.of .u64 0), (x0.1.1, ((I.of .i64 0), ())))), (x0.2.1, (x0.2.2.1, (x0.2.2.2.1, (x0.2.2.2.2.1, ()))))))
    (.done (some ((x0.2.2.2.2.1, ((I.of .i64 0), ())), ()))))
 K0 (((I.of .i64 0), ()), (a, (b, (((I.of .u64 0), ((I.of .u64 0), ((I.of .u64 0), ((I.of .u64 0), ())))), (((I.of .u64 0), ((I.of .u64 0), ((I.of .u64 0), ((I.of .u64 0), ())))), ())))))

/-- pontage/uint256.FromUint64 -/
noncomputable def uint256_FromUint64 (x : (⟨[.pl (.int .u64)], []⟩ : Tm).D) : Option (⟨[.pl (.arr 4 (.int .u64))], []⟩ : Tm).D :=
 let a : I .u64 := x.1.1
 some (((a, ((I.of .u64 0), ((I.of .u64 0), ((I.of .u64 0), ())))), ()), ())

/-- pontage/uint256.SaturatingSub -/
noncomputable def uint256_SaturatingSub (x : (⟨[.pl (.arr 4 (.int .u64)), .pl (.arr 4 (.int .u64))], []⟩ : Tm).D) : Option (⟨[.pl (.arr 4 (.int .u64))], []⟩ : Tm).D :=
 let a : (I .u64) × (I .u64) × (I .u64) × (I .u64) × Unit := x.1.1
 let b : (I .u64) × (I .u64) × (I .u64) × (I .u64) × Unit := x.1.2.1
 optF (none) (uint256_Sub ((a, (b, ())), ())) fun y0 =>
 some ((y0.1.1, ()), ())

end Sym

/- The given functions as plain functions, as the printer told them. -/
namespace Sym
open Go

/-- pontage/uint256.Min -/
noncomputable def uint256_Min (x : (⟨[.pl (.arr 4 (.int .u64)), .pl (.sl (.arr 4 (.int .u64)))], []⟩ : Tm).D) : Option (⟨[.pl (.arr 4 (.int .u64))], []⟩ : Tm).D :=
 let a : (I .u64) × (I .u64) × (I .u64) × (I .u64) × Unit := x.1.1
 let b : List ((I .u64) × (I .u64) × (I .u64) × (I .u64) × Unit) := x.1.2.1
 iter (none) (fun x0 =>
   brn (@I.ltb .i64 x0.1.2.2.1 x0.1.2.1)
    (brn (@inB .i64 x0.1.2.2.1 (@lenL ((I .u64) × ((I .u64) × ((I .u64) × ((I .u64) × Unit)))) x0.1.1))
     (optF (.done (none)) (uint256_Cmp (((@rdL ((I .u64) × ((I .u64) × ((I .u64) × ((I .u64) × Unit)))) ((I.of .u64 0), ((I.of .u64 0), ((I.of .u64 0), ((I.of .u64 0), ())))) x0.1.1 (@I.nat .i64 x0.1.2.2.1)), (x0.2.1, ())), ())) fun y1 =>
     brn (@I.ltb .i64 y1.1.1 (I.of .i64 0))
      (.again ((x0.1.1, (x0.1.2.1, ((@I.add .i64 x0.1.2.2.1 (I.of .i64 1)), ()))), ((@rdL ((I .u64) × ((I .u64) × ((I .u64) × ((I .u64) × Unit)))) ((I.of .u64 0), ((I.of .u64 0), ((I.of .u64 0), ((I.of .u64 0), ())))) x0.1.1 (@I.nat .i64 x0.1.2.2.1)), (x0.2.2.1, ()))))
      (.again ((x0.1.1, (x0.1.2.1, ((@I.add .i64 x0.1.2.2.1 (I.of .i64 1)), ()))), (x0.2.1, (x0.2.2.1, ())))))
     (.done (none)))
    (.done (some ((x0.2.1, ()), ()))))
 K0 ((b, ((I.ofNat .i64 (@lenL ((I .u64) × ((I .u64) × ((I .u64) × ((I .u64) × Unit)))) b)), ((I.of .i64 0), ()))), (a, (((I.of .u64 0), ((I.of .u64 0), ((I.of .u64 0), ((I.of .u64 0), ())))), ())))

/-- pontage/txfee.GasPrice -/
noncomputable def txfee_GasPrice (x : (⟨[.pl (.cons (.int .u64) (.cons (.int .u64) (.cons (.int .u64) (.cons (.arr 4 (.int .u64)) (.cons (.int .u64) (.cons (.arr 4 (.int .u64)) (.cons (.arr 4 (.int .u64)) (.cons (.int .u64) (.cons (.sl (.int .u8)) .nil))))))))), .pl (.arr 4 (.int .u64))], []⟩ : Tm).D) : Option (⟨[.pl (.arr 4 (.int .u64)), .pl (.int .i64)], []⟩ : Tm).D :=
 let a : (I .u64) × (I .u64) × (I .u64) × ((I .u64) × (I .u64) × (I .u64) × (I .u64) × Unit) × (I .u64) × ((I .u64) × (I .u64) × (I .u64) × (I .u64) × Unit) × ((I .u64) × (I .u64) × (I .u64) × (I .u64) × Unit) × (I .u64) × (List (I .u8)) × Unit := x.1.1
 let b : (I .u64) × (I .u64) × (I .u64) × (I .u64) × Unit := x.1.2.1
 optF (none) (uint256_Sub ((a.2.2.2.2.2.1, (b, ())), ())) fun y0 =>
 brn (@I.neb .i64 y0.1.2.1 (I.of .i64 0))
  (some ((((I.of .u64 0), ((I.of .u64 0), ((I.of .u64 0), ((I.of .u64 0), ())))), ((I.of .i64 12), ())), ()))
  (optF (none) (uint256_Min ((a.2.2.2.2.2.2.1, ((y0.1.1 :: []), ())), ())) fun y1 =>
  optF (none) (uint256_Add ((b, (y1.1.1, ())), ())) fun y2 =>
  some ((y2.1.1, (y2.1.2.1, ())), ()))

/-- pontage/pontagelaw23.awake -/
noncomputable def pontagelaw23_awake (x : (⟨[], []⟩ : Tm).D) : Option (⟨[.pl .bool], []⟩ : Tm).D :=
 optF (none) (txfee_GasPrice ((((I.of .u64 0), ((I.of .u64 0), ((I.of .u64 0), (((I.of .u64 0), ((I.of .u64 0), ((I.of .u64 0), ((I.of .u64 0), ())))), ((I.of .u64 0), (((I.of .u64 10), ((I.of .u64 0), ((I.of .u64 0), ((I.of .u64 0), ())))), (((I.of .u64 3), ((I.of .u64 0), ((I.of .u64 0), ((I.of .u64 0), ())))), ((I.of .u64 0), ([], ()))))))))), (((I.of .u64 8), ((I.of .u64 0), ((I.of .u64 0), ((I.of .u64 0), ())))), ())), ())) fun y0 =>
 optF (none) (txfee_GasPrice ((((I.of .u64 0), ((I.of .u64 0), ((I.of .u64 0), (((I.of .u64 0), ((I.of .u64 0), ((I.of .u64 0), ((I.of .u64 0), ())))), ((I.of .u64 0), (((I.of .u64 7), ((I.of .u64 0), ((I.of .u64 0), ((I.of .u64 0), ())))), (((I.of .u64 0), ((I.of .u64 0), ((I.of .u64 0), ((I.of .u64 0), ())))), ((I.of .u64 0), ([], ()))))))))), (((I.of .u64 8), ((I.of .u64 0), ((I.of .u64 0), ((I.of .u64 0), ())))), ())), ())) fun y1 =>
 brn (Ty.eqb (.arr 4 (.int .u64)) y0.1.1 ((I.of .u64 10), ((I.of .u64 0), ((I.of .u64 0), ((I.of .u64 0), ())))))
  (brn (@I.eqb .i64 y0.1.2.1 (I.of .i64 0))
   (some (((@I.eqb .i64 y1.1.2.1 (I.of .i64 12)), ()), ()))
   (some ((false, ()), ())))
  (some ((false, ()), ()))

/-- pontage/uint256.maxValue -/
noncomputable def uint256_maxValue (x : (⟨[], []⟩ : Tm).D) : Option (⟨[.pl (.arr 4 (.int .u64))], []⟩ : Tm).D :=
 some ((((I.of .u64 18446744073709551615), ((I.of .u64 18446744073709551615), ((I.of .u64 18446744073709551615), ((I.of .u64 18446744073709551615), ())))), ()), ())

/-- pontage/uint256.SaturatingAdd -/
noncomputable def uint256_SaturatingAdd (x : (⟨[.pl (.arr 4 (.int .u64)), .pl (.arr 4 (.int .u64))], []⟩ : Tm).D) : Option (⟨[.pl (.arr 4 (.int .u64))], []⟩ : Tm).D :=
 let a : (I .u64) × (I .u64) × (I .u64) × (I .u64) × Unit := x.1.1
 let b : (I .u64) × (I .u64) × (I .u64) × (I .u64) × Unit := x.1.2.1
 optF (none) (uint256_Add ((a, (b, ())), ())) fun y0 =>
 brn (@I.eqb .i64 y0.1.2.1 (I.of .i64 0))
  (some ((y0.1.1, ()), ()))
  (optF (none) (uint256_maxValue ((), ())) fun y1 =>
  some ((y1.1.1, ()), ()))

/-- pontage/pontagelaw0.Mod -/
noncomputable def pontagelaw0_Mod (x : (⟨[.pl (.int .i64), .pl (.int .i64)], []⟩ : Tm).D) : Option (⟨[.pl (.int .i64)], []⟩ : Tm).D :=
 let a : I .i64 := x.1.1
 let b : I .i64 := x.1.2.1
 brn (@I.nz .u64 (I.conv (k := .i64) .u64 b))
  (some (((I.conv (k := .u64) .i64 (@I.rem .u64 (I.conv (k := .i64) .u64 a) (I.conv (k := .i64) .u64 b))), ()), ()))
  (none)

/-- pontage/pontagelaw0.RepetitiveBytes -/
noncomputable def pontagelaw0_RepetitiveBytes (x : (⟨[.pl (.sl (.int .i64))], []⟩ : Tm).D) : Option (⟨[.pl (.sl (.int .u8))], []⟩ : Tm).D :=
 let a : List (I .i64) := x.1.1
 iter (none) (fun x0 =>
   brn (@I.ltb .i64 x0.1.2.1 (I.ofNat .i64 (@lenL (I .i64) x0.1.1)))
    (brn (@inB .i64 x0.1.2.1 (@lenL (I .i64) x0.1.1))
     (optF (.done (none)) (pontagelaw0_Mod (((@rdL (I .i64) (I.of .i64 0) x0.1.1 (@I.nat .i64 x0.1.2.1)), ((I.of .i64 1048576), ())), ())) fun y1 =>
     jn (fun (x2 : (((List (I .i64)) × ((I .i64) × ((I .i64) × ((I .i64) × ((I .i64) × (Bool × Unit)))))) × ((List (I .u8)) × Unit))) =>
       brn x2.1.2.2.2.2.2.1
        (iter (.done (none)) (fun x3 =>
          brn (@I.ltb .i64 x3.1.2.2.2.2.1 x3.1.2.2.2.1)
           (brn (fitsLen (@lenL (I .u8) (@appL (I .u8) x3.2.1 ((I.conv (k := .i64) .u8 (@I.add .i64 (I.of .i64 97) (@I.rem .i64 (@I.quo .i64 x3.1.2.2.1 (I.of .i64 256)) (I.of .i64 3)))) :: []))))
            (.again ((x3.1.1, (x3.1.2.1, (x3.1.2.2.1, (x3.1.2.2.2.1, ((@I.add .i64 x3.1.2.2.2.2.1 (I.of .i64 1)), ()))))), ((@appL (I .u8) x3.2.1 ((I.conv (k := .i64) .u8 (@I.add .i64 (I.of .i64 97) (@I.rem .i64 (@I.quo .i64 x3.1.2.2.1 (I.of .i64 256)) (I.of .i64 3)))) :: [])), ())))
            (.done (.done (none))))
           (.done (.again ((x3.1.1, ((@I.add .i64 x3.1.2.1 (I.of .i64 1)), ())), (x3.2.1, ())))))
        K0 ((x2.1.1, (x2.1.2.1, (x2.1.2.2.1, (x2.1.2.2.2.1, ((I.of .i64 0), ()))))), (x2.2.1, ())))
        (jn (fun (x3 : (((List (I .i64)) × ((I .i64) × ((I .i64) × ((I .i64) × (Bool × Unit))))) × ((List (I .u8)) × Unit))) =>
          brn x3.1.2.2.2.2.1
           (jn (fun (x4 : (((List (I .i64)) × ((I .i64) × ((I .i64) × ((I .i64) × Unit)))) × ((List (I .u8)) × Unit))) =>
             iter (.done (none)) (fun x5 =>
               jn (fun (x6 : (((List (I .i64)) × ((I .i64) × ((I .i64) × ((I .i64) × ((I .i64) × ((I .i64) × ((I .i64) × ((I .i64) × ((I .i64) × (Bool × Unit)))))))))) × ((List (I .u8)) × Unit))) =>
                 brn (@inB .i64 (@I.add .i64 x6.1.2.2.2.1 x6.1.2.2.2.2.1) (@lenL (I .u8) x6.2.1))
                  (brn (fitsLen (@lenL (I .u8) (@appL (I .u8) x6.2.1 ((@rdL (I .u8) (I.of .u8 0) x6.2.1 (@I.nat .i64 (@I.add .i64 x6.1.2.2.2.1 x6.1.2.2.2.2.1))) :: []))))
                   (.again ((x6.1.1, (x6.1.2.1, (x6.1.2.2.1, (x6.1.2.2.2.1, ((@I.add .i64 x6.1.2.2.2.2.1 (I.of .i64 1)), ()))))), ((@appL (I .u8) x6.2.1 ((@rdL (I .u8) (I.of .u8 0) x6.2.1 (@I.nat .i64 (@I.add .i64 x6.1.2.2.2.1 x6.1.2.2.2.2.1))) :: [])), ())))
                   (.done (.done (none))))
                  (.done (.done (none)))) fun j6 =>
               brn (@I.ltb .i64 x5.1.2.2.2.2.1 x5.1.2.2.1)
                (brn (@I.ltb .i64 (@I.add .i64 x5.1.2.2.2.1 x5.1.2.2.2.2.1) (I.ofNat .i64 (@lenL (I .u8) x5.2.1)))
                 (j6 ((x5.1.1, (x5.1.2.1, (x5.1.2.2.1, (x5.1.2.2.2.1, (x5.1.2.2.2.2.1, (x5.1.2.2.2.1, (x5.1.2.2.2.2.1, ((@I.add .i64 x5.1.2.2.2.1 x5.1.2.2.2.2.1), ((I.ofNat .i64 (@lenL (I .u8) x5.2.1)), ((@I.ltb .i64 (@I.add .i64 x5.1.2.2.2.1 x5.1.2.2.2.2.1) (I.ofNat .i64 (@lenL (I .u8) x5.2.1))), ())))))))))), (x5.2.1, ())))
                 (.done (.again ((x5.1.1, ((@I.add .i64 x5.1.2.1 (I.of .i64 1)), ())), (x5.2.1, ())))))
                (.done (.again ((x5.1.1, ((@I.add .i64 x5.1.2.1 (I.of .i64 1)), ())), (x5.2.1, ())))))
             K0 ((x4.1.1, (x4.1.2.1, (x4.1.2.2.1, (x4.1.2.2.2.1, ((I.of .i64 0), ()))))), (x4.2.1, ()))) fun j4 =>
           brn (@I.ltb .i64 (I.of .i64 0) (I.ofNat .i64 (@lenL (I .u8) x3.2.1)))
            (brn (@I.nz .i64 (I.ofNat .i64 (@lenL (I .u8) x3.2.1)))
             (j4 ((x3.1.1, (x3.1.2.1, (x3.1.2.2.2.1, ((@I.rem .i64 (@I.quo .i64 x3.1.2.2.1 (I.of .i64 64)) (I.ofNat .i64 (@lenL (I .u8) x3.2.1))), ())))), (x3.2.1, ())))
             (.done (none)))
            (j4 ((x3.1.1, (x3.1.2.1, (x3.1.2.2.2.1, ((I.of .i64 0), ())))), (x3.2.1, ()))))
           (iter (.done (none)) (fun x4 =>
             brn (@I.ltb .i64 x4.1.2.2.2.2.1 x4.1.2.2.2.1)
              (brn (@I.nn .u64 (I.conv (k := .i64) .u64 (@I.rem .i64 x4.1.2.2.2.2.1 (I.of .i64 12))))
               (brn (fitsLen (@lenL (I .u8) (@appL (I .u8) x4.2.1 ((I.conv (k := .i64) .u8 (@I.add .i64 (@I.shr .i64 .u64 x4.1.2.2.1 (I.conv (k := .i64) .u64 (@I.rem .i64 x4.1.2.2.2.2.1 (I.of .i64 12)))) (@I.mul .i64 x4.1.2.2.2.2.1 x4.1.2.2.1))) :: []))))
                (.again ((x4.1.1, (x4.1.2.1, (x4.1.2.2.1, (x4.1.2.2.2.1, ((@I.add .i64 x4.1.2.2.2.2.1 (I.of .i64 1)), ()))))), ((@appL (I .u8) x4.2.1 ((I.conv (k := .i64) .u8 (@I.add .i64 (@I.shr .i64 .u64 x4.1.2.2.1 (I.conv (k := .i64) .u64 (@I.rem .i64 x4.1.2.2.2.2.1 (I.of .i64 12)))) (@I.mul .i64 x4.1.2.2.2.2.1 x4.1.2.2.1))) :: [])), ())))
                (.done (.done (none))))
               (.done (.done (none))))
              (.done (.again ((x4.1.1, ((@I.add .i64 x4.1.2.1 (I.of .i64 1)), ())), (x4.2.1, ())))))
           K0 ((x3.1.1, (x3.1.2.1, (x3.1.2.2.1, (x3.1.2.2.2.1, ((I.of .i64 0), ()))))), (x3.2.1, ())))) fun j3 =>
        brn (@I.eqb .i64 x2.1.2.2.2.2.1 (I.of .i64 2))
         (j3 ((x2.1.1, (x2.1.2.1, (x2.1.2.2.1, (x2.1.2.2.2.1, ((@I.eqb .i64 x2.1.2.2.2.2.1 (I.of .i64 2)), ()))))), (x2.2.1, ())))
         (brn (@I.eqb .i64 x2.1.2.2.2.2.1 (I.of .i64 3))
          (j3 ((x2.1.1, (x2.1.2.1, (x2.1.2.2.1, (x2.1.2.2.2.1, ((@I.eqb .i64 x2.1.2.2.2.2.1 (I.of .i64 3)), ()))))), (x2.2.1, ())))
          (j3 ((x2.1.1, (x2.1.2.1, (x2.1.2.2.1, (x2.1.2.2.2.1, ((@I.eqb .i64 x2.1.2.2.2.2.1 (I.of .i64 4)), ()))))), (x2.2.1, ())))))) fun j2 =>
     brn (@I.eqb .i64 (@I.rem .i64 y1.1.1 (I.of .i64 8)) (I.of .i64 0))
      (j2 ((x0.1.1, (x0.1.2.1, (y1.1.1, ((@I.add .i64 (I.of .i64 1) (@I.rem .i64 (@I.quo .i64 y1.1.1 (I.of .i64 8)) (I.of .i64 24))), ((@I.rem .i64 y1.1.1 (I.of .i64 8)), ((@I.eqb .i64 (@I.rem .i64 y1.1.1 (I.of .i64 8)) (I.of .i64 0)), ())))))), (x0.2.1, ())))
      (j2 ((x0.1.1, (x0.1.2.1, (y1.1.1, ((@I.add .i64 (I.of .i64 1) (@I.rem .i64 (@I.quo .i64 y1.1.1 (I.of .i64 8)) (I.of .i64 24))), ((@I.rem .i64 y1.1.1 (I.of .i64 8)), ((@I.eqb .i64 (@I.rem .i64 y1.1.1 (I.of .i64 8)) (I.of .i64 1)), ())))))), (x0.2.1, ()))))
     (.done (none)))
    (.done (some ((x0.2.1, ()), ()))))
 K0 ((a, ((I.of .i64 0), ())), ([], ()))

/-- pontage/pontagelaw0.EdgeUint256 -/
noncomputable def pontagelaw0_EdgeUint256 (x : (⟨[.pl (.int .u64), .pl (.int .u64), .pl (.int .i64)], []⟩ : Tm).D) : Option (⟨[.pl (.arr 4 (.int .u64))], []⟩ : Tm).D :=
 let a : I .u64 := x.1.1
 let b : I .u64 := x.1.2.1
 let c : I .i64 := x.1.2.2.1
 optF (none) (pontagelaw0_Mod ((c, ((I.of .i64 9), ())), ())) fun y0 =>
 brn (@I.eqb .i64 y0.1.1 (I.of .i64 0))
  (some (((a, ((I.of .u64 0), ((I.of .u64 0), ((I.of .u64 0), ())))), ()), ()))
  (brn (@I.eqb .i64 y0.1.1 (I.of .i64 1))
   (some (((a, (b, ((I.of .u64 0), ((I.of .u64 0), ())))), ()), ()))
   (brn (@I.eqb .i64 y0.1.1 (I.of .i64 2))
    (some (((a, (b, (a, (b, ())))), ()), ()))
    (brn (@I.eqb .i64 y0.1.1 (I.of .i64 3))
     (some ((((@I.sub .u64 (I.of .u64 18446744073709551615) (@I.rem .u64 a (I.of .u64 4))), ((I.of .u64 18446744073709551615), ((I.of .u64 18446744073709551615), ((I.of .u64 18446744073709551615), ())))), ()), ()))
     (brn (@I.eqb .i64 y0.1.1 (I.of .i64 4))
      (some ((((@I.rem .u64 a (I.of .u64 4)), ((I.of .u64 0), ((@I.add .u64 (I.of .u64 1) (@I.rem .u64 b (I.of .u64 4))), ((I.of .u64 0), ())))), ()), ()))
      (brn (@I.eqb .i64 y0.1.1 (I.of .i64 5))
       (some ((((I.of .u64 18446744073709551615), ((I.of .u64 18446744073709551615), ((I.of .u64 0), ((I.of .u64 0), ())))), ()), ()))
       (brn (@I.eqb .i64 y0.1.1 (I.of .i64 6))
        (brn (@I.nn .u64 (@I.rem .u64 b (I.of .u64 64)))
         (some ((((I.of .u64 0), ((I.of .u64 0), ((I.of .u64 0), ((@I.shl .u64 .u64 (I.of .u64 1) (@I.rem .u64 b (I.of .u64 64))), ())))), ()), ()))
         (none))
        (brn (@I.eqb .i64 y0.1.1 (I.of .i64 7))
         (some ((((@I.rem .u64 a (I.of .u64 16)), ((I.of .u64 0), ((I.of .u64 0), ((I.of .u64 0), ())))), ()), ()))
         (some (((b, (a, (b, ((I.of .u64 0), ())))), ()), ())))))))))

/-- pontage/pontagelaw23.build -/
noncomputable def pontagelaw23_build (x : (⟨[.pl (.cons (.int .u64) (.cons (.int .u64) (.cons (.int .u64) (.cons (.int .u64) (.cons (.int .u64) (.cons (.int .u64) (.cons (.int .i64) (.cons (.sl (.int .i64)) .nil))))))))], []⟩ : Tm).D) : Option (⟨[.pl (.cons (.int .u64) (.cons (.int .u64) (.cons (.int .u64) (.cons (.arr 4 (.int .u64)) (.cons (.int .u64) (.cons (.arr 4 (.int .u64)) (.cons (.arr 4 (.int .u64)) (.cons (.int .u64) (.cons (.sl (.int .u8)) .nil))))))))), .pl (.arr 4 (.int .u64)), .pl (.arr 4 (.int .u64))], []⟩ : Tm).D :=
 let a : (I .u64) × (I .u64) × (I .u64) × (I .u64) × (I .u64) × (I .u64) × (I .i64) × (List (I .i64)) × Unit := x.1.1
 brn (@I.nn .u64 (@I.add .u64 (I.of .u64 1) (@I.rem .u64 a.2.2.2.2.1 (I.of .u64 50))))
  (brn (@I.nz .u64 (@I.shl .u64 .u64 (I.of .u64 1) (@I.add .u64 (I.of .u64 1) (@I.rem .u64 a.2.2.2.2.1 (I.of .u64 50)))))
   (brn (@I.nn .u64 (@I.add .u64 (I.of .u64 1) (@I.rem .u64 a.1 (I.of .u64 40))))
    (brn (@I.nz .u64 (@I.shl .u64 .u64 (I.of .u64 1) (@I.add .u64 (I.of .u64 1) (@I.rem .u64 a.1 (I.of .u64 40)))))
     (brn (@I.nn .u64 (@I.add .u64 (I.of .u64 1) (@I.rem .u64 a.2.1 (I.of .u64 50))))
      (brn (@I.nz .u64 (@I.shl .u64 .u64 (I.of .u64 1) (@I.add .u64 (I.of .u64 1) (@I.rem .u64 a.2.1 (I.of .u64 50)))))
       (optF (none) (uint256_SaturatingAdd ((((@I.add .u64 (I.of .u64 1) (@I.rem .u64 a.2.2.2.2.1 (@I.shl .u64 .u64 (I.of .u64 1) (@I.add .u64 (I.of .u64 1) (@I.rem .u64 a.2.2.2.2.1 (I.of .u64 50)))))), ((I.of .u64 0), ((I.of .u64 0), ((I.of .u64 0), ())))), (((@I.rem .u64 a.2.1 (@I.shl .u64 .u64 (I.of .u64 1) (@I.add .u64 (I.of .u64 1) (@I.rem .u64 a.2.1 (I.of .u64 50))))), ((I.of .u64 0), ((I.of .u64 0), ((I.of .u64 0), ())))), ())), ())) fun y0 =>
       brn (@I.nn .u64 (@I.add .u64 (I.of .u64 1) (@I.rem .u64 a.2.2.1 (I.of .u64 50))))
        (brn (@I.nz .u64 (@I.shl .u64 .u64 (I.of .u64 1) (@I.add .u64 (I.of .u64 1) (@I.rem .u64 a.2.2.1 (I.of .u64 50)))))
         (brn (@I.nn .u64 (@I.add .u64 (I.of .u64 1) (@I.rem .u64 a.2.2.2.1 (I.of .u64 40))))
          (brn (@I.nz .u64 (@I.shl .u64 .u64 (I.of .u64 1) (@I.add .u64 (I.of .u64 1) (@I.rem .u64 a.2.2.2.1 (I.of .u64 40)))))
           (optF (none) (pontagelaw0_RepetitiveBytes ((a.2.2.2.2.2.2.2.1, ()), ())) fun y1 =>
           jn (fun (x2 : (Unit × (((I .u64) × ((I .u64) × ((I .u64) × ((I .u64) × ((I .u64) × ((I .u64) × ((I .i64) × ((List (I .i64)) × Unit)))))))) × (((I .u64) × ((I .u64) × ((I .u64) × (((I .u64) × ((I .u64) × ((I .u64) × ((I .u64) × Unit)))) × ((I .u64) × (((I .u64) × ((I .u64) × ((I .u64) × ((I .u64) × Unit)))) × (((I .u64) × ((I .u64) × ((I .u64) × ((I .u64) × Unit)))) × ((I .u64) × ((List (I .u8)) × Unit))))))))) × (((I .u64) × ((I .u64) × ((I .u64) × ((I .u64) × Unit)))) × (((I .u64) × ((I .u64) × ((I .u64) × ((I .u64) × Unit)))) × (((I .u64) × ((I .u64) × ((I .u64) × ((I .u64) × Unit)))) × (((I .u64) × ((I .u64) × ((I .u64) × (((I .u64) × ((I .u64) × ((I .u64) × ((I .u64) × Unit)))) × ((I .u64) × (((I .u64) × ((I .u64) × ((I .u64) × ((I .u64) × Unit)))) × (((I .u64) × ((I .u64) × ((I .u64) × ((I .u64) × Unit)))) × ((I .u64) × ((List (I .u8)) × Unit))))))))) × Unit)))))))) =>
             brn (@I.nn .u64 (@I.add .u64 (I.of .u64 1) (@I.rem .u64 x2.2.1.2.2.2.2.2.1 (I.of .u64 40))))
              (brn (@I.nz .u64 (@I.shl .u64 .u64 (I.of .u64 1) (@I.add .u64 (I.of .u64 1) (@I.rem .u64 x2.2.1.2.2.2.2.2.1 (I.of .u64 40)))))
               (some ((x2.2.2.2.2.2.2.1, (x2.2.2.2.2.2.1, (((@I.rem .u64 x2.2.1.2.2.2.2.2.1 (@I.shl .u64 .u64 (I.of .u64 1) (@I.add .u64 (I.of .u64 1) (@I.rem .u64 x2.2.1.2.2.2.2.2.1 (I.of .u64 40))))), ((I.of .u64 0), ((I.of .u64 0), ((I.of .u64 0), ())))), ()))), ()))
               (none))
              (none)) fun j2 =>
           optF (none) (pontagelaw0_Mod ((a.2.2.2.2.2.2.1, ((I.of .i64 8), ())), ())) fun y3 =>
           brn (@I.eqb .i64 y3.1.1 (I.of .i64 0))
            (j2 ((), (a, (((I.of .u64 0), ((I.of .u64 0), ((I.of .u64 0), (((I.of .u64 0), ((I.of .u64 0), ((I.of .u64 0), ((I.of .u64 0), ())))), ((I.of .u64 0), (((I.of .u64 0), ((I.of .u64 0), ((I.of .u64 0), ((I.of .u64 0), ())))), (((I.of .u64 0), ((I.of .u64 0), ((I.of .u64 0), ((I.of .u64 0), ())))), ((I.of .u64 0), ([], ()))))))))), (((I.of .u64 0), ((I.of .u64 0), ((I.of .u64 0), ((I.of .u64 0), ())))), (((I.of .u64 0), ((I.of .u64 0), ((I.of .u64 0), ((I.of .u64 0), ())))), (((@I.add .u64 (I.of .u64 1) (@I.rem .u64 a.2.2.2.2.1 (@I.shl .u64 .u64 (I.of .u64 1) (@I.add .u64 (I.of .u64 1) (@I.rem .u64 a.2.2.2.2.1 (I.of .u64 50)))))), ((I.of .u64 0), ((I.of .u64 0), ((I.of .u64 0), ())))), (((I.of .u64 1), ((I.of .u64 0), ((I.of .u64 2), (((I.of .u64 0), ((I.of .u64 0), ((I.of .u64 0), ((I.of .u64 0), ())))), ((@I.rem .u64 a.1 (@I.shl .u64 .u64 (I.of .u64 1) (@I.add .u64 (I.of .u64 1) (@I.rem .u64 a.1 (I.of .u64 40))))), ((a.2.1, ((I.of .u64 0), ((I.of .u64 0), ((I.of .u64 0), ())))), (((@I.rem .u64 a.2.2.1 (@I.shl .u64 .u64 (I.of .u64 1) (@I.add .u64 (I.of .u64 1) (@I.rem .u64 a.2.2.1 (I.of .u64 50))))), ((I.of .u64 0), ((I.of .u64 0), ((I.of .u64 0), ())))), ((@I.rem .u64 a.2.2.2.1 (@I.shl .u64 .u64 (I.of .u64 1) (@I.add .u64 (I.of .u64 1) (@I.rem .u64 a.2.2.2.1 (I.of .u64 40))))), (y1.1.1, ()))))))))), ()))))))))
            (brn (@I.eqb .i64 y3.1.1 (I.of .i64 1))
             (optF (none) (pontagelaw0_EdgeUint256 ((a.2.2.1, (a.2.1, ((@I.quo .i64 a.2.2.2.2.2.2.1 (I.of .i64 8)), ()))), ())) fun y4 =>
             j2 ((), (a, (((I.of .u64 0), ((I.of .u64 0), ((I.of .u64 0), (((I.of .u64 0), ((I.of .u64 0), ((I.of .u64 0), ((I.of .u64 0), ())))), ((I.of .u64 0), (((I.of .u64 0), ((I.of .u64 0), ((I.of .u64 0), ((I.of .u64 0), ())))), (((I.of .u64 0), ((I.of .u64 0), ((I.of .u64 0), ((I.of .u64 0), ())))), ((I.of .u64 0), ([], ()))))))))), (((I.of .u64 0), ((I.of .u64 0), ((I.of .u64 0), ((I.of .u64 0), ())))), (((I.of .u64 0), ((I.of .u64 0), ((I.of .u64 0), ((I.of .u64 0), ())))), (((@I.add .u64 (I.of .u64 1) (@I.rem .u64 a.2.2.2.2.1 (@I.shl .u64 .u64 (I.of .u64 1) (@I.add .u64 (I.of .u64 1) (@I.rem .u64 a.2.2.2.2.1 (I.of .u64 50)))))), ((I.of .u64 0), ((I.of .u64 0), ((I.of .u64 0), ())))), (((I.of .u64 1), ((I.of .u64 0), ((I.of .u64 2), (((I.of .u64 0), ((I.of .u64 0), ((I.of .u64 0), ((I.of .u64 0), ())))), ((@I.rem .u64 a.1 (@I.shl .u64 .u64 (I.of .u64 1) (@I.add .u64 (I.of .u64 1) (@I.rem .u64 a.1 (I.of .u64 40))))), (y0.1.1, (y4.1.1, ((@I.rem .u64 a.2.2.2.1 (@I.shl .u64 .u64 (I.of .u64 1) (@I.add .u64 (I.of .u64 1) (@I.rem .u64 a.2.2.2.1 (I.of .u64 40))))), (y1.1.1, ()))))))))), ()))))))))
             (brn (@I.eqb .i64 y3.1.1 (I.of .i64 2))
              (optF (none) (pontagelaw0_EdgeUint256 ((a.2.1, (a.2.2.1, ((@I.quo .i64 a.2.2.2.2.2.2.1 (I.of .i64 8)), ()))), ())) fun y4 =>
              optF (none) (pontagelaw0_EdgeUint256 ((a.2.2.1, (a.2.1, ((@I.quo .i64 a.2.2.2.2.2.2.1 (I.of .i64 64)), ()))), ())) fun y5 =>
              j2 ((), (a, (((I.of .u64 0), ((I.of .u64 0), ((I.of .u64 0), (((I.of .u64 0), ((I.of .u64 0), ((I.of .u64 0), ((I.of .u64 0), ())))), ((I.of .u64 0), (((I.of .u64 0), ((I.of .u64 0), ((I.of .u64 0), ((I.of .u64 0), ())))), (((I.of .u64 0), ((I.of .u64 0), ((I.of .u64 0), ((I.of .u64 0), ())))), ((I.of .u64 0), ([], ()))))))))), (((I.of .u64 0), ((I.of .u64 0), ((I.of .u64 0), ((I.of .u64 0), ())))), (((I.of .u64 0), ((I.of .u64 0), ((I.of .u64 0), ((I.of .u64 0), ())))), (((@I.add .u64 (I.of .u64 1) (@I.rem .u64 a.2.2.2.2.1 (@I.shl .u64 .u64 (I.of .u64 1) (@I.add .u64 (I.of .u64 1) (@I.rem .u64 a.2.2.2.2.1 (I.of .u64 50)))))), ((I.of .u64 0), ((I.of .u64 0), ((I.of .u64 0), ())))), (((I.of .u64 1), ((I.of .u64 0), ((I.of .u64 2), (((I.of .u64 0), ((I.of .u64 0), ((I.of .u64 0), ((I.of .u64 0), ())))), ((@I.rem .u64 a.1 (@I.shl .u64 .u64 (I.of .u64 1) (@I.add .u64 (I.of .u64 1) (@I.rem .u64 a.1 (I.of .u64 40))))), (y4.1.1, (y5.1.1, ((@I.rem .u64 a.2.2.2.1 (@I.shl .u64 .u64 (I.of .u64 1) (@I.add .u64 (I.of .u64 1) (@I.rem .u64 a.2.2.2.1 (I.of .u64 40))))), (y1.1.1, ()))))))))), ()))))))))
              (brn (@I.eqb .i64 y3.1.1 (I.of .i64 3))
               (j2 ((), (a, (((I.of .u64 0), ((I.of .u64 0), ((I.of .u64 0), (((I.of .u64 0), ((I.of .u64 0), ((I.of .u64 0), ((I.of .u64 0), ())))), ((I.of .u64 0), (((I.of .u64 0), ((I.of .u64 0), ((I.of .u64 0), ((I.of .u64 0), ())))), (((I.of .u64 0), ((I.of .u64 0), ((I.of .u64 0), ((I.of .u64 0), ())))), ((I.of .u64 0), ([], ()))))))))), (((I.of .u64 0), ((I.of .u64 0), ((I.of .u64 0), ((I.of .u64 0), ())))), (((I.of .u64 0), ((I.of .u64 0), ((I.of .u64 0), ((I.of .u64 0), ())))), (((@I.add .u64 (I.of .u64 1) (@I.rem .u64 a.2.2.2.2.1 (@I.shl .u64 .u64 (I.of .u64 1) (@I.add .u64 (I.of .u64 1) (@I.rem .u64 a.2.2.2.2.1 (I.of .u64 50)))))), ((I.of .u64 0), ((I.of .u64 0), ((I.of .u64 0), ())))), (((I.of .u64 1), ((I.of .u64 0), ((I.of .u64 2), (((I.of .u64 0), ((I.of .u64 0), ((I.of .u64 0), ((I.of .u64 0), ())))), (a.1, (y0.1.1, (((@I.rem .u64 a.2.2.1 (@I.shl .u64 .u64 (I.of .u64 1) (@I.add .u64 (I.of .u64 1) (@I.rem .u64 a.2.2.1 (I.of .u64 50))))), ((I.of .u64 0), ((I.of .u64 0), ((I.of .u64 0), ())))), (a.2.2.2.1, (y1.1.1, ()))))))))), ()))))))))
               (j2 ((), (a, (((I.of .u64 0), ((I.of .u64 0), ((I.of .u64 0), (((I.of .u64 0), ((I.of .u64 0), ((I.of .u64 0), ((I.of .u64 0), ())))), ((I.of .u64 0), (((I.of .u64 0), ((I.of .u64 0), ((I.of .u64 0), ((I.of .u64 0), ())))), (((I.of .u64 0), ((I.of .u64 0), ((I.of .u64 0), ((I.of .u64 0), ())))), ((I.of .u64 0), ([], ()))))))))), (((I.of .u64 0), ((I.of .u64 0), ((I.of .u64 0), ((I.of .u64 0), ())))), (((I.of .u64 0), ((I.of .u64 0), ((I.of .u64 0), ((I.of .u64 0), ())))), (((@I.add .u64 (I.of .u64 1) (@I.rem .u64 a.2.2.2.2.1 (@I.shl .u64 .u64 (I.of .u64 1) (@I.add .u64 (I.of .u64 1) (@I.rem .u64 a.2.2.2.2.1 (I.of .u64 50)))))), ((I.of .u64 0), ((I.of .u64 0), ((I.of .u64 0), ())))), (((I.of .u64 1), ((I.of .u64 0), ((I.of .u64 2), (((I.of .u64 0), ((I.of .u64 0), ((I.of .u64 0), ((I.of .u64 0), ())))), ((@I.rem .u64 a.1 (@I.shl .u64 .u64 (I.of .u64 1) (@I.add .u64 (I.of .u64 1) (@I.rem .u64 a.1 (I.of .u64 40))))), (y0.1.1, (((@I.rem .u64 a.2.2.1 (@I.shl .u64 .u64 (I.of .u64 1) (@I.add .u64 (I.of .u64 1) (@I.rem .u64 a.2.2.1 (I.of .u64 50))))), ((I.of .u64 0), ((I.of .u64 0), ((I.of .u64 0), ())))), ((@I.rem .u64 a.2.2.2.1 (@I.shl .u64 .u64 (I.of .u64 1) (@I.add .u64 (I.of .u64 1) (@I.rem .u64 a.2.2.2.1 (I.of .u64 40))))), (y1.1.1, ()))))))))), ()))))))))))))
           (none))
          (none))
         (none))
        (none))
       (none))
      (none))
     (none))
    (none))
   (none))
  (none)

/-- pontage/pontagelaw23.TxfeeGasPriceBounds -/
noncomputable def pontagelaw23_TxfeeGasPriceBounds (x : (⟨[.pl (.cons (.int .u64) (.cons (.int .u64) (.cons (.int .u64) (.cons (.int .u64) (.cons (.int .u64) (.cons (.int .u64) (.cons (.int .i64) (.cons (.sl (.int .i64)) .nil)))))))), .pl (.int .u64)], []⟩ : Tm).D) : Option (⟨[.pl .bool], []⟩ : Tm).D :=
 let a : (I .u64) × (I .u64) × (I .u64) × (I .u64) × (I .u64) × (I .u64) × (I .i64) × (List (I .i64)) × Unit := x.1.1
 let b : I .u64 := x.1.2.1
 brn (@I.ltb .i64 (I.of .i64 5) (I.ofNat .i64 (@lenL (I .i64) a.2.2.2.2.2.2.2.1)))
  (optF (none) (pontagelaw23_awake ((), ())) fun y0 =>
  some ((y0.1.1, ()), ()))
  (optF (none) (pontagelaw23_build ((a, ()), ())) fun y0 =>
  optF (none) (txfee_GasPrice ((y0.1.1, (y0.1.2.1, ())), ())) fun y1 =>
  brn (@I.neb .i64 y1.1.2.1 (I.of .i64 0))
   (brn (@I.eqb .i64 y1.1.2.1 (I.of .i64 12))
    (optF (none) (uint256_Cmp ((y0.1.1.2.2.2.2.2.1, (y0.1.2.1, ())), ())) fun y2 =>
    brn (@I.ltb .i64 y2.1.1 (I.of .i64 0))
     (optF (none) (pontagelaw23_awake ((), ())) fun y3 =>
     some ((y3.1.1, ()), ()))
     (some ((false, ()), ())))
    (some ((false, ()), ())))
   (optF (none) (uint256_Add ((y0.1.2.1, (y0.1.1.2.2.2.2.2.2.1, ())), ())) fun y2 =>
   optF (none) (uint256_SaturatingAdd ((y0.1.1.2.2.2.2.2.2.1, ((b, ((I.of .u64 0), ((I.of .u64 0), ((I.of .u64 0), ())))), ())), ())) fun y3 =>
   optF (none) (uint256_SaturatingAdd ((y0.1.1.2.2.2.2.2.1, ((b, ((I.of .u64 0), ((I.of .u64 0), ((I.of .u64 0), ())))), ())), ())) fun y4 =>
   optF (none) (txfee_GasPrice (((y0.1.1.1, (y0.1.1.2.1, (y0.1.1.2.2.1, (y0.1.1.2.2.2.1, (y0.1.1.2.2.2.2.1, (y0.1.1.2.2.2.2.2.1, (y3.1.1, y0.1.1.2.2.2.2.2.2.2))))))), (y0.1.2.1, ())), ())) fun y5 =>
   optF (none) (txfee_GasPrice (((y0.1.1.1, (y0.1.1.2.1, (y0.1.1.2.2.1, (y0.1.1.2.2.2.1, (y0.1.1.2.2.2.2.1, (y4.1.1, y0.1.1.2.2.2.2.2.2)))))), (y0.1.2.1, ())), ())) fun y6 =>
   brn (@I.eqb .i64 y5.1.2.1 (I.of .i64 0))
    (brn (@I.eqb .i64 y6.1.2.1 (I.of .i64 0))
     (optF (none) (uint256_Cmp ((y0.1.2.1, (y1.1.1, ())), ())) fun y7 =>
     brn (@I.leb .i64 y7.1.1 (I.of .i64 0))
      (optF (none) (uint256_Cmp ((y1.1.1, (y0.1.1.2.2.2.2.2.1, ())), ())) fun y8 =>
      brn (@I.leb .i64 y8.1.1 (I.of .i64 0))
       (brn (Ty.eqb (.arr 4 (.int .u64)) y1.1.1 y0.1.1.2.2.2.2.2.1)
        (optF (none) (uint256_Cmp ((y1.1.1, (y5.1.1, ())), ())) fun y9 =>
        brn (@I.leb .i64 y9.1.1 (I.of .i64 0))
         (optF (none) (uint256_Cmp ((y1.1.1, (y6.1.1, ())), ())) fun y10 =>
         brn (@I.leb .i64 y10.1.1 (I.of .i64 0))
          (optF (none) (pontagelaw23_awake ((), ())) fun y11 =>
          some ((y11.1.1, ()), ()))
          (some ((false, ()), ())))
         (some ((false, ()), ())))
        (brn (@I.eqb .i64 y2.1.2.1 (I.of .i64 0))
         (brn (Ty.eqb (.arr 4 (.int .u64)) y1.1.1 y2.1.1)
          (optF (none) (uint256_Cmp ((y1.1.1, (y5.1.1, ())), ())) fun y9 =>
          brn (@I.leb .i64 y9.1.1 (I.of .i64 0))
           (optF (none) (uint256_Cmp ((y1.1.1, (y6.1.1, ())), ())) fun y10 =>
           brn (@I.leb .i64 y10.1.1 (I.of .i64 0))
            (optF (none) (pontagelaw23_awake ((), ())) fun y11 =>
            some ((y11.1.1, ()), ()))
            (some ((false, ()), ())))
           (some ((false, ()), ())))
          (some ((false, ()), ())))
         (some ((false, ()), ()))))
       (some ((false, ()), ())))
      (some ((false, ()), ())))
     (some ((false, ()), ())))
    (some ((false, ()), ()))))

/-- pontage/txfee.Total -/
noncomputable def txfee_Total (x : (⟨[.pl (.cons (.int .u64) (.cons (.int .u64) (.cons (.int .u64) (.cons (.int .u64) (.cons .bool (.cons (.arr 4 (.int .u64)) (.cons (.arr 4 (.int .u64)) (.cons (.arr 4 (.int .u64)) (.cons (.arr 4 (.int .u64)) (.cons (.arr 4 (.int .u64)) .nil))))))))))], []⟩ : Tm).D) : Option (⟨[.pl (.arr 4 (.int .u64)), .pl (.int .i64)], []⟩ : Tm).D :=
 let a : (I .u64) × (I .u64) × (I .u64) × (I .u64) × (Bool) × ((I .u64) × (I .u64) × (I .u64) × (I .u64) × Unit) × ((I .u64) × (I .u64) × (I .u64) × (I .u64) × Unit) × ((I .u64) × (I .u64) × (I .u64) × (I .u64) × Unit) × ((I .u64) × (I .u64) × (I .u64) × (I .u64) × Unit) × ((I .u64) × (I .u64) × (I .u64) × (I .u64) × Unit) × Unit := x.1.1
 iter (none) (fun x0 =>
   brn (@I.ltb .i64 x0.1.2.1 x0.1.1)
    (brn (@inB .i64 x0.1.2.1 (@lenL ((I .u64) × ((I .u64) × ((I .u64) × ((I .u64) × Unit)))) x0.2.2.2.1))
     (optF (.done (none)) (uint256_Add ((x0.2.2.1, ((@rdL ((I .u64) × ((I .u64) × ((I .u64) × ((I .u64) × Unit)))) ((I.of .u64 0), ((I.of .u64 0), ((I.of .u64 0), ((I.of .u64 0), ())))) x0.2.2.2.1 (@I.nat .i64 x0.1.2.1)), ())), ())) fun y1 =>
     brn (@I.neb .i64 y1.1.2.1 (I.of .i64 0))
      (.done (some ((((I.of .u64 0), ((I.of .u64 0), ((I.of .u64 0), ((I.of .u64 0), ())))), (y1.1.2.1, ())), ())))
      (.again ((x0.1.1, ((@I.add .i64 x0.1.2.1 (I.of .i64 1)), ())), (x0.2.1, (y1.1.1, (x0.2.2.2.1, ()))))))
     (.done (none)))
    (.done (some ((x0.2.2.1, ((I.of .i64 0), ())), ()))))
 K0 (((I.of .i64 3), ((I.of .i64 0), ())), (((I.of .u64 0), ((I.of .u64 0), ((I.of .u64 0), ((I.of .u64 0), ())))), (a.2.2.2.2.2.2.1, ((a.2.2.2.2.2.2.2.1 :: (a.2.2.2.2.2.2.2.2.1 :: (a.2.2.2.2.2.2.2.2.2.1 :: []))), ()))))

/-- pontage/pontageref23.Total -/
noncomputable def pontageref23_Total (x : (⟨[.pl (.cons (.int .u64) (.cons (.int .u64) (.cons (.int .u64) (.cons (.int .u64) (.cons .bool (.cons (.arr 4 (.int .u64)) (.cons (.arr 4 (.int .u64)) (.cons (.arr 4 (.int .u64)) (.cons (.arr 4 (.int .u64)) (.cons (.arr 4 (.int .u64)) .nil))))))))))], []⟩ : Tm).D) : Option (⟨[.pl (.arr 4 (.int .u64)), .pl (.int .i64)], []⟩ : Tm).D :=
 let a : (I .u64) × (I .u64) × (I .u64) × (I .u64) × (Bool) × ((I .u64) × (I .u64) × (I .u64) × (I .u64) × Unit) × ((I .u64) × (I .u64) × (I .u64) × (I .u64) × Unit) × ((I .u64) × (I .u64) × (I .u64) × (I .u64) × Unit) × ((I .u64) × (I .u64) × (I .u64) × (I .u64) × Unit) × ((I .u64) × (I .u64) × (I .u64) × (I .u64) × Unit) × Unit := x.1.1
 optF (none) (pontageref1_FromUint256 ((a.2.2.2.2.2.2.1, ()), ())) fun y0 =>
 optF (none) (pontageref1_FromUint256 ((a.2.2.2.2.2.2.2.1, ()), ())) fun y1 =>
 optF (none) (pontageref1_Add ((y0.1.1, (y1.1.1, ())), ())) fun y2 =>
 optF (none) (pontageref1_FromUint256 ((a.2.2.2.2.2.2.2.2.1, ()), ())) fun y3 =>
 optF (none) (pontageref1_FromUint256 ((a.2.2.2.2.2.2.2.2.2.1, ()), ())) fun y4 =>
 optF (none) (pontageref1_Add ((y3.1.1, (y4.1.1, ())), ())) fun y5 =>
 optF (none) (pontageref1_Add ((y2.1.1, (y5.1.1, ())), ())) fun y6 =>
 optF (none) (pontageref1_Checked ((y6.1.1, ()), ())) fun y7 =>
 some ((y7.1.1, (y7.1.2.1, ())), ())

/-- pontage/pontagelaw23.TxFeeSum -/
noncomputable def pontagelaw23_TxFeeSum (x : (⟨[.pl (.cons (.int .u64) (.cons (.int .u64) (.cons (.int .u64) (.cons (.int .u64) (.cons .bool (.cons (.arr 4 (.int .u64)) (.cons (.arr 4 (.int .u64)) (.cons (.arr 4 (.int .u64)) (.cons (.arr 4 (.int .u64)) (.cons (.arr 4 (.int .u64)) .nil)))))))))), .pl (.arr 4 (.int .u64))], []⟩ : Tm).D) : Option (⟨[.pl .bool], []⟩ : Tm).D :=
 let a : (I .u64) × (I .u64) × (I .u64) × (I .u64) × (Bool) × ((I .u64) × (I .u64) × (I .u64) × (I .u64) × Unit) × ((I .u64) × (I .u64) × (I .u64) × (I .u64) × Unit) × ((I .u64) × (I .u64) × (I .u64) × (I .u64) × Unit) × ((I .u64) × (I .u64) × (I .u64) × (I .u64) × Unit) × ((I .u64) × (I .u64) × (I .u64) × (I .u64) × Unit) × Unit := x.1.1
 let b : (I .u64) × (I .u64) × (I .u64) × (I .u64) × Unit := x.1.2.1
 optF (none) (txfee_Total ((a, ()), ())) fun y0 =>
 optF (none) (pontageref23_Total ((a, ()), ())) fun y1 =>
 optF (none) (txfee_Total ((((I.of .u64 0), ((I.of .u64 0), ((I.of .u64 0), ((I.of .u64 0), (false, (((I.of .u64 0), ((I.of .u64 0), ((I.of .u64 0), ((I.of .u64 0), ())))), ((b.1, ((I.of .u64 0), ((I.of .u64 0), ((I.of .u64 0), ())))), ((b.2.1, ((I.of .u64 0), ((I.of .u64 0), ((I.of .u64 0), ())))), ((b.2.2.1, ((I.of .u64 0), ((I.of .u64 0), ((I.of .u64 0), ())))), ((b.2.2.2.1, ((I.of .u64 0), ((I.of .u64 0), ((I.of .u64 0), ())))), ())))))))))), ()), ())) fun y2 =>
 optF (none) (pontageref23_Total ((((I.of .u64 0), ((I.of .u64 0), ((I.of .u64 0), ((I.of .u64 0), (false, (((I.of .u64 0), ((I.of .u64 0), ((I.of .u64 0), ((I.of .u64 0), ())))), ((b.1, ((I.of .u64 0), ((I.of .u64 0), ((I.of .u64 0), ())))), ((b.2.1, ((I.of .u64 0), ((I.of .u64 0), ((I.of .u64 0), ())))), ((b.2.2.1, ((I.of .u64 0), ((I.of .u64 0), ((I.of .u64 0), ())))), ((b.2.2.2.1, ((I.of .u64 0), ((I.of .u64 0), ((I.of .u64 0), ())))), ())))))))))), ()), ())) fun y3 =>
 brn (Ty.eqb (.arr 4 (.int .u64)) y0.1.1 y1.1.1)
  (brn (@I.eqb .i64 y0.1.2.1 y1.1.2.1)
   (brn (Ty.eqb (.arr 4 (.int .u64)) y2.1.1 y3.1.1)
    (brn (@I.eqb .i64 y2.1.2.1 y3.1.2.1)
     (optF (none) (pontagelaw23_awake ((), ())) fun y4 =>
     some ((y4.1.1, ()), ()))
     (some ((false, ()), ())))
    (some ((false, ()), ())))
   (some ((false, ()), ())))
  (some ((false, ()), ()))

/-- pontage/pontageref1.Min -/
noncomputable def pontageref1_Min (x : (⟨[.pl (.sl (.int .i64)), .pl (.sl (.int .i64))], []⟩ : Tm).D) : Option (⟨[.pl (.sl (.int .i64))], []⟩ : Tm).D :=
 let a : List (I .i64) := x.1.1
 let b : List (I .i64) := x.1.2.1
 optF (none) (pontageref1_Cmp ((a, (b, ())), ())) fun y0 =>
 brn (@I.ltb .i64 (I.of .i64 0) y0.1.1)
  (some ((b, ()), ()))
  (some ((a, ()), ()))

/-- pontage/pontageref23.tip -/
noncomputable def pontageref23_tip (x : (⟨[.pl (.cons (.int .u64) (.cons (.int .u64) (.cons (.int .u64) (.cons (.arr 4 (.int .u64)) (.cons (.int .u64) (.cons (.arr 4 (.int .u64)) (.cons (.arr 4 (.int .u64)) (.cons (.int .u64) (.cons (.sl (.int .u8)) .nil))))))))), .pl (.arr 4 (.int .u64))], []⟩ : Tm).D) : Option (⟨[.pl (.sl (.int .i64))], []⟩ : Tm).D :=
 let a : (I .u64) × (I .u64) × (I .u64) × ((I .u64) × (I .u64) × (I .u64) × (I .u64) × Unit) × (I .u64) × ((I .u64) × (I .u64) × (I .u64) × (I .u64) × Unit) × ((I .u64) × (I .u64) × (I .u64) × (I .u64) × Unit) × (I .u64) × (List (I .u8)) × Unit := x.1.1
 let b : (I .u64) × (I .u64) × (I .u64) × (I .u64) × Unit := x.1.2.1
 optF (none) (pontageref1_FromUint256 ((a.2.2.2.2.2.2.1, ()), ())) fun y0 =>
 optF (none) (pontageref1_FromUint256 ((a.2.2.2.2.2.1, ()), ())) fun y1 =>
 optF (none) (pontageref1_FromUint256 ((b, ()), ())) fun y2 =>
 optF (none) (pontageref1_Sub ((y1.1.1, (y2.1.1, ())), ())) fun y3 =>
 optF (none) (pontageref1_Min ((y0.1.1, (y3.1.1, ())), ())) fun y4 =>
 some ((y4.1.1, ()), ())

/-- pontage/pontageref23.GasPrice -/
noncomputable def pontageref23_GasPrice (x : (⟨[.pl (.cons (.int .u64) (.cons (.int .u64) (.cons (.int .u64) (.cons (.arr 4 (.int .u64)) (.cons (.int .u64) (.cons (.arr 4 (.int .u64)) (.cons (.arr 4 (.int .u64)) (.cons (.int .u64) (.cons (.sl (.int .u8)) .nil))))))))), .pl (.arr 4 (.int .u64))], []⟩ : Tm).D) : Option (⟨[.pl (.arr 4 (.int .u64)), .pl (.int .i64)], []⟩ : Tm).D :=
 let a : (I .u64) × (I .u64) × (I .u64) × ((I .u64) × (I .u64) × (I .u64) × (I .u64) × Unit) × (I .u64) × ((I .u64) × (I .u64) × (I .u64) × (I .u64) × Unit) × ((I .u64) × (I .u64) × (I .u64) × (I .u64) × Unit) × (I .u64) × (List (I .u8)) × Unit := x.1.1
 let b : (I .u64) × (I .u64) × (I .u64) × (I .u64) × Unit := x.1.2.1
 optF (none) (pontageref1_FromUint256 ((a.2.2.2.2.2.1, ()), ())) fun y0 =>
 optF (none) (pontageref1_FromUint256 ((b, ()), ())) fun y1 =>
 optF (none) (pontageref1_Cmp ((y0.1.1, (y1.1.1, ())), ())) fun y2 =>
 brn (@I.ltb .i64 y2.1.1 (I.of .i64 0))
  (some ((((I.of .u64 0), ((I.of .u64 0), ((I.of .u64 0), ((I.of .u64 0), ())))), ((I.of .i64 12), ())), ()))
  (optF (none) (pontageref1_FromUint256 ((b, ()), ())) fun y3 =>
  optF (none) (pontageref23_tip ((a, (b, ())), ())) fun y4 =>
  optF (none) (pontageref1_Add ((y3.1.1, (y4.1.1, ())), ())) fun y5 =>
  optF (none) (pontageref1_Checked ((y5.1.1, ()), ())) fun y6 =>
  some ((y6.1.1, (y6.1.2.1, ())), ()))

/-- pontage/uint256.SaturatingMul -/
noncomputable def uint256_SaturatingMul (x : (⟨[.pl (.arr 4 (.int .u64)), .pl (.arr 4 (.int .u64))], []⟩ : Tm).D) : Option (⟨[.pl (.arr 4 (.int .u64))], []⟩ : Tm).D :=
 let a : (I .u64) × (I .u64) × (I .u64) × (I .u64) × Unit := x.1.1
 let b : (I .u64) × (I .u64) × (I .u64) × (I .u64) × Unit := x.1.2.1
 optF (none) (uint256_Mul ((a, (b, ())), ())) fun y0 =>
 brn (@I.eqb .i64 y0.1.2.1 (I.of .i64 0))
  (some ((y0.1.1, ()), ()))
  (optF (none) (uint256_maxValue ((), ())) fun y1 =>
  some ((y1.1.1, ()), ()))

/-- pontage/txfee.Covers -/
noncomputable def txfee_Covers (x : (⟨[.pl (.cons (.int .u64) (.cons (.int .u64) (.cons (.int .u64) (.cons (.arr 4 (.int .u64)) (.cons (.int .u64) (.cons (.arr 4 (.int .u64)) (.cons (.arr 4 (.int .u64)) (.cons (.int .u64) (.cons (.sl (.int .u8)) .nil))))))))), .pl (.arr 4 (.int .u64)), .pl (.arr 4 (.int .u64))], []⟩ : Tm).D) : Option (⟨[.pl .bool], []⟩ : Tm).D :=
 let a : (I .u64) × (I .u64) × (I .u64) × ((I .u64) × (I .u64) × (I .u64) × (I .u64) × Unit) × (I .u64) × ((I .u64) × (I .u64) × (I .u64) × (I .u64) × Unit) × ((I .u64) × (I .u64) × (I .u64) × (I .u64) × Unit) × (I .u64) × (List (I .u8)) × Unit := x.1.1
 let b : (I .u64) × (I .u64) × (I .u64) × (I .u64) × Unit := x.1.2.1
 let c : (I .u64) × (I .u64) × (I .u64) × (I .u64) × Unit := x.1.2.2.1
 optF (none) (uint256_FromUint64 ((a.2.2.2.2.1, ()), ())) fun y0 =>
 optF (none) (uint256_Mul ((y0.1.1, (b, ())), ())) fun y1 =>
 brn (@I.neb .i64 y1.1.2.1 (I.of .i64 0))
  (some ((false, ()), ()))
  (optF (none) (uint256_Add ((y1.1.1, (a.2.2.2.1, ())), ())) fun y2 =>
  brn (@I.eqb .i64 y2.1.2.1 (I.of .i64 0))
   (optF (none) (uint256_Cmp ((c, (y2.1.1, ())), ())) fun y3 =>
   some (((@I.leb .i64 (I.of .i64 0) y3.1.1), ()), ()))
   (some ((false, ()), ())))

/-- pontage/pontageref23.Covers -/
noncomputable def pontageref23_Covers (x : (⟨[.pl (.cons (.int .u64) (.cons (.int .u64) (.cons (.int .u64) (.cons (.arr 4 (.int .u64)) (.cons (.int .u64) (.cons (.arr 4 (.int .u64)) (.cons (.arr 4 (.int .u64)) (.cons (.int .u64) (.cons (.sl (.int .u8)) .nil))))))))), .pl (.arr 4 (.int .u64)), .pl (.arr 4 (.int .u64))], []⟩ : Tm).D) : Option (⟨[.pl .bool], []⟩ : Tm).D :=
 let a : (I .u64) × (I .u64) × (I .u64) × ((I .u64) × (I .u64) × (I .u64) × (I .u64) × Unit) × (I .u64) × ((I .u64) × (I .u64) × (I .u64) × (I .u64) × Unit) × ((I .u64) × (I .u64) × (I .u64) × (I .u64) × Unit) × (I .u64) × (List (I .u8)) × Unit := x.1.1
 let b : (I .u64) × (I .u64) × (I .u64) × (I .u64) × Unit := x.1.2.1
 let c : (I .u64) × (I .u64) × (I .u64) × (I .u64) × Unit := x.1.2.2.1
 optF (none) (pontageref1_FromUint64 ((a.2.2.2.2.1, ()), ())) fun y0 =>
 optF (none) (pontageref1_FromUint256 ((b, ()), ())) fun y1 =>
 optF (none) (pontageref1_Mul ((y0.1.1, (y1.1.1, ())), ())) fun y2 =>
 optF (none) (pontageref1_FromUint256 ((a.2.2.2.1, ()), ())) fun y3 =>
 optF (none) (pontageref1_Add ((y2.1.1, (y3.1.1, ())), ())) fun y4 =>
 optF (none) (pontageref1_FromUint256 ((c, ()), ())) fun y5 =>
 optF (none) (pontageref1_Cmp ((y5.1.1, (y4.1.1, ())), ())) fun y6 =>
 some (((@I.leb .i64 (I.of .i64 0) y6.1.1), ()), ())

/-- pontage/pontagelaw23.TxFeeGasPrice -/
noncomputable def pontagelaw23_TxFeeGasPrice (x : (⟨[.pl (.cons (.int .u64) (.cons (.int .u64) (.cons (.int .u64) (.cons (.arr 4 (.int .u64)) (.cons (.int .u64) (.cons (.arr 4 (.int .u64)) (.cons (.arr 4 (.int .u64)) (.cons (.int .u64) (.cons (.sl (.int .u8)) .nil))))))))), .pl (.arr 4 (.int .u64)), .pl (.arr 4 (.int .u64)), .pl (.cons (.int .u64) (.cons (.int .u64) (.cons (.int .u64) (.cons (.int .u64) (.cons (.int .u64) (.cons (.int .u64) (.cons (.int .i64) (.cons (.sl (.int .i64)) .nil)))))))), .pl (.int .u64)], []⟩ : Tm).D) : Option (⟨[.pl .bool], []⟩ : Tm).D :=
 let a : (I .u64) × (I .u64) × (I .u64) × ((I .u64) × (I .u64) × (I .u64) × (I .u64) × Unit) × (I .u64) × ((I .u64) × (I .u64) × (I .u64) × (I .u64) × Unit) × ((I .u64) × (I .u64) × (I .u64) × (I .u64) × Unit) × (I .u64) × (List (I .u8)) × Unit := x.1.1
 let b : (I .u64) × (I .u64) × (I .u64) × (I .u64) × Unit := x.1.2.1
 let c : (I .u64) × (I .u64) × (I .u64) × (I .u64) × Unit := x.1.2.2.1
 let d : (I .u64) × (I .u64) × (I .u64) × (I .u64) × (I .u64) × (I .u64) × (I .i64) × (List (I .i64)) × Unit := x.1.2.2.2.1
 let e : I .u64 := x.1.2.2.2.2.1
 jn (fun (x0 : (((I .u64) × Unit) × (((I .u64) × ((I .u64) × ((I .u64) × (((I .u64) × ((I .u64) × ((I .u64) × ((I .u64) × Unit)))) × ((I .u64) × (((I .u64) × ((I .u64) × ((I .u64) × ((I .u64) × Unit)))) × (((I .u64) × ((I .u64) × ((I .u64) × ((I .u64) × Unit)))) × ((I .u64) × ((List (I .u8)) × Unit))))))))) × (((I .u64) × ((I .u64) × ((I .u64) × ((I .u64) × Unit)))) × (((I .u64) × ((I .u64) × ((I .u64) × ((I .u64) × Unit)))) × (((I .u64) × ((I .u64) × ((I .u64) × ((I .u64) × ((I .u64) × ((I .u64) × ((I .i64) × ((List (I .i64)) × Unit)))))))) × Unit)))))) =>
   optF (none) (pontagelaw23_build ((x0.2.2.2.2.1, ()), ())) fun y1 =>
   optF (none) (txfee_GasPrice ((x0.2.1, (x0.2.2.1, ())), ())) fun y2 =>
   optF (none) (pontageref23_GasPrice ((x0.2.1, (x0.2.2.1, ())), ())) fun y3 =>
   optF (none) (txfee_GasPrice ((y1.1.1, (y1.1.2.1, ())), ())) fun y4 =>
   optF (none) (pontageref23_GasPrice ((y1.1.1, (y1.1.2.1, ())), ())) fun y5 =>
   jn (fun (x6 : (((I .u64) × Unit) × (((I .u64) × ((I .u64) × ((I .u64) × (((I .u64) × ((I .u64) × ((I .u64) × ((I .u64) × Unit)))) × ((I .u64) × (((I .u64) × ((I .u64) × ((I .u64) × ((I .u64) × Unit)))) × (((I .u64) × ((I .u64) × ((I .u64) × ((I .u64) × Unit)))) × ((I .u64) × ((List (I .u8)) × Unit))))))))) × (((I .u64) × ((I .u64) × ((I .u64) × ((I .u64) × Unit)))) × (((I .u64) × ((I .u64) × ((I .u64) × ((I .u64) × Unit)))) × (((I .u64) × ((I .u64) × ((I .u64) × (((I .u64) × ((I .u64) × ((I .u64) × ((I .u64) × Unit)))) × ((I .u64) × (((I .u64) × ((I .u64) × ((I .u64) × ((I .u64) × Unit)))) × (((I .u64) × ((I .u64) × ((I .u64) × ((I .u64) × Unit)))) × ((I .u64) × ((List (I .u8)) × Unit))))))))) × (((I .u64) × ((I .u64) × ((I .u64) × ((I .u64) × Unit)))) × Unit))))))) =>
     optF (none) (uint256_SaturatingMul (((x6.2.2.2.2.1.2.2.2.2.1, ((I.of .u64 0), ((I.of .u64 0), ((I.of .u64 0), ())))), (x6.2.2.2.2.2.1, ())), ())) fun y7 =>
     optF (none) (uint256_SaturatingAdd ((y7.1.1, (x6.2.2.2.2.1.2.2.2.1, ())), ())) fun y8 =>
     optF (none) (uint256_SaturatingSub ((y8.1.1, (((I.of .u64 1), ((I.of .u64 0), ((I.of .u64 0), ((I.of .u64 0), ())))), ())), ())) fun y9 =>
     iter (none) (fun x10 =>
       brn (@I.ltb .i64 x10.1.2.1 (I.of .i64 4))
        (brn (@inB .i64 x10.1.2.1 4)
         (optF (.done (none)) (txfee_Covers ((x10.2.2.2.1, (x10.2.2.2.2.1, ((@Arr.sel ((I .u64) × ((I .u64) × ((I .u64) × ((I .u64) × Unit)))) ((I.of .u64 0), ((I.of .u64 0), ((I.of .u64 0), ((I.of .u64 0), ())))) 4 x10.1.1 (@I.nat .i64 x10.1.2.1)), ()))), ())) fun y11 =>
         optF (.done (none)) (pontageref23_Covers ((x10.2.2.2.1, (x10.2.2.2.2.1, ((@Arr.sel ((I .u64) × ((I .u64) × ((I .u64) × ((I .u64) × Unit)))) ((I.of .u64 0), ((I.of .u64 0), ((I.of .u64 0), ((I.of .u64 0), ())))) 4 x10.1.1 (@I.nat .i64 x10.1.2.1)), ()))), ())) fun y12 =>
         brn (bnot (Ty.eqb .bool y11.1.1 y12.1.1))
          (.done (some ((false, ()), ())))
          (optF (.done (none)) (txfee_Covers ((x10.2.1, (x10.2.2.1, ((@Arr.sel ((I .u64) × ((I .u64) × ((I .u64) × ((I .u64) × Unit)))) ((I.of .u64 0), ((I.of .u64 0), ((I.of .u64 0), ((I.of .u64 0), ())))) 4 x10.1.1 (@I.nat .i64 x10.1.2.1)), ()))), ())) fun y13 =>
          optF (.done (none)) (pontageref23_Covers ((x10.2.1, (x10.2.2.1, ((@Arr.sel ((I .u64) × ((I .u64) × ((I .u64) × ((I .u64) × Unit)))) ((I.of .u64 0), ((I.of .u64 0), ((I.of .u64 0), ((I.of .u64 0), ())))) 4 x10.1.1 (@I.nat .i64 x10.1.2.1)), ()))), ())) fun y14 =>
          brn (bnot (Ty.eqb .bool y13.1.1 y14.1.1))
           (.done (some ((false, ()), ())))
           (.again ((x10.1.1, ((@I.add .i64 x10.1.2.1 (I.of .i64 1)), ())), (x10.2.1, (x10.2.2.1, (x10.2.2.2.1, (x10.2.2.2.2.1, ()))))))))
         (.done (none)))
        (.done (optF (none) (pontagelaw23_awake ((), ())) fun y11 =>
        some ((y11.1.1, ()), ()))))
     K0 (((x6.2.2.2.1, (y8.1.1, (y9.1.1, ((x6.1.1, ((I.of .u64 0), ((I.of .u64 0), ((I.of .u64 0), ())))), ())))), ((I.of .i64 0), ())), (x6.2.1, (x6.2.2.1, (x6.2.2.2.2.1, (x6.2.2.2.2.2.1, ())))))) fun j6 =>
   brn (bnot (Ty.eqb (.arr 4 (.int .u64)) y2.1.1 y3.1.1))
    (some ((false, ()), ()))
    (brn (@I.neb .i64 y2.1.2.1 y3.1.2.1)
     (some ((false, ()), ()))
     (brn (bnot (Ty.eqb (.arr 4 (.int .u64)) y4.1.1 y5.1.1))
      (some ((false, ()), ()))
      (brn (@I.neb .i64 y4.1.2.1 y5.1.2.1)
       (some ((false, ()), ()))
       (j6 ((x0.1.1, ()), (x0.2.1, (x0.2.2.1, (x0.2.2.2.1, (y1.1.1, (y5.1.1, ()))))))))))) fun j0 =>
 jn (fun (x1 : (((I .u64) × (Bool × Unit)) × (((I .u64) × ((I .u64) × ((I .u64) × (((I .u64) × ((I .u64) × ((I .u64) × ((I .u64) × Unit)))) × ((I .u64) × (((I .u64) × ((I .u64) × ((I .u64) × ((I .u64) × Unit)))) × (((I .u64) × ((I .u64) × ((I .u64) × ((I .u64) × Unit)))) × ((I .u64) × ((List (I .u8)) × Unit))))))))) × (((I .u64) × ((I .u64) × ((I .u64) × ((I .u64) × Unit)))) × (((I .u64) × ((I .u64) × ((I .u64) × ((I .u64) × Unit)))) × (((I .u64) × ((I .u64) × ((I .u64) × ((I .u64) × ((I .u64) × ((I .u64) × ((I .i64) × ((List (I .i64)) × Unit)))))))) × Unit)))))) =>
   brn x1.1.2.1
    (optF (none) (pontagelaw23_awake ((), ())) fun y2 =>
    some ((y2.1.1, ()), ()))
    (j0 ((x1.1.1, ()), (x1.2.1, (x1.2.2.1, (x1.2.2.2.1, (x1.2.2.2.2.1, ()))))))) fun j1 =>
 brn (@I.ltb .i64 (I.of .i64 20) (I.ofNat .i64 (@lenL (I .i64) d.2.2.2.2.2.2.2.1)))
  (j1 ((e, (true, ())), (a, (b, (c, (d, ()))))))
  (j1 ((e, ((@I.ltb .i64 (I.of .i64 600) (I.ofNat .i64 (@lenL (I .u8) a.2.2.2.2.2.2.2.2.1))), ())), (a, (b, (c, (d, ()))))))

end Sym

/- The given functions as plain functions, as the printer told them. -/
namespace Sym
open Go

/-- pontage/int256.New -/
noncomputable def int256_New (x : (⟨[.pl .bool, .pl (.arr 4 (.int .u64))], []⟩ : Tm).D) : Option (⟨[.pl (.cons .bool (.cons (.arr 4 (.int .u64)) .nil))], []⟩ : Tm).D :=
 let a : Bool := x.1.1
 let b : (I .u64) × (I .u64) × (I .u64) × (I .u64) × Unit := x.1.2.1
 brn a
  (some ((((bnot (Ty.eqb (.arr 4 (.int .u64)) b ((I.of .u64 0), ((I.of .u64 0), ((I.of .u64 0), ((I.of .u64 0), ())))))), (b, ())), ()), ()))
  (some (((false, (b, ())), ()), ()))

/-- pontage/int256.Valid -/
noncomputable def int256_Valid (x : (⟨[.pl (.cons .bool (.cons (.arr 4 (.int .u64)) .nil))], []⟩ : Tm).D) : Option (⟨[.pl .bool], []⟩ : Tm).D :=
 let a : (Bool) × ((I .u64) × (I .u64) × (I .u64) × (I .u64) × Unit) × Unit := x.1.1
 brn (bnot a.1)
  (some ((true, ()), ()))
  (some (((bnot (Ty.eqb (.arr 4 (.int .u64)) a.2.1 ((I.of .u64 0), ((I.of .u64 0), ((I.of .u64 0), ((I.of .u64 0), ())))))), ()), ()))

/-- pontage/int256.DivFloor -/
noncomputable def int256_DivFloor (x : (⟨[.pl (.cons .bool (.cons (.arr 4 (.int .u64)) .nil)), .pl (.arr 4 (.int .u64))], []⟩ : Tm).D) : Option (⟨[.pl (.cons .bool (.cons (.arr 4 (.int .u64)) .nil)), .pl (.int .i64)], []⟩ : Tm).D :=
 let a : (Bool) × ((I .u64) × (I .u64) × (I .u64) × (I .u64) × Unit) × Unit := x.1.1
 let b : (I .u64) × (I .u64) × (I .u64) × (I .u64) × Unit := x.1.2.1
 optF (none) (int256_Valid ((a, ()), ())) fun y0 =>
 brn (bnot y0.1.1)
  (some (((false, (((I.of .u64 0), ((I.of .u64 0), ((I.of .u64 0), ((I.of .u64 0), ())))), ())), ((I.of .i64 2), ())), ()))
  (optF (none) (muldiv_DivMod ((a.2.1, (b, ())), ())) fun y1 =>
  brn (@I.neb .i64 y1.1.2.2.1 (I.of .i64 0))
   (some (((false, (((I.of .u64 0), ((I.of .u64 0), ((I.of .u64 0), ((I.of .u64 0), ())))), ())), (y1.1.2.2.1, ())), ()))
   (jn (fun (x2 : ((Bool × Unit) × ((Bool × (((I .u64) × ((I .u64) × ((I .u64) × ((I .u64) × Unit)))) × Unit)) × ((Bool × (((I .u64) × ((I .u64) × ((I .u64) × ((I .u64) × Unit)))) × Unit)) × (((I .u64) × ((I .u64) × ((I .u64) × ((I .u64) × Unit)))) × Unit))))) =>
     brn x2.1.1
      (optF (none) (uint256_FromUint64 (((I.of .u64 1), ()), ())) fun y3 =>
      optF (none) (uint256_Add ((x2.2.2.2.1, (y3.1.1, ())), ())) fun y4 =>
      optF (none) (int256_New ((x2.2.1.1, (y4.1.1, ())), ())) fun y5 =>
      some ((y5.1.1, ((I.of .i64 0), ())), ()))
      (optF (none) (int256_New ((x2.2.1.1, (x2.2.2.2.1, ())), ())) fun y3 =>
      some ((y3.1.1, ((I.of .i64 0), ())), ()))) fun j2 =>
   brn a.1
    (j2 (((bnot (Ty.eqb (.arr 4 (.int .u64)) y1.1.2.1 ((I.of .u64 0), ((I.of .u64 0), ((I.of .u64 0), ((I.of .u64 0), ())))))), ()), (a, ((false, (((I.of .u64 0), ((I.of .u64 0), ((I.of .u64 0), ((I.of .u64 0), ())))), ())), (y1.1.1, ())))))
    (j2 ((false, ()), (a, ((false, (((I.of .u64 0), ((I.of .u64 0), ((I.of .u64 0), ((I.of .u64 0), ())))), ())), (y1.1.1, ())))))))

/-- pontage/pontageref3.Valid -/
noncomputable def pontageref3_Valid (x : (⟨[.pl (.cons .bool (.cons (.arr 4 (.int .u64)) .nil))], []⟩ : Tm).D) : Option (⟨[.pl .bool], []⟩ : Tm).D :=
 let a : (Bool) × ((I .u64) × (I .u64) × (I .u64) × (I .u64) × Unit) × Unit := x.1.1
 brn a.1
  (optF (none) (pontageref1_IsZero ((a.2.1, ()), ())) fun y0 =>
  some (((bnot y0.1.1), ()), ()))
  (some ((true, ()), ()))

/-- pontage/pontageref3.Checked -/
noncomputable def pontageref3_Checked (x : (⟨[.pl (.cons .bool (.cons (.sl (.int .i64)) .nil))], []⟩ : Tm).D) : Option (⟨[.pl (.cons .bool (.cons (.arr 4 (.int .u64)) .nil)), .pl (.int .i64)], []⟩ : Tm).D :=
 let a : (Bool) × (List (I .i64)) × Unit := x.1.1
 optF (none) (pontageref1_Checked ((a.2.1, ()), ())) fun y0 =>
 brn (@I.neb .i64 y0.1.2.1 (I.of .i64 0))
  (some (((false, (((I.of .u64 0), ((I.of .u64 0), ((I.of .u64 0), ((I.of .u64 0), ())))), ())), (y0.1.2.1, ())), ()))
  (some (((a.1, (y0.1.1, ())), ((I.of .i64 0), ())), ()))

/-- pontage/pontageref3.sign -/
noncomputable def pontageref3_sign (x : (⟨[.pl .bool, .pl (.sl (.int .i64))], []⟩ : Tm).D) : Option (⟨[.pl (.cons .bool (.cons (.sl (.int .i64)) .nil))], []⟩ : Tm).D :=
 let a : Bool := x.1.1
 let b : List (I .i64) := x.1.2.1
 brn a
  (some ((((@I.ltb .i64 (I.of .i64 0) (I.ofNat .i64 (@lenL (I .i64) b))), (b, ())), ()), ()))
  (some (((false, (b, ())), ()), ()))

/-- pontage/pontageref3.DivFloor -/
noncomputable def pontageref3_DivFloor (x : (⟨[.pl (.cons .bool (.cons (.sl (.int .i64)) .nil)), .pl (.sl (.int .i64))], []⟩ : Tm).D) : Option (⟨[.pl (.cons .bool (.cons (.sl (.int .i64)) .nil))], []⟩ : Tm).D :=
 let a : (Bool) × (List (I .i64)) × Unit := x.1.1
 let b : List (I .i64) := x.1.2.1
 optF (none) (pontageref1_Div ((a.2.1, (b, ())), ())) fun y0 =>
 jn (fun (x1 : (((List (I .i64)) × (Bool × Unit)) × ((Bool × ((List (I .i64)) × Unit)) × ((Bool × ((List (I .i64)) × Unit)) × Unit)))) =>
   brn x1.1.2.1
    (optF (none) (pontageref1_FromUint64 (((I.of .u64 1), ()), ())) fun y2 =>
    optF (none) (pontageref1_Add ((x1.1.1, (y2.1.1, ())), ())) fun y3 =>
    optF (none) (pontageref3_sign ((x1.2.1.1, (y3.1.1, ())), ())) fun y4 =>
    some ((y4.1.1, ()), ()))
    (optF (none) (pontageref3_sign ((x1.2.1.1, (x1.1.1, ())), ())) fun y2 =>
    some ((y2.1.1, ()), ()))) fun j1 =>
 brn a.1
  (j1 ((y0.1.1, ((@I.ltb .i64 (I.of .i64 0) (I.ofNat .i64 (@lenL (I .i64) y0.1.2.1))), ())), (a, ((false, ([], ())), ()))))
  (j1 ((y0.1.1, (false, ())), (a, ((false, ([], ())), ()))))

/-- pontage/pontageref3.FromInt256 -/
noncomputable def pontageref3_FromInt256 (x : (⟨[.pl (.cons .bool (.cons (.arr 4 (.int .u64)) .nil))], []⟩ : Tm).D) : Option (⟨[.pl (.cons .bool (.cons (.sl (.int .i64)) .nil))], []⟩ : Tm).D :=
 let a : (Bool) × ((I .u64) × (I .u64) × (I .u64) × (I .u64) × Unit) × Unit := x.1.1
 optF (none) (pontageref1_FromUint256 ((a.2.1, ()), ())) fun y0 =>
 optF (none) (pontageref3_sign ((a.1, (y0.1.1, ())), ())) fun y1 =>
 some ((y1.1.1, ()), ())

/-- pontage/pontageref3.DivFloor256 -/
noncomputable def pontageref3_DivFloor256 (x : (⟨[.pl (.cons .bool (.cons (.arr 4 (.int .u64)) .nil)), .pl (.arr 4 (.int .u64))], []⟩ : Tm).D) : Option (⟨[.pl (.cons .bool (.cons (.arr 4 (.int .u64)) .nil)), .pl (.int .i64)], []⟩ : Tm).D :=
 let a : (Bool) × ((I .u64) × (I .u64) × (I .u64) × (I .u64) × Unit) × Unit := x.1.1
 let b : (I .u64) × (I .u64) × (I .u64) × (I .u64) × Unit := x.1.2.1
 optF (none) (pontageref3_Valid ((a, ()), ())) fun y0 =>
 brn (bnot y0.1.1)
  (some (((false, (((I.of .u64 0), ((I.of .u64 0), ((I.of .u64 0), ((I.of .u64 0), ())))), ())), ((I.of .i64 2), ())), ()))
  (optF (none) (pontageref1_IsZero ((b, ()), ())) fun y1 =>
  brn y1.1.1
   (some (((false, (((I.of .u64 0), ((I.of .u64 0), ((I.of .u64 0), ((I.of .u64 0), ())))), ())), ((I.of .i64 5), ())), ()))
   (optF (none) (pontageref3_FromInt256 ((a, ()), ())) fun y2 =>
   optF (none) (pontageref1_FromUint256 ((b, ()), ())) fun y3 =>
   optF (none) (pontageref3_DivFloor ((y2.1.1, (y3.1.1, ())), ())) fun y4 =>
   optF (none) (pontageref3_Checked ((y4.1.1, ()), ())) fun y5 =>
   some ((y5.1.1, (y5.1.2.1, ())), ())))

/-- pontage/int256.AddClamped -/
noncomputable def int256_AddClamped (x : (⟨[.pl (.arr 4 (.int .u64)), .pl (.cons .bool (.cons (.arr 4 (.int .u64)) .nil))], []⟩ : Tm).D) : Option (⟨[.pl (.arr 4 (.int .u64)), .pl (.int .i64)], []⟩ : Tm).D :=
 let a : (I .u64) × (I .u64) × (I .u64) × (I .u64) × Unit := x.1.1
 let b : (Bool) × ((I .u64) × (I .u64) × (I .u64) × (I .u64) × Unit) × Unit := x.1.2.1
 optF (none) (int256_Valid ((b, ()), ())) fun y0 =>
 brn (bnot y0.1.1)
  (some ((((I.of .u64 0), ((I.of .u64 0), ((I.of .u64 0), ((I.of .u64 0), ())))), ((I.of .i64 2), ())), ()))
  (brn b.1
   (optF (none) (uint256_SaturatingSub ((a, (b.2.1, ())), ())) fun y1 =>
   some ((y1.1.1, ((I.of .i64 0), ())), ()))
   (optF (none) (uint256_Add ((a, (b.2.1, ())), ())) fun y1 =>
   some ((y1.1.1, (y1.1.2.1, ())), ())))

/-- pontage/int256.FromInt64 -/
noncomputable def int256_FromInt64 (x : (⟨[.pl (.int .i64)], []⟩ : Tm).D) : Option (⟨[.pl (.cons .bool (.cons (.arr 4 (.int .u64)) .nil))], []⟩ : Tm).D :=
 let a : I .i64 := x.1.1
 brn (@I.ltb .i64 a (I.of .i64 0))
  (optF (none) (uint256_FromUint64 (((@I.add .u64 (I.conv (k := .i64) .u64 (@I.neg .i64 (@I.add .i64 a (I.of .i64 1)))) (I.of .u64 1)), ()), ())) fun y0 =>
  some (((true, (y0.1.1, ())), ()), ()))
  (optF (none) (uint256_FromUint64 (((I.conv (k := .i64) .u64 a), ()), ())) fun y0 =>
  some (((false, (y0.1.1, ())), ()), ()))

/-- pontage/pontagelaw3.awake -/
noncomputable def pontagelaw3_awake (x : (⟨[], []⟩ : Tm).D) : Option (⟨[.pl .bool], []⟩ : Tm).D :=
 optF (none) (int256_FromInt64 (((I.of .i64 (-7)), ()), ())) fun y0 =>
 optF (none) (int256_DivFloor ((y0.1.1, (((I.of .u64 2), ((I.of .u64 0), ((I.of .u64 0), ((I.of .u64 0), ())))), ())), ())) fun y1 =>
 optF (none) (int256_FromInt64 (((I.of .i64 (-5)), ()), ())) fun y2 =>
 optF (none) (int256_AddClamped ((((I.of .u64 3), ((I.of .u64 0), ((I.of .u64 0), ((I.of .u64 0), ())))), (y2.1.1, ())), ())) fun y3 =>
 optF (none) (int256_FromInt64 (((I.of .i64 (-4)), ()), ())) fun y4 =>
 brn (Ty.eqb (.cons .bool (.cons (.arr 4 (.int .u64)) .nil)) y1.1.1 y4.1.1)
  (brn (@I.eqb .i64 y1.1.2.1 (I.of .i64 0))
   (brn (Ty.eqb (.arr 4 (.int .u64)) y3.1.1 ((I.of .u64 0), ((I.of .u64 0), ((I.of .u64 0), ((I.of .u64 0), ())))))
    (brn (@I.eqb .i64 y3.1.2.1 (I.of .i64 0))
     (optF (none) (int256_Valid (((true, (((I.of .u64 0), ((I.of .u64 0), ((I.of .u64 0), ((I.of .u64 0), ())))), ())), ()), ())) fun y5 =>
     brn (bnot y5.1.1)
      (optF (none) (int256_FromInt64 (((I.of .i64 (-4)), ()), ())) fun y6 =>
      some (((Ty.eqb (.cons .bool (.cons (.arr 4 (.int .u64)) .nil)) y6.1.1 (true, (((I.of .u64 4), ((I.of .u64 0), ((I.of .u64 0), ((I.of .u64 0), ())))), ()))), ()), ()))
      (some ((false, ()), ())))
     (some ((false, ()), ())))
    (some ((false, ()), ())))
   (some ((false, ()), ())))
  (some ((false, ()), ()))

/-- pontage/pontagelaw3.Int256DivFloor -/
noncomputable def pontagelaw3_Int256DivFloor (x : (⟨[.pl (.cons .bool (.cons (.arr 4 (.int .u64)) .nil)), .pl (.arr 4 (.int .u64)), .pl (.int .u64)], []⟩ : Tm).D) : Option (⟨[.pl .bool], []⟩ : Tm).D :=
 let a : (Bool) × ((I .u64) × (I .u64) × (I .u64) × (I .u64) × Unit) × Unit := x.1.1
 let b : (I .u64) × (I .u64) × (I .u64) × (I .u64) × Unit := x.1.2.1
 let c : I .u64 := x.1.2.2.1
 optF (none) (int256_DivFloor ((a, (b, ())), ())) fun y0 =>
 optF (none) (pontageref3_DivFloor256 ((a, (b, ())), ())) fun y1 =>
 optF (none) (int256_DivFloor ((a, ((c, ((I.of .u64 0), ((I.of .u64 0), ((I.of .u64 0), ())))), ())), ())) fun y2 =>
 optF (none) (pontageref3_DivFloor256 ((a, ((c, ((I.of .u64 0), ((I.of .u64 0), ((I.of .u64 0), ())))), ())), ())) fun y3 =>
 brn (Ty.eqb (.cons .bool (.cons (.arr 4 (.int .u64)) .nil)) y0.1.1 y1.1.1)
  (brn (@I.eqb .i64 y0.1.2.1 y1.1.2.1)
   (brn (Ty.eqb (.cons .bool (.cons (.arr 4 (.int .u64)) .nil)) y2.1.1 y3.1.1)
    (brn (@I.eqb .i64 y2.1.2.1 y3.1.2.1)
     (optF (none) (pontagelaw3_awake ((), ())) fun y4 =>
     some ((y4.1.1, ()), ()))
     (some ((false, ()), ())))
    (some ((false, ()), ())))
   (some ((false, ()), ())))
  (some ((false, ()), ()))

/-- pontage/pontageref3.Add -/
noncomputable def pontageref3_Add (x : (⟨[.pl (.cons .bool (.cons (.sl (.int .i64)) .nil)), .pl (.cons .bool (.cons (.sl (.int .i64)) .nil))], []⟩ : Tm).D) : Option (⟨[.pl (.cons .bool (.cons (.sl (.int .i64)) .nil))], []⟩ : Tm).D :=
 let a : (Bool) × (List (I .i64)) × Unit := x.1.1
 let b : (Bool) × (List (I .i64)) × Unit := x.1.2.1
 brn (Ty.eqb .bool a.1 b.1)
  (optF (none) (pontageref1_Add ((a.2.1, (b.2.1, ())), ())) fun y0 =>
  optF (none) (pontageref3_sign ((a.1, (y0.1.1, ())), ())) fun y1 =>
  some ((y1.1.1, ()), ()))
  (optF (none) (pontageref1_Cmp ((a.2.1, (b.2.1, ())), ())) fun y0 =>
  brn (@I.leb .i64 (I.of .i64 0) y0.1.1)
   (optF (none) (pontageref1_Sub ((a.2.1, (b.2.1, ())), ())) fun y1 =>
   optF (none) (pontageref3_sign ((a.1, (y1.1.1, ())), ())) fun y2 =>
   some ((y2.1.1, ()), ()))
   (optF (none) (pontageref1_Sub ((b.2.1, (a.2.1, ())), ())) fun y1 =>
   optF (none) (pontageref3_sign ((b.1, (y1.1.1, ())), ())) fun y2 =>
   some ((y2.1.1, ()), ())))

/-- pontage/pontageref3.AddClamped -/
noncomputable def pontageref3_AddClamped (x : (⟨[.pl (.arr 4 (.int .u64)), .pl (.cons .bool (.cons (.arr 4 (.int .u64)) .nil))], []⟩ : Tm).D) : Option (⟨[.pl (.arr 4 (.int .u64)), .pl (.int .i64)], []⟩ : Tm).D :=
 let a : (I .u64) × (I .u64) × (I .u64) × (I .u64) × Unit := x.1.1
 let b : (Bool) × ((I .u64) × (I .u64) × (I .u64) × (I .u64) × Unit) × Unit := x.1.2.1
 optF (none) (pontageref3_Valid ((b, ()), ())) fun y0 =>
 brn (bnot y0.1.1)
  (some ((((I.of .u64 0), ((I.of .u64 0), ((I.of .u64 0), ((I.of .u64 0), ())))), ((I.of .i64 2), ())), ()))
  (optF (none) (pontageref1_FromUint256 ((a, ()), ())) fun y1 =>
  optF (none) (pontageref3_sign ((false, (y1.1.1, ())), ())) fun y2 =>
  optF (none) (pontageref3_FromInt256 ((b, ()), ())) fun y3 =>
  optF (none) (pontageref3_Add ((y2.1.1, (y3.1.1, ())), ())) fun y4 =>
  brn y4.1.1.1
   (some ((((I.of .u64 0), ((I.of .u64 0), ((I.of .u64 0), ((I.of .u64 0), ())))), ((I.of .i64 0), ())), ()))
   (optF (none) (pontageref1_Checked ((y4.1.1.2.1, ()), ())) fun y5 =>
   some ((y5.1.1, (y5.1.2.1, ())), ())))

/-- pontage/int256.Diff -/
noncomputable def int256_Diff (x : (⟨[.pl (.arr 4 (.int .u64)), .pl (.arr 4 (.int .u64))], []⟩ : Tm).D) : Option (⟨[.pl (.cons .bool (.cons (.arr 4 (.int .u64)) .nil))], []⟩ : Tm).D :=
 let a : (I .u64) × (I .u64) × (I .u64) × (I .u64) × Unit := x.1.1
 let b : (I .u64) × (I .u64) × (I .u64) × (I .u64) × Unit := x.1.2.1
 optF (none) (uint256_Cmp ((a, (b, ())), ())) fun y0 =>
 brn (@I.leb .i64 (I.of .i64 0) y0.1.1)
  (optF (none) (uint256_SaturatingSub ((a, (b, ())), ())) fun y1 =>
  optF (none) (int256_New ((false, (y1.1.1, ())), ())) fun y2 =>
  some ((y2.1.1, ()), ()))
  (optF (none) (uint256_SaturatingSub ((b, (a, ())), ())) fun y1 =>
  optF (none) (int256_New ((true, (y1.1.1, ())), ())) fun y2 =>
  some ((y2.1.1, ()), ()))

/-- pontage/pontageref3.Diff -/
noncomputable def pontageref3_Diff (x : (⟨[.pl (.arr 4 (.int .u64)), .pl (.arr 4 (.int .u64))], []⟩ : Tm).D) : Option (⟨[.pl (.cons .bool (.cons (.arr 4 (.int .u64)) .nil))], []⟩ : Tm).D :=
 let a : (I .u64) × (I .u64) × (I .u64) × (I .u64) × Unit := x.1.1
 let b : (I .u64) × (I .u64) × (I .u64) × (I .u64) × Unit := x.1.2.1
 optF (none) (pontageref1_FromUint256 ((a, ()), ())) fun y0 =>
 optF (none) (pontageref3_sign ((false, (y0.1.1, ())), ())) fun y1 =>
 optF (none) (pontageref1_FromUint256 ((b, ()), ())) fun y2 =>
 optF (none) (pontageref3_sign ((true, (y2.1.1, ())), ())) fun y3 =>
 optF (none) (pontageref3_Add ((y1.1.1, (y3.1.1, ())), ())) fun y4 =>
 optF (none) (pontageref3_Checked ((y4.1.1, ()), ())) fun y5 =>
 some ((y5.1.1, ()), ())

/-- pontage/pontagelaw3.Int256DiffAddClamped -/
noncomputable def pontagelaw3_Int256DiffAddClamped (x : (⟨[.pl (.arr 4 (.int .u64)), .pl (.arr 4 (.int .u64)), .pl (.cons .bool (.cons (.arr 4 (.int .u64)) .nil))], []⟩ : Tm).D) : Option (⟨[.pl .bool], []⟩ : Tm).D :=
 let a : (I .u64) × (I .u64) × (I .u64) × (I .u64) × Unit := x.1.1
 let b : (I .u64) × (I .u64) × (I .u64) × (I .u64) × Unit := x.1.2.1
 let c : (Bool) × ((I .u64) × (I .u64) × (I .u64) × (I .u64) × Unit) × Unit := x.1.2.2.1
 optF (none) (int256_AddClamped ((a, (c, ())), ())) fun y0 =>
 optF (none) (pontageref3_AddClamped ((a, (c, ())), ())) fun y1 =>
 optF (none) (int256_Diff ((a, (b, ())), ())) fun y2 =>
 optF (none) (pontageref3_Diff ((a, (b, ())), ())) fun y3 =>
 brn (Ty.eqb (.cons .bool (.cons (.arr 4 (.int .u64)) .nil)) y2.1.1 y3.1.1)
  (brn (Ty.eqb (.arr 4 (.int .u64)) y0.1.1 y1.1.1)
   (brn (@I.eqb .i64 y0.1.2.1 y1.1.2.1)
    (optF (none) (pontagelaw3_awake ((), ())) fun y4 =>
    some ((y4.1.1, ()), ()))
    (some ((false, ()), ())))
   (some ((false, ()), ())))
  (some ((false, ()), ()))

/-- pontage/int256.Neg -/
noncomputable def int256_Neg (x : (⟨[.pl (.cons .bool (.cons (.arr 4 (.int .u64)) .nil))], []⟩ : Tm).D) : Option (⟨[.pl (.cons .bool (.cons (.arr 4 (.int .u64)) .nil)), .pl (.int .i64)], []⟩ : Tm).D :=
 let a : (Bool) × ((I .u64) × (I .u64) × (I .u64) × (I .u64) × Unit) × Unit := x.1.1
 optF (none) (int256_Valid ((a, ()), ())) fun y0 =>
 brn (bnot y0.1.1)
  (some (((false, (((I.of .u64 0), ((I.of .u64 0), ((I.of .u64 0), ((I.of .u64 0), ())))), ())), ((I.of .i64 2), ())), ()))
  (optF (none) (int256_New (((bnot a.1), (a.2.1, ())), ())) fun y1 =>
  some ((y1.1.1, ((I.of .i64 0), ())), ()))

/-- pontage/int256.Cmp -/
noncomputable def int256_Cmp (x : (⟨[.pl (.cons .bool (.cons (.arr 4 (.int .u64)) .nil)), .pl (.cons .bool (.cons (.arr 4 (.int .u64)) .nil))], []⟩ : Tm).D) : Option (⟨[.pl (.int .i64)], []⟩ : Tm).D :=
 let a : (Bool) × ((I .u64) × (I .u64) × (I .u64) × (I .u64) × Unit) × Unit := x.1.1
 let b : (Bool) × ((I .u64) × (I .u64) × (I .u64) × (I .u64) × Unit) × Unit := x.1.2.1
 jn (fun (x0 : ((Bool × Unit) × ((Bool × (((I .u64) × ((I .u64) × ((I .u64) × ((I .u64) × Unit)))) × Unit)) × ((Bool × (((I .u64) × ((I .u64) × ((I .u64) × ((I .u64) × Unit)))) × Unit)) × Unit)))) =>
   brn x0.1.1
    (some (((I.of .i64 0), ()), ()))
    (jn (fun (x1 : ((Bool × Unit) × ((Bool × (((I .u64) × ((I .u64) × ((I .u64) × ((I .u64) × Unit)))) × Unit)) × ((Bool × (((I .u64) × ((I .u64) × ((I .u64) × ((I .u64) × Unit)))) × Unit)) × Unit)))) =>
      brn x1.1.1
       (optF (none) (uint256_Cmp ((x1.2.2.1.2.1, (x1.2.1.2.1, ())), ())) fun y2 =>
       some ((y2.1.1, ()), ()))
       (brn x1.2.1.1
        (some (((I.of .i64 (-1)), ()), ()))
        (brn x1.2.2.1.1
         (some (((I.of .i64 1), ()), ()))
         (optF (none) (uint256_Cmp ((x1.2.1.2.1, (x1.2.2.1.2.1, ())), ())) fun y2 =>
         some ((y2.1.1, ()), ()))))) fun j1 =>
    brn x0.2.1.1
     (j1 ((x0.2.2.1.1, ()), (x0.2.1, (x0.2.2.1, ()))))
     (j1 ((false, ()), (x0.2.1, (x0.2.2.1, ())))))) fun j0 =>
 optF (none) (int256_Valid ((a, ()), ())) fun y1 =>
 brn (bnot y1.1.1)
  (j0 ((true, ()), (a, (b, ()))))
  (optF (none) (int256_Valid ((b, ()), ())) fun y2 =>
  j0 (((bnot y2.1.1), ()), (a, (b, ()))))

/-- pontage/pontageref3.Negate -/
noncomputable def pontageref3_Negate (x : (⟨[.pl (.cons .bool (.cons (.sl (.int .i64)) .nil))], []⟩ : Tm).D) : Option (⟨[.pl (.cons .bool (.cons (.sl (.int .i64)) .nil))], []⟩ : Tm).D :=
 let a : (Bool) × (List (I .i64)) × Unit := x.1.1
 optF (none) (pontageref3_sign (((bnot a.1), (a.2.1, ())), ())) fun y0 =>
 some ((y0.1.1, ()), ())

/-- pontage/pontageref3.Cmp -/
noncomputable def pontageref3_Cmp (x : (⟨[.pl (.cons .bool (.cons (.arr 4 (.int .u64)) .nil)), .pl (.cons .bool (.cons (.arr 4 (.int .u64)) .nil))], []⟩ : Tm).D) : Option (⟨[.pl (.int .i64)], []⟩ : Tm).D :=
 let a : (Bool) × ((I .u64) × (I .u64) × (I .u64) × (I .u64) × Unit) × Unit := x.1.1
 let b : (Bool) × ((I .u64) × (I .u64) × (I .u64) × (I .u64) × Unit) × Unit := x.1.2.1
 jn (fun (x0 : (Unit × ((Bool × (((I .u64) × ((I .u64) × ((I .u64) × ((I .u64) × Unit)))) × Unit)) × ((Bool × (((I .u64) × ((I .u64) × ((I .u64) × ((I .u64) × Unit)))) × Unit)) × Unit)))) =>
   optF (none) (pontageref3_FromInt256 ((x0.2.1, ()), ())) fun y1 =>
   optF (none) (pontageref3_FromInt256 ((x0.2.2.1, ()), ())) fun y2 =>
   optF (none) (pontageref3_Negate ((y2.1.1, ()), ())) fun y3 =>
   optF (none) (pontageref3_Add ((y1.1.1, (y3.1.1, ())), ())) fun y4 =>
   brn y4.1.1.1
    (some (((I.of .i64 (-1)), ()), ()))
    (brn (@I.ltb .i64 (I.of .i64 0) (I.ofNat .i64 (@lenL (I .i64) y4.1.1.2.1)))
     (some (((I.of .i64 1), ()), ()))
     (some (((I.of .i64 0), ()), ())))) fun j0 =>
 optF (none) (pontageref3_Valid ((a, ()), ())) fun y1 =>
 brn (bnot y1.1.1)
  (some (((I.of .i64 0), ()), ()))
  (optF (none) (pontageref3_Valid ((b, ()), ())) fun y2 =>
  brn (bnot y2.1.1)
   (some (((I.of .i64 0), ()), ()))
   (j0 ((), (a, (b, ())))))

/-- pontage/pontageref3.FromInt64 -/
noncomputable def pontageref3_FromInt64 (x : (⟨[.pl (.int .i64)], []⟩ : Tm).D) : Option (⟨[.pl (.cons .bool (.cons (.arr 4 (.int .u64)) .nil))], []⟩ : Tm).D :=
 let a : I .i64 := x.1.1
 brn (@I.ltb .i64 a (I.of .i64 0))
  (some (((true, (((@I.add .u64 (I.conv (k := .i64) .u64 (@I.neg .i64 (@I.add .i64 a (I.of .i64 1)))) (I.of .u64 1)), ((I.of .u64 0), ((I.of .u64 0), ((I.of .u64 0), ())))), ())), ()), ()))
  (some (((false, (((I.conv (k := .i64) .u64 a), ((I.of .u64 0), ((I.of .u64 0), ((I.of .u64 0), ())))), ())), ()), ()))

/-- pontage/pontagelaw3.Int256Order -/
noncomputable def pontagelaw3_Int256Order (x : (⟨[.pl (.cons .bool (.cons (.arr 4 (.int .u64)) .nil)), .pl (.cons .bool (.cons (.arr 4 (.int .u64)) .nil)), .pl (.int .i64), .pl .bool], []⟩ : Tm).D) : Option (⟨[.pl .bool], []⟩ : Tm).D :=
 let a : (Bool) × ((I .u64) × (I .u64) × (I .u64) × (I .u64) × Unit) × Unit := x.1.1
 let b : (Bool) × ((I .u64) × (I .u64) × (I .u64) × (I .u64) × Unit) × Unit := x.1.2.1
 let c : I .i64 := x.1.2.2.1
 let d : Bool := x.1.2.2.2.1
 optF (none) (int256_Neg ((a, ()), ())) fun y0 =>
 jn (fun (x1 : (((I .i64) × (Bool × Unit)) × ((Bool × (((I .u64) × ((I .u64) × ((I .u64) × ((I .u64) × Unit)))) × Unit)) × ((Bool × (((I .u64) × ((I .u64) × ((I .u64) × ((I .u64) × Unit)))) × Unit)) × Unit)))) =>
   optF (none) (int256_New ((x1.1.2.1, (x1.2.2.1.2.1, ())), ())) fun y2 =>
   optF (none) (int256_Valid ((x1.2.1, ()), ())) fun y3 =>
   optF (none) (pontageref3_Valid ((x1.2.1, ()), ())) fun y4 =>
   brn (Ty.eqb .bool y3.1.1 y4.1.1)
    (optF (none) (int256_Cmp ((x1.2.1, (x1.2.2.1, ())), ())) fun y5 =>
    optF (none) (pontageref3_Cmp ((x1.2.1, (x1.2.2.1, ())), ())) fun y6 =>
    brn (@I.eqb .i64 y5.1.1 y6.1.1)
     (optF (none) (int256_FromInt64 ((x1.1.1, ()), ())) fun y7 =>
     optF (none) (pontageref3_FromInt64 ((x1.1.1, ()), ())) fun y8 =>
     brn (Ty.eqb (.cons .bool (.cons (.arr 4 (.int .u64)) .nil)) y7.1.1 y8.1.1)
      (optF (none) (int256_Valid ((y2.1.1, ()), ())) fun y9 =>
      brn y9.1.1
       (brn (Ty.eqb (.arr 4 (.int .u64)) y2.1.1.2.1 x1.2.2.1.2.1)
        (brn x1.1.2.1
         (brn (Ty.eqb .bool y2.1.1.1 (bnot (Ty.eqb (.arr 4 (.int .u64)) x1.2.2.1.2.1 ((I.of .u64 0), ((I.of .u64 0), ((I.of .u64 0), ((I.of .u64 0), ())))))))
          (optF (none) (pontagelaw3_awake ((), ())) fun y10 =>
          some ((y10.1.1, ()), ()))
          (some ((false, ()), ())))
         (brn (Ty.eqb .bool y2.1.1.1 false)
          (optF (none) (pontagelaw3_awake ((), ())) fun y10 =>
          some ((y10.1.1, ()), ()))
          (some ((false, ()), ()))))
        (some ((false, ()), ())))
       (some ((false, ()), ())))
      (some ((false, ()), ())))
     (some ((false, ()), ())))
    (some ((false, ()), ()))) fun j1 =>
 optF (none) (pontageref3_Valid ((a, ()), ())) fun y2 =>
 brn y2.1.1
  (jn (fun (x3 : (((I .i64) × (Bool × ((I .i64) × Unit))) × ((Bool × (((I .u64) × ((I .u64) × ((I .u64) × ((I .u64) × Unit)))) × Unit)) × ((Bool × (((I .u64) × ((I .u64) × ((I .u64) × ((I .u64) × Unit)))) × Unit)) × ((Bool × (((I .u64) × ((I .u64) × ((I .u64) × ((I .u64) × Unit)))) × Unit)) × ((Bool × (((I .u64) × ((I .u64) × ((I .u64) × ((I .u64) × Unit)))) × Unit)) × Unit)))))) =>
    brn (bnot (Ty.eqb (.cons .bool (.cons (.arr 4 (.int .u64)) .nil)) x3.2.2.2.1 x3.2.2.2.2.1))
     (some ((false, ()), ()))
     (brn (@I.neb .i64 x3.1.2.2.1 (I.of .i64 0))
      (some ((false, ()), ()))
      (j1 ((x3.1.1, (x3.1.2.1, ())), (x3.2.1, (x3.2.2.1, ())))))) fun j3 =>
  brn (bnot a.1)
   (j3 ((c, (d, (y0.1.2.1, ()))), (a, (b, (y0.1.1, (((bnot (Ty.eqb (.arr 4 (.int .u64)) a.2.1 ((I.of .u64 0), ((I.of .u64 0), ((I.of .u64 0), ((I.of .u64 0), ())))))), (a.2.1, ())), ()))))))
   (j3 ((c, (d, (y0.1.2.1, ()))), (a, (b, (y0.1.1, ((false, (a.2.1, ())), ())))))))
  (brn (@I.neb .i64 y0.1.2.1 (I.of .i64 2))
   (some ((false, ()), ()))
   (brn (bnot (Ty.eqb (.cons .bool (.cons (.arr 4 (.int .u64)) .nil)) y0.1.1 (false, (((I.of .u64 0), ((I.of .u64 0), ((I.of .u64 0), ((I.of .u64 0), ())))), ()))))
    (some ((false, ()), ()))
    (j1 ((c, (d, ())), (a, (b, ()))))))

/-- pontage/int256.Add -/
noncomputable def int256_Add (x : (⟨[.pl (.cons .bool (.cons (.arr 4 (.int .u64)) .nil)), .pl (.cons .bool (.cons (.arr 4 (.int .u64)) .nil))], []⟩ : Tm).D) : Option (⟨[.pl (.cons .bool (.cons (.arr 4 (.int .u64)) .nil)), .pl (.int .i64)], []⟩ : Tm).D :=
 let a : (Bool) × ((I .u64) × (I .u64) × (I .u64) × (I .u64) × Unit) × Unit := x.1.1
 let b : (Bool) × ((I .u64) × (I .u64) × (I .u64) × (I .u64) × Unit) × Unit := x.1.2.1
 jn (fun (x0 : (Unit × ((Bool × (((I .u64) × ((I .u64) × ((I .u64) × ((I .u64) × Unit)))) × Unit)) × ((Bool × (((I .u64) × ((I .u64) × ((I .u64) × ((I .u64) × Unit)))) × Unit)) × ((Bool × (((I .u64) × ((I .u64) × ((I .u64) × ((I .u64) × Unit)))) × Unit)) × Unit))))) =>
   brn (Ty.eqb .bool x0.2.1.1 x0.2.2.1.1)
    (optF (none) (uint256_Add ((x0.2.1.2.1, (x0.2.2.1.2.1, ())), ())) fun y1 =>
    brn (@I.neb .i64 y1.1.2.1 (I.of .i64 0))
     (some (((false, (((I.of .u64 0), ((I.of .u64 0), ((I.of .u64 0), ((I.of .u64 0), ())))), ())), (y1.1.2.1, ())), ()))
     (optF (none) (int256_New ((x0.2.1.1, (y1.1.1, ())), ())) fun y2 =>
     some ((y2.1.1, ((I.of .i64 0), ())), ())))
    (brn x0.2.1.1
     (optF (none) (int256_Diff ((x0.2.2.1.2.1, (x0.2.1.2.1, ())), ())) fun y1 =>
     some ((y1.1.1, ((I.of .i64 0), ())), ()))
     (optF (none) (int256_Diff ((x0.2.1.2.1, (x0.2.2.1.2.1, ())), ())) fun y1 =>
     some ((y1.1.1, ((I.of .i64 0), ())), ())))) fun j0 =>
 optF (none) (int256_Valid ((a, ()), ())) fun y1 =>
 brn (bnot y1.1.1)
  (some (((false, (((I.of .u64 0), ((I.of .u64 0), ((I.of .u64 0), ((I.of .u64 0), ())))), ())), ((I.of .i64 2), ())), ()))
  (optF (none) (int256_Valid ((b, ()), ())) fun y2 =>
  brn (bnot y2.1.1)
   (some (((false, (((I.of .u64 0), ((I.of .u64 0), ((I.of .u64 0), ((I.of .u64 0), ())))), ())), ((I.of .i64 2), ())), ()))
   (j0 ((), (a, (b, ((false, (((I.of .u64 0), ((I.of .u64 0), ((I.of .u64 0), ((I.of .u64 0), ())))), ())), ()))))))

/-- pontage/pontageref3.Mul -/
noncomputable def pontageref3_Mul (x : (⟨[.pl (.cons .bool (.cons (.sl (.int .i64)) .nil)), .pl (.cons .bool (.cons (.sl (.int .i64)) .nil))], []⟩ : Tm).D) : Option (⟨[.pl (.cons .bool (.cons (.sl (.int .i64)) .nil))], []⟩ : Tm).D :=
 let a : (Bool) × (List (I .i64)) × Unit := x.1.1
 let b : (Bool) × (List (I .i64)) × Unit := x.1.2.1
 optF (none) (pontageref1_Mul ((a.2.1, (b.2.1, ())), ())) fun y0 =>
 optF (none) (pontageref3_sign (((bnot (Ty.eqb .bool a.1 b.1)), (y0.1.1, ())), ())) fun y1 =>
 some ((y1.1.1, ()), ())

/-- pontage/pontageref3.Binary -/
noncomputable def pontageref3_Binary (x : (⟨[.pl (.int .i64), .pl (.cons .bool (.cons (.arr 4 (.int .u64)) .nil)), .pl (.cons .bool (.cons (.arr 4 (.int .u64)) .nil))], []⟩ : Tm).D) : Option (⟨[.pl (.cons .bool (.cons (.arr 4 (.int .u64)) .nil)), .pl (.int .i64)], []⟩ : Tm).D :=
 let a : I .i64 := x.1.1
 let b : (Bool) × ((I .u64) × (I .u64) × (I .u64) × (I .u64) × Unit) × Unit := x.1.2.1
 let c : (Bool) × ((I .u64) × (I .u64) × (I .u64) × (I .u64) × Unit) × Unit := x.1.2.2.1
 jn (fun (x0 : (((I .i64) × Unit) × ((Bool × (((I .u64) × ((I .u64) × ((I .u64) × ((I .u64) × Unit)))) × Unit)) × ((Bool × (((I .u64) × ((I .u64) × ((I .u64) × ((I .u64) × Unit)))) × Unit)) × ((Bool × (((I .u64) × ((I .u64) × ((I .u64) × ((I .u64) × Unit)))) × Unit)) × Unit))))) =>
   optF (none) (pontageref3_FromInt256 ((x0.2.1, ()), ())) fun y1 =>
   optF (none) (pontageref3_FromInt256 ((x0.2.2.1, ()), ())) fun y2 =>
   brn (@I.eqb .i64 x0.1.1 (I.of .i64 3))
    (optF (none) (pontageref3_Mul ((y1.1.1, (y2.1.1, ())), ())) fun y3 =>
    optF (none) (pontageref3_Checked ((y3.1.1, ()), ())) fun y4 =>
    some ((y4.1.1, (y4.1.2.1, ())), ()))
    (jn (fun (x3 : (Unit × ((Bool × (((I .u64) × ((I .u64) × ((I .u64) × ((I .u64) × Unit)))) × Unit)) × ((Bool × ((List (I .i64)) × Unit)) × ((Bool × ((List (I .i64)) × Unit)) × Unit))))) =>
      optF (none) (pontageref3_Add ((x3.2.2.1, (x3.2.2.2.1, ())), ())) fun y4 =>
      optF (none) (pontageref3_Checked ((y4.1.1, ()), ())) fun y5 =>
      some ((y5.1.1, (y5.1.2.1, ())), ())) fun j3 =>
    brn (@I.eqb .i64 x0.1.1 (I.of .i64 2))
     (optF (none) (pontageref3_Negate ((y2.1.1, ()), ())) fun y4 =>
     j3 ((), (x0.2.2.2.1, (y1.1.1, (y4.1.1, ())))))
     (j3 ((), (x0.2.2.2.1, (y1.1.1, (y2.1.1, ()))))))) fun j0 =>
 optF (none) (pontageref3_Valid ((b, ()), ())) fun y1 =>
 brn (bnot y1.1.1)
  (some (((false, (((I.of .u64 0), ((I.of .u64 0), ((I.of .u64 0), ((I.of .u64 0), ())))), ())), ((I.of .i64 2), ())), ()))
  (optF (none) (pontageref3_Valid ((c, ()), ())) fun y2 =>
  brn (bnot y2.1.1)
   (some (((false, (((I.of .u64 0), ((I.of .u64 0), ((I.of .u64 0), ((I.of .u64 0), ())))), ())), ((I.of .i64 2), ())), ()))
   (j0 ((a, ()), (b, (c, ((false, (((I.of .u64 0), ((I.of .u64 0), ((I.of .u64 0), ((I.of .u64 0), ())))), ())), ()))))))

/-- pontage/int256.Sub -/
noncomputable def int256_Sub (x : (⟨[.pl (.cons .bool (.cons (.arr 4 (.int .u64)) .nil)), .pl (.cons .bool (.cons (.arr 4 (.int .u64)) .nil))], []⟩ : Tm).D) : Option (⟨[.pl (.cons .bool (.cons (.arr 4 (.int .u64)) .nil)), .pl (.int .i64)], []⟩ : Tm).D :=
 let a : (Bool) × ((I .u64) × (I .u64) × (I .u64) × (I .u64) × Unit) × Unit := x.1.1
 let b : (Bool) × ((I .u64) × (I .u64) × (I .u64) × (I .u64) × Unit) × Unit := x.1.2.1
 optF (none) (int256_Neg ((b, ()), ())) fun y0 =>
 jn (fun (x1 : (Unit × ((Bool × (((I .u64) × ((I .u64) × ((I .u64) × ((I .u64) × Unit)))) × Unit)) × ((Bool × (((I .u64) × ((I .u64) × ((I .u64) × ((I .u64) × Unit)))) × Unit)) × ((Bool × (((I .u64) × ((I .u64) × ((I .u64) × ((I .u64) × Unit)))) × Unit)) × Unit))))) =>
   optF (none) (int256_Add ((x1.2.1, (x1.2.2.2.1, ())), ())) fun y2 =>
   some ((y2.1.1, (y2.1.2.1, ())), ())) fun j1 =>
 brn (@I.neb .i64 y0.1.2.1 (I.of .i64 0))
  (some (((false, (((I.of .u64 0), ((I.of .u64 0), ((I.of .u64 0), ((I.of .u64 0), ())))), ())), ((I.of .i64 2), ())), ()))
  (optF (none) (int256_Valid ((a, ()), ())) fun y2 =>
  brn (bnot y2.1.1)
   (some (((false, (((I.of .u64 0), ((I.of .u64 0), ((I.of .u64 0), ((I.of .u64 0), ())))), ())), ((I.of .i64 2), ())), ()))
   (j1 ((), (a, ((false, (((I.of .u64 0), ((I.of .u64 0), ((I.of .u64 0), ((I.of .u64 0), ())))), ())), (y0.1.1, ()))))))

/-- pontage/int256.Mul -/
noncomputable def int256_Mul (x : (⟨[.pl (.cons .bool (.cons (.arr 4 (.int .u64)) .nil)), .pl (.cons .bool (.cons (.arr 4 (.int .u64)) .nil))], []⟩ : Tm).D) : Option (⟨[.pl (.cons .bool (.cons (.arr 4 (.int .u64)) .nil)), .pl (.int .i64)], []⟩ : Tm).D :=
 let a : (Bool) × ((I .u64) × (I .u64) × (I .u64) × (I .u64) × Unit) × Unit := x.1.1
 let b : (Bool) × ((I .u64) × (I .u64) × (I .u64) × (I .u64) × Unit) × Unit := x.1.2.1
 jn (fun (x0 : (Unit × ((Bool × (((I .u64) × ((I .u64) × ((I .u64) × ((I .u64) × Unit)))) × Unit)) × ((Bool × (((I .u64) × ((I .u64) × ((I .u64) × ((I .u64) × Unit)))) × Unit)) × ((Bool × (((I .u64) × ((I .u64) × ((I .u64) × ((I .u64) × Unit)))) × Unit)) × Unit))))) =>
   optF (none) (uint256_Mul ((x0.2.1.2.1, (x0.2.2.1.2.1, ())), ())) fun y1 =>
   brn (@I.neb .i64 y1.1.2.1 (I.of .i64 0))
    (some (((false, (((I.of .u64 0), ((I.of .u64 0), ((I.of .u64 0), ((I.of .u64 0), ())))), ())), (y1.1.2.1, ())), ()))
    (optF (none) (int256_New (((bnot (Ty.eqb .bool x0.2.1.1 x0.2.2.1.1)), (y1.1.1, ())), ())) fun y2 =>
    some ((y2.1.1, ((I.of .i64 0), ())), ()))) fun j0 =>
 optF (none) (int256_Valid ((a, ()), ())) fun y1 =>
 brn (bnot y1.1.1)
  (some (((false, (((I.of .u64 0), ((I.of .u64 0), ((I.of .u64 0), ((I.of .u64 0), ())))), ())), ((I.of .i64 2), ())), ()))
  (optF (none) (int256_Valid ((b, ()), ())) fun y2 =>
  brn (bnot y2.1.1)
   (some (((false, (((I.of .u64 0), ((I.of .u64 0), ((I.of .u64 0), ((I.of .u64 0), ())))), ())), ((I.of .i64 2), ())), ()))
   (j0 ((), (a, (b, ((false, (((I.of .u64 0), ((I.of .u64 0), ((I.of .u64 0), ((I.of .u64 0), ())))), ())), ()))))))

/-- pontage/pontagelaw3.Int256Arithmetic -/
noncomputable def pontagelaw3_Int256Arithmetic (x : (⟨[.pl (.cons .bool (.cons (.arr 4 (.int .u64)) .nil)), .pl (.cons .bool (.cons (.arr 4 (.int .u64)) .nil))], []⟩ : Tm).D) : Option (⟨[.pl .bool], []⟩ : Tm).D :=
 let a : (Bool) × ((I .u64) × (I .u64) × (I .u64) × (I .u64) × Unit) × Unit := x.1.1
 let b : (Bool) × ((I .u64) × (I .u64) × (I .u64) × (I .u64) × Unit) × Unit := x.1.2.1
 optF (none) (int256_Add ((a, (b, ())), ())) fun y0 =>
 optF (none) (pontageref3_Binary (((I.of .i64 1), (a, (b, ()))), ())) fun y1 =>
 optF (none) (int256_Sub ((a, (b, ())), ())) fun y2 =>
 optF (none) (pontageref3_Binary (((I.of .i64 2), (a, (b, ()))), ())) fun y3 =>
 optF (none) (int256_Mul ((a, (b, ())), ())) fun y4 =>
 optF (none) (pontageref3_Binary (((I.of .i64 3), (a, (b, ()))), ())) fun y5 =>
 brn (Ty.eqb (.cons .bool (.cons (.arr 4 (.int .u64)) .nil)) y0.1.1 y1.1.1)
  (brn (@I.eqb .i64 y0.1.2.1 y1.1.2.1)
   (brn (Ty.eqb (.cons .bool (.cons (.arr 4 (.int .u64)) .nil)) y2.1.1 y3.1.1)
    (brn (@I.eqb .i64 y2.1.2.1 y3.1.2.1)
     (brn (Ty.eqb (.cons .bool (.cons (.arr 4 (.int .u64)) .nil)) y4.1.1 y5.1.1)
      (brn (@I.eqb .i64 y4.1.2.1 y5.1.2.1)
       (optF (none) (pontagelaw3_awake ((), ())) fun y6 =>
       some ((y6.1.1, ()), ()))
       (some ((false, ()), ())))
      (some ((false, ()), ())))
     (some ((false, ()), ())))
    (some ((false, ()), ())))
   (some ((false, ()), ())))
  (some ((false, ()), ()))

/-- pontage/pontagelaw3.Int256Boundaries -/
noncomputable def pontagelaw3_Int256Boundaries (x : (⟨[.pl (.int .u64), .pl (.int .u64), .pl (.int .i64), .pl (.int .i64), .pl .bool, .pl .bool], []⟩ : Tm).D) : Option (⟨[.pl .bool], []⟩ : Tm).D :=
 let a : I .u64 := x.1.1
 let b : I .u64 := x.1.2.1
 let c : I .i64 := x.1.2.2.1
 let d : I .i64 := x.1.2.2.2.1
 let e : Bool := x.1.2.2.2.2.1
 let f : Bool := x.1.2.2.2.2.2.1
 optF (none) (pontagelaw0_EdgeUint256 ((a, (b, (c, ()))), ())) fun y0 =>
 optF (none) (int256_New ((e, (y0.1.1, ())), ())) fun y1 =>
 optF (none) (pontagelaw0_EdgeUint256 ((b, (a, (d, ()))), ())) fun y2 =>
 optF (none) (int256_New ((f, (y2.1.1, ())), ())) fun y3 =>
 optF (none) (int256_Add ((y1.1.1, (y3.1.1, ())), ())) fun y4 =>
 optF (none) (pontageref3_Binary (((I.of .i64 1), (y1.1.1, (y3.1.1, ()))), ())) fun y5 =>
 optF (none) (int256_Sub ((y1.1.1, (y3.1.1, ())), ())) fun y6 =>
 optF (none) (pontageref3_Binary (((I.of .i64 2), (y1.1.1, (y3.1.1, ()))), ())) fun y7 =>
 optF (none) (int256_Mul ((y1.1.1, (y3.1.1, ())), ())) fun y8 =>
 optF (none) (pontageref3_Binary (((I.of .i64 3), (y1.1.1, (y3.1.1, ()))), ())) fun y9 =>
 optF (none) (pontagelaw0_EdgeUint256 ((a, (a, (d, ()))), ())) fun y10 =>
 optF (none) (int256_AddClamped ((y10.1.1, (y3.1.1, ())), ())) fun y11 =>
 optF (none) (pontagelaw0_EdgeUint256 ((a, (a, (d, ()))), ())) fun y12 =>
 optF (none) (pontageref3_AddClamped ((y12.1.1, (y3.1.1, ())), ())) fun y13 =>
 brn (Ty.eqb (.cons .bool (.cons (.arr 4 (.int .u64)) .nil)) y4.1.1 y5.1.1)
  (brn (@I.eqb .i64 y4.1.2.1 y5.1.2.1)
   (brn (Ty.eqb (.cons .bool (.cons (.arr 4 (.int .u64)) .nil)) y6.1.1 y7.1.1)
    (brn (@I.eqb .i64 y6.1.2.1 y7.1.2.1)
     (brn (Ty.eqb (.cons .bool (.cons (.arr 4 (.int .u64)) .nil)) y8.1.1 y9.1.1)
      (brn (@I.eqb .i64 y8.1.2.1 y9.1.2.1)
       (brn (Ty.eqb (.arr 4 (.int .u64)) y11.1.1 y13.1.1)
        (brn (@I.eqb .i64 y11.1.2.1 y13.1.2.1)
         (optF (none) (pontagelaw3_awake ((), ())) fun y14 =>
         some ((y14.1.1, ()), ()))
         (some ((false, ()), ())))
        (some ((false, ()), ())))
       (some ((false, ()), ())))
      (some ((false, ()), ())))
     (some ((false, ()), ())))
    (some ((false, ()), ())))
   (some ((false, ()), ())))
  (some ((false, ()), ()))

/-- pontage/pontagelaw3.Int256Negation -/
noncomputable def pontagelaw3_Int256Negation (x : (⟨[.pl (.cons .bool (.cons (.arr 4 (.int .u64)) .nil)), .pl (.cons .bool (.cons (.arr 4 (.int .u64)) .nil))], []⟩ : Tm).D) : Option (⟨[.pl .bool], []⟩ : Tm).D :=
 let a : (Bool) × ((I .u64) × (I .u64) × (I .u64) × (I .u64) × Unit) × Unit := x.1.1
 let b : (Bool) × ((I .u64) × (I .u64) × (I .u64) × (I .u64) × Unit) × Unit := x.1.2.1
 jn (fun (x0 : (Unit × ((Bool × (((I .u64) × ((I .u64) × ((I .u64) × ((I .u64) × Unit)))) × Unit)) × ((Bool × (((I .u64) × ((I .u64) × ((I .u64) × ((I .u64) × Unit)))) × Unit)) × Unit)))) =>
   optF (none) (int256_Neg ((x0.2.1, ()), ())) fun y1 =>
   optF (none) (int256_Neg ((x0.2.2.1, ()), ())) fun y2 =>
   optF (none) (int256_Add ((x0.2.1, (x0.2.2.1, ())), ())) fun y3 =>
   optF (none) (int256_Add ((y1.1.1, (y2.1.1, ())), ())) fun y4 =>
   optF (none) (int256_Mul ((x0.2.1, (x0.2.2.1, ())), ())) fun y5 =>
   optF (none) (int256_Mul ((y1.1.1, (x0.2.2.1, ())), ())) fun y6 =>
   optF (none) (int256_Neg ((y3.1.1, ()), ())) fun y7 =>
   optF (none) (int256_Neg ((y5.1.1, ()), ())) fun y8 =>
   brn (@I.eqb .i64 y1.1.2.1 (I.of .i64 0))
    (brn (@I.eqb .i64 y2.1.2.1 (I.of .i64 0))
     (brn (@I.eqb .i64 y3.1.2.1 y4.1.2.1)
      (brn (@I.eqb .i64 y5.1.2.1 y6.1.2.1)
       (brn (@I.neb .i64 y3.1.2.1 (I.of .i64 0))
        (brn (@I.neb .i64 y5.1.2.1 (I.of .i64 0))
         (optF (none) (int256_Cmp ((y1.1.1, (y2.1.1, ())), ())) fun y9 =>
         optF (none) (int256_Cmp ((x0.2.2.1, (x0.2.1, ())), ())) fun y10 =>
         brn (@I.eqb .i64 y9.1.1 y10.1.1)
          (optF (none) (pontagelaw3_awake ((), ())) fun y11 =>
          some ((y11.1.1, ()), ()))
          (some ((false, ()), ())))
         (brn (Ty.eqb (.cons .bool (.cons (.arr 4 (.int .u64)) .nil)) y6.1.1 y8.1.1)
          (optF (none) (int256_Cmp ((y1.1.1, (y2.1.1, ())), ())) fun y9 =>
          optF (none) (int256_Cmp ((x0.2.2.1, (x0.2.1, ())), ())) fun y10 =>
          brn (@I.eqb .i64 y9.1.1 y10.1.1)
           (optF (none) (pontagelaw3_awake ((), ())) fun y11 =>
           some ((y11.1.1, ()), ()))
           (some ((false, ()), ())))
          (some ((false, ()), ()))))
        (brn (Ty.eqb (.cons .bool (.cons (.arr 4 (.int .u64)) .nil)) y4.1.1 y7.1.1)
         (brn (@I.neb .i64 y5.1.2.1 (I.of .i64 0))
          (optF (none) (int256_Cmp ((y1.1.1, (y2.1.1, ())), ())) fun y9 =>
          optF (none) (int256_Cmp ((x0.2.2.1, (x0.2.1, ())), ())) fun y10 =>
          brn (@I.eqb .i64 y9.1.1 y10.1.1)
           (optF (none) (pontagelaw3_awake ((), ())) fun y11 =>
           some ((y11.1.1, ()), ()))
           (some ((false, ()), ())))
          (brn (Ty.eqb (.cons .bool (.cons (.arr 4 (.int .u64)) .nil)) y6.1.1 y8.1.1)
           (optF (none) (int256_Cmp ((y1.1.1, (y2.1.1, ())), ())) fun y9 =>
           optF (none) (int256_Cmp ((x0.2.2.1, (x0.2.1, ())), ())) fun y10 =>
           brn (@I.eqb .i64 y9.1.1 y10.1.1)
            (optF (none) (pontagelaw3_awake ((), ())) fun y11 =>
            some ((y11.1.1, ()), ()))
            (some ((false, ()), ())))
           (some ((false, ()), ()))))
         (some ((false, ()), ()))))
       (some ((false, ()), ())))
      (some ((false, ()), ())))
     (some ((false, ()), ())))
    (some ((false, ()), ()))) fun j0 =>
 jn (fun (x1 : ((Bool × Unit) × ((Bool × (((I .u64) × ((I .u64) × ((I .u64) × ((I .u64) × Unit)))) × Unit)) × ((Bool × (((I .u64) × ((I .u64) × ((I .u64) × ((I .u64) × Unit)))) × Unit)) × Unit)))) =>
   brn x1.1.1
    (optF (none) (pontagelaw3_awake ((), ())) fun y2 =>
    some ((y2.1.1, ()), ()))
    (j0 ((), (x1.2.1, (x1.2.2.1, ()))))) fun j1 =>
 optF (none) (int256_Valid ((a, ()), ())) fun y2 =>
 brn (bnot y2.1.1)
  (j1 ((true, ()), (a, (b, ()))))
  (optF (none) (int256_Valid ((b, ()), ())) fun y3 =>
  j1 (((bnot y3.1.1), ()), (a, (b, ()))))

/-- pontage/pontagelaw3.Int256Algebra -/
noncomputable def pontagelaw3_Int256Algebra (x : (⟨[.pl (.cons .bool (.cons (.arr 4 (.int .u64)) .nil)), .pl (.cons .bool (.cons (.arr 4 (.int .u64)) .nil)), .pl (.int .u64)], []⟩ : Tm).D) : Option (⟨[.pl .bool], []⟩ : Tm).D :=
 let a : (Bool) × ((I .u64) × (I .u64) × (I .u64) × (I .u64) × Unit) × Unit := x.1.1
 let b : (Bool) × ((I .u64) × (I .u64) × (I .u64) × (I .u64) × Unit) × Unit := x.1.2.1
 let c : I .u64 := x.1.2.2.1
 jn (fun (x0 : (((I .u64) × Unit) × ((Bool × (((I .u64) × ((I .u64) × ((I .u64) × ((I .u64) × Unit)))) × Unit)) × ((Bool × (((I .u64) × ((I .u64) × ((I .u64) × ((I .u64) × Unit)))) × Unit)) × Unit)))) =>
   optF (none) (int256_Sub ((x0.2.1, (x0.2.2.1, ())), ())) fun y1 =>
   jn (fun (x2 : (((I .u64) × Unit) × ((Bool × (((I .u64) × ((I .u64) × ((I .u64) × ((I .u64) × Unit)))) × Unit)) × Unit))) =>
     brn (@I.eqb .u64 x2.1.1 (I.of .u64 0))
      (optF (none) (pontagelaw3_awake ((), ())) fun y3 =>
      some ((y3.1.1, ()), ()))
      (optF (none) (int256_DivFloor ((x2.2.1, ((x2.1.1, ((I.of .u64 0), ((I.of .u64 0), ((I.of .u64 0), ())))), ())), ())) fun y3 =>
      brn (@I.neb .i64 y3.1.2.1 (I.of .i64 0))
       (some ((false, ()), ()))
       (optF (none) (int256_New ((false, ((x2.1.1, ((I.of .u64 0), ((I.of .u64 0), ((I.of .u64 0), ())))), ())), ())) fun y4 =>
       optF (none) (int256_Mul ((y3.1.1, (y4.1.1, ())), ())) fun y5 =>
       brn (@I.neb .i64 y5.1.2.1 (I.of .i64 0))
        (brn x2.2.1.1
         (optF (none) (pontagelaw3_awake ((), ())) fun y6 =>
         some ((y6.1.1, ()), ()))
         (some ((false, ()), ())))
        (optF (none) (int256_Sub ((x2.2.1, (y5.1.1, ())), ())) fun y6 =>
        brn (@I.eqb .i64 y6.1.2.1 (I.of .i64 0))
         (brn (bnot y6.1.1.1)
          (optF (none) (int256_New ((false, ((x2.1.1, ((I.of .u64 0), ((I.of .u64 0), ((I.of .u64 0), ())))), ())), ())) fun y7 =>
          optF (none) (int256_Cmp ((y6.1.1, (y7.1.1, ())), ())) fun y8 =>
          brn (@I.ltb .i64 y8.1.1 (I.of .i64 0))
           (optF (none) (pontagelaw3_awake ((), ())) fun y9 =>
           some ((y9.1.1, ()), ()))
           (some ((false, ()), ())))
          (some ((false, ()), ())))
         (some ((false, ()), ())))))) fun j2 =>
   brn (@I.eqb .i64 y1.1.2.1 (I.of .i64 0))
    (optF (none) (int256_Add ((y1.1.1, (x0.2.2.1, ())), ())) fun y3 =>
    brn (@I.neb .i64 y3.1.2.1 (I.of .i64 0))
     (some ((false, ()), ()))
     (brn (bnot (Ty.eqb (.cons .bool (.cons (.arr 4 (.int .u64)) .nil)) y3.1.1 x0.2.1))
      (some ((false, ()), ()))
      (optF (none) (int256_Cmp ((x0.2.1, (x0.2.2.1, ())), ())) fun y4 =>
      brn (bnot (Ty.eqb .bool (@I.ltb .i64 y4.1.1 (I.of .i64 0)) y1.1.1.1))
       (some ((false, ()), ()))
       (j2 ((x0.1.1, ()), (x0.2.1, ()))))))
    (j2 ((x0.1.1, ()), (x0.2.1, ())))) fun j0 =>
 jn (fun (x1 : (((I .u64) × (Bool × Unit)) × ((Bool × (((I .u64) × ((I .u64) × ((I .u64) × ((I .u64) × Unit)))) × Unit)) × ((Bool × (((I .u64) × ((I .u64) × ((I .u64) × ((I .u64) × Unit)))) × Unit)) × Unit)))) =>
   brn x1.1.2.1
    (optF (none) (pontagelaw3_awake ((), ())) fun y2 =>
    some ((y2.1.1, ()), ()))
    (j0 ((x1.1.1, ()), (x1.2.1, (x1.2.2.1, ()))))) fun j1 =>
 optF (none) (int256_Valid ((a, ()), ())) fun y2 =>
 brn (bnot y2.1.1)
  (j1 ((c, (true, ())), (a, (b, ()))))
  (optF (none) (int256_Valid ((b, ()), ())) fun y3 =>
  j1 ((c, ((bnot y3.1.1), ())), (a, (b, ()))))

end Sym

/- Rules for what a printed function computes. -/
namespace Sym
open Go

/-- The result r has the property T. -/
def Wp {R : Type} (T : R → Prop) (r : R) : Prop := T r

theorem Wp.brn {R : Type} {T : R → Prop} {c : Bool} {t f : R} (h1 : c = true → Wp T t) (h2 : c = false → Wp T f) : Wp T (brn c t f) := by
  cases c
  · exact h2 rfl
  · exact h1 rfl

theorem Wp.brnT {R : Type} {T : R → Prop} {c : Bool} {t f : R} (hc : c = true) (h : Wp T t) : Wp T (Sym.brn c t f) := by subst hc; exact h
theorem Wp.brnF {R : Type} {T : R → Prop} {c : Bool} {t f : R} (hc : c = false) (h : Wp T f) : Wp T (Sym.brn c t f) := by subst hc; exact h

theorem Wp.optF {R Y : Type} {T : R → Prop} {fail : R} {o : Option Y} {k : Y → R} {y : Y} (ho : o = some y) (h : Wp T (k y)) : Wp T (optF fail o k) := by subst ho; exact h

theorem Wp.call {R Y : Type} {T : R → Prop} {fail : R} {o : Option Y} {k : Y → R} {P : Y → Prop} (ho : ∃ y, o = some y ∧ P y) (h : ∀ y, P y → Wp T (k y)) : Wp T (Sym.optF fail o k) := by
  obtain ⟨y, rfl, hp⟩ := ho
  exact h y hp

theorem Wp.jn {X R : Type} {T : R → Prop} {J : X → R} {f : (X → R) → R} (P : X → Prop) (h1 : ∀ x, P x → Wp T (J x)) (h2 : ∀ j : X → R, (∀ x, P x → Wp T (j x)) → Wp T (f j)) : Wp T (jn J f) := h2 J h1

/-- One round. -/
def Rnd {X R : Type} (T : R → Prop) (Inv : X → Prop) (μ : X → Nat) (m : Nat) (s : Stp X R) : Prop :=
  match s with
  | .again y => Inv y ∧ μ y < m
  | .done r => Wp T r

theorem Wp.again {X R : Type} {T : R → Prop} {Inv : X → Prop} {μ : X → Nat} {m : Nat} {y : X} (h1 : Inv y) (h2 : μ y < m) : Wp (Rnd T Inv μ m) (.again y : Stp X R) := ⟨h1, h2⟩
theorem Wp.done {X R : Type} {T : R → Prop} {Inv : X → Prop} {μ : X → Nat} {m : Nat} {r : R} (h : Wp T r) : Wp (Rnd T Inv μ m) (.done r : Stp X R) := h

theorem Wp.iter {X R : Type} {T : R → Prop} {fail : R} {f : X → Stp X R} {x : X} (Inv : X → Prop) (μ : X → Nat) {k : Nat} (h : ∀ x, Inv x → Wp (Rnd T Inv μ (μ x)) (f x)) (hi : Inv x) (hm : μ x < k) : Wp T (iter fail f k x) := by
  induction k generalizing x with
  | zero => omega
  | succ k ih =>
    have h1 := h x hi
    unfold Sym.iter
    cases hf : f x with
    | again y =>
      rw [hf] at h1
      exact ih h1.1 (Nat.lt_of_lt_of_le h1.2 (by omega))
    | done r =>
      rw [hf] at h1
      exact h1

/-- Behind one round. -/
def Nxt {X R : Type} (T : R → Prop) (fail : R) (f : X → Stp X R) (k : Nat) (s : Stp X R) : Prop :=
  match s with
  | .again y => Wp T (Sym.iter fail f k y)
  | .done r => Wp T r

theorem Wp.unroll {X R : Type} {T : R → Prop} {fail : R} {f : X → Stp X R} {x : X} {k : Nat} (h : Wp (Nxt T fail f k) (f x)) : Wp T (Sym.iter fail f (k + 1) x) := by
  unfold Sym.iter
  cases hf : f x with
  | again y => rw [hf] at h; exact h
  | done r => rw [hf] at h; exact h
theorem Wp.next {X R : Type} {T : R → Prop} {fail : R} {f : X → Stp X R} {y : X} {k : Nat} (h : Wp T (Sym.iter fail f k y)) : Wp (Nxt T fail f k) (.again y) := h
theorem Wp.stop {X R : Type} {T : R → Prop} {fail : R} {f : X → Stp X R} {r : R} {k : Nat} (h : Wp T r) : Wp (Nxt T fail f k) (.done r) := h

theorem Wp.some {Y : Type} {T : Y → Prop} {y : Y} (h : T y) : Wp (fun o : Option Y => ∃ y, o = some y ∧ T y) (some y) := ⟨y, rfl, h⟩
theorem Wp.out {R : Type} {T : R → Prop} {r : R} (h : Wp T r) : T r := h

/-! Whole numbers of a kind. -/
theorem I.of_val {k : IntKind} {n : Int} (h : k.min ≤ n ∧ n ≤ k.max) : (I.of k n).val = n := wrap_eq_of_range h

theorem of_u64 {n : Int} (h : 0 ≤ n ∧ n < 18446744073709551616) : (I.of .u64 n).val = n := I.of_val ⟨by simp [IntKind.min, IntKind.signed]; omega, by simp [IntKind.max, IntKind.bits, IntKind.signed]; omega⟩
theorem of_i64 {n : Int} (h : -9223372036854775808 ≤ n ∧ n < 9223372036854775808) : (I.of .i64 n).val = n := I.of_val ⟨by simp [IntKind.min, IntKind.bits, IntKind.signed]; omega, by simp [IntKind.max, IntKind.bits, IntKind.signed]; omega⟩
theorem of_u8 {n : Int} (h : 0 ≤ n ∧ n < 256) : (I.of .u8 n).val = n := I.of_val ⟨by simp [IntKind.min, IntKind.signed]; omega, by simp [IntKind.max, IntKind.bits, IntKind.signed]; omega⟩

theorem u64_range (x : I .u64) : 0 ≤ x.val ∧ x.val < 18446744073709551616 := I_range x
theorem i64_range (x : I .i64) : -9223372036854775808 ≤ x.val ∧ x.val < 9223372036854775808 := by
  have h := x.ok
  have h1 : (2 ^ IntKind.i64.bits : Int) = 18446744073709551616 := by decide
  have h2 : (2 ^ (IntKind.i64.bits - 1) : Int) = 9223372036854775808 := by decide
  have h3 : IntKind.i64.signed = true := rfl
  simp only [IntKind.wrap, h1, h2, h3, Bool.true_and, decide_eq_true_eq] at h
  split at h <;> omega
theorem u8_range (x : I .u8) : 0 ≤ x.val ∧ x.val < 256 := by
  have h := x.ok
  simp only [IntKind.wrap, IntKind.bits, IntKind.signed, Bool.false_and, Bool.false_eq_true, if_false] at h
  omega

theorem iff_ltb {k : IntKind} {a b : I k} : I.ltb a b = true ↔ a.val < b.val := by simp [I.ltb]
theorem iff_leb {k : IntKind} {a b : I k} : I.leb a b = true ↔ a.val ≤ b.val := by simp [I.leb]
theorem iff_eqb {k : IntKind} {a b : I k} : I.eqb a b = true ↔ a.val = b.val := by simp [I.eqb]
theorem iff_neb {k : IntKind} {a b : I k} : I.neb a b = true ↔ a.val ≠ b.val := by simp [I.neb]
theorem niff_ltb {k : IntKind} {a b : I k} : I.ltb a b = false ↔ b.val ≤ a.val := by simp [I.ltb]
theorem niff_leb {k : IntKind} {a b : I k} : I.leb a b = false ↔ b.val < a.val := by simp [I.leb]
theorem niff_eqb {k : IntKind} {a b : I k} : I.eqb a b = false ↔ a.val ≠ b.val := by simp [I.eqb]
theorem niff_neb {k : IntKind} {a b : I k} : I.neb a b = false ↔ a.val = b.val := by simp [I.neb]
theorem iff_nz {k : IntKind} {a : I k} : I.nz a = true ↔ a.val ≠ 0 := by simp [I.nz]
theorem iff_nn {k : IntKind} {a : I k} : I.nn a = true ↔ 0 ≤ a.val := by simp [I.nn]
theorem iff_inB {k : IntKind} {a : I k} {n : Nat} : inB a n = true ↔ 0 ≤ a.val ∧ a.val < n := by simp [inB]
theorem iff_fits {n : Nat} : fitsLen n = true ↔ n ≤ 1073741824 := by simp [fitsLen]

theorem I.eq_of {k : IntKind} {a b : I k} (h : I.eqb a b = true) : a = b := I.ext' (iff_eqb.1 h)
theorem ofNat_i64 {n : Nat} (h : n < 9223372036854775808) : (I.ofNat .i64 n).val = n := of_i64 ⟨by omega, by omega⟩
theorem add_i64 {a b : I .i64} (h : -9223372036854775808 ≤ a.val + b.val ∧ a.val + b.val < 9223372036854775808) : (I.add a b).val = a.val + b.val := of_i64 h
theorem sub_i64 {a b : I .i64} (h : -9223372036854775808 ≤ a.val - b.val ∧ a.val - b.val < 9223372036854775808) : (I.sub a b).val = a.val - b.val := of_i64 h
theorem mul_i64 {a b : I .i64} (h : -9223372036854775808 ≤ a.val * b.val ∧ a.val * b.val < 9223372036854775808) : (I.mul a b).val = a.val * b.val := of_i64 h
theorem rem_i64 {a b : I .i64} (h : 0 ≤ a.val) (h2 : 0 < b.val) : (I.rem a b).val = a.val % b.val := by
  have ha := i64_range a
  have hb := i64_range b
  have e : a.val.tmod b.val = a.val % b.val := Int.tmod_eq_emod_of_nonneg h
  have h3 := Int.emod_nonneg a.val (b := b.val) (by omega)
  have h4 := Int.emod_lt_of_pos a.val h2
  unfold I.rem
  rw [e]
  exact of_i64 ⟨by omega, by omega⟩
theorem quo_i64 {a b : I .i64} (h : 0 ≤ a.val) (h2 : 0 < b.val) : (I.quo a b).val = a.val / b.val := by
  have ha := i64_range a
  have e : a.val.tdiv b.val = a.val / b.val := Int.tdiv_eq_ediv_of_nonneg h
  have h3 : 0 ≤ a.val / b.val := Int.ediv_nonneg h (by omega)
  have h4 : a.val / b.val ≤ a.val := Int.ediv_le_self _ h
  unfold I.quo
  rw [e]
  exact of_i64 ⟨by omega, by omega⟩
theorem add_u64 {a b : I .u64} (h : a.val + b.val < 18446744073709551616) : (I.add a b).val = a.val + b.val := of_u64 ⟨by have := u64_range a; have := u64_range b; omega, h⟩
theorem sub_u64 {a b : I .u64} (h : b.val ≤ a.val) : (I.sub a b).val = a.val - b.val := of_u64 ⟨by omega, by have := u64_range a; have := u64_range b; omega⟩
theorem rem_u64 {a b : I .u64} (h2 : b.val ≠ 0) : (I.rem a b).val = a.val % b.val := by
  have ha := u64_range a
  have hb := u64_range b
  have e : a.val.tmod b.val = a.val % b.val := Int.tmod_eq_emod_of_nonneg ha.1
  have h3 := Int.emod_nonneg a.val (b := b.val) (by omega)
  have h4 := Int.emod_lt_of_pos a.val (b := b.val) (by omega)
  unfold I.rem
  rw [e]
  exact of_u64 ⟨by omega, by omega⟩
theorem quo_u64 {a b : I .u64} : (I.quo a b).val = a.val / b.val := by
  have ha := u64_range a
  have hb := u64_range b
  have e : a.val.tdiv b.val = a.val / b.val := Int.tdiv_eq_ediv_of_nonneg ha.1
  have h3 : 0 ≤ a.val / b.val := Int.ediv_nonneg ha.1 hb.1
  have h4 : a.val / b.val ≤ a.val := Int.ediv_le_self _ ha.1
  unfold I.quo
  rw [e]
  exact of_u64 ⟨by omega, by omega⟩
theorem nn_u64 (a : I .u64) : I.nn a = true := iff_nn.2 (u64_range a).1
/-- A power of two by a shift of one. -/
theorem shl_one {a : I .u64} (h : a.val < 64) : (I.shl (I.of .u64 1) a).val = 2 ^ a.val.toNat := by
  have ha := u64_range a
  have hm : min a.val.toNat IntKind.u64.bits = a.val.toNat := by
    have : IntKind.u64.bits = 64 := rfl
    omega
  have h1 : (I.of .u64 1).val = 1 := rfl
  unfold I.shl
  rw [hm, h1, Int.one_mul]
  refine of_u64 ⟨Int.le_of_lt (Int.pow_pos (by decide)), ?_⟩
  have h3 : 2 ^ a.val.toNat ≤ 2 ^ 63 := Nat.pow_le_pow_right (by decide) (by omega)
  have h4 : ((2 ^ a.val.toNat : Nat) : Int) = 2 ^ a.val.toNat := by simp
  rw [← h4]
  omega
end Sym

/- Natural numbers by digits of 65536: what the reference's first functions compute. -/
namespace Sym
open Go

abbrev Dg : Type := I .i64

/-- The digits' value. -/
def bv : List Dg → Nat
  | [] => 0
  | d :: l => d.nat + 65536 * bv l

def DigOk (d : Dg) : Prop := 0 ≤ d.val ∧ d.val < 65536
def Digs (l : List Dg) : Prop := ∀ d ∈ l, DigOk d

/-- No zero stands in front. -/
def Lead : List Dg → Prop
  | [] => True
  | [d] => d.val ≠ 0
  | _ :: e :: l => Lead (e :: l)

/-- l is the number n. -/
structure IsB (l : List Dg) (n : Nat) : Prop where
  dig : Digs l
  lead : Lead l
  val : bv l = n

theorem DigOk.nat {d : Dg} (h : DigOk d) : (d.nat : Int) = d.val ∧ d.nat < 65536 := by
  unfold DigOk at h
  unfold I.nat
  omega

theorem digs_cons {d : Dg} {l : List Dg} : Digs (d :: l) ↔ DigOk d ∧ Digs l := by
  unfold Digs
  simp
theorem digs_app {l r : List Dg} : Digs (l ++ r) ↔ Digs l ∧ Digs r := by
  unfold Digs
  simp only [List.mem_append]
  exact ⟨fun h => ⟨fun d hd => h d (.inl hd), fun d hd => h d (.inr hd)⟩, fun h d hd => hd.elim (h.1 d) (h.2 d)⟩
theorem digs_take {l : List Dg} (h : Digs l) (n : Nat) : Digs (l.take n) := fun d hd => h d (List.mem_of_mem_take hd)
theorem digs_drop {l : List Dg} (h : Digs l) (n : Nat) : Digs (l.drop n) := fun d hd => h d (List.mem_of_mem_drop hd)

theorem bv_lt : ∀ {l : List Dg}, Digs l → bv l < 65536 ^ l.length
  | [], _ => by simp [bv]
  | d :: l, h => by
    have h := digs_cons.1 h
    have h1 := h.1.nat.2
    have h2 := bv_lt h.2
    simp only [bv, List.length_cons, Nat.pow_succ]
    omega

theorem lead_cons {d : Dg} {l : List Dg} (h : Lead (d :: l)) : Lead l := by
  cases l with
  | nil => trivial
  | cons e l => exact h

theorem bv_pos : ∀ {l : List Dg}, Digs l → Lead l → l ≠ [] → 0 < bv l
  | [], _, _, h => absurd rfl h
  | [d], hd, hl, _ => by
    have h := (digs_cons.1 hd).1.nat.1
    have : d.val ≠ 0 := hl
    simp only [bv]
    omega
  | d :: e :: l, hd, hl, _ => by
    have := bv_pos (l := e :: l) (digs_cons.1 hd).2 hl (by simp)
    simp only [bv] at *
    omega

theorem isB_nil : IsB [] 0 := ⟨fun _ h => by simp at h, trivial, rfl⟩

theorem dig_ext {d e : Dg} (hd : DigOk d) (he : DigOk e) (h : d.nat = e.nat) : d = e := by
  apply I.ext'
  have := hd.nat.1
  have := he.nat.1
  omega

/-- A number has one list. -/
theorem IsB.unique : ∀ {l r : List Dg} {n : Nat}, IsB l n → IsB r n → l = r
  | [], [], _, _, _ => rfl
  | [], e :: r, n, h1, h2 => by
    have := bv_pos h2.dig h2.lead (by simp)
    have h3 := h1.val
    have h4 := h2.val
    simp only [bv] at h3 h4 this
    omega
  | d :: l, [], n, h1, h2 => by
    have := bv_pos h1.dig h1.lead (by simp)
    have h3 := h1.val
    have h4 := h2.val
    simp only [bv] at h3 h4 this
    omega
  | d :: l, e :: r, n, h1, h2 => by
    have d1 := digs_cons.1 h1.dig
    have d2 := digs_cons.1 h2.dig
    have h3 := h1.val
    have h4 := h2.val
    simp only [bv] at h3 h4
    have := d1.1.nat.2
    have := d2.1.nat.2
    rw [dig_ext d1.1 d2.1 (by omega), IsB.unique (n := bv l) ⟨d1.2, lead_cons h1.lead, rfl⟩ ⟨d2.2, lead_cons h2.lead, by omega⟩]

theorem bv_app : ∀ (l r : List Dg), bv (l ++ r) = bv l + 65536 ^ l.length * bv r
  | [], r => by simp [bv]
  | d :: l, r => by
    simp only [List.cons_append, bv, List.length_cons, bv_app l r, Nat.pow_succ, Nat.mul_add]
    rw [Nat.mul_comm (65536 ^ l.length) 65536, Nat.mul_assoc]
    omega

theorem lead_snoc : ∀ (l : List Dg) (d : Dg), d.val ≠ 0 → Lead (l ++ [d])
  | [], d, h => h
  | [e], d, h => h
  | e :: f :: l, d, h => lead_snoc (f :: l) d h

theorem bv_ge : ∀ {l : List Dg}, Digs l → Lead l → l ≠ [] → 65536 ^ (l.length - 1) ≤ bv l
  | [], _, _, h => absurd rfl h
  | [d], hd, hl, _ => by
    have h := (digs_cons.1 hd).1.nat.1
    have : d.val ≠ 0 := hl
    simp only [bv, List.length_singleton, Nat.sub_self, Nat.pow_zero]
    omega
  | d :: e :: l, hd, hl, _ => by
    have := bv_ge (l := e :: l) (digs_cons.1 hd).2 hl (by simp)
    simp only [List.length_cons, Nat.add_sub_cancel] at this ⊢
    simp only [bv, Nat.pow_succ] at *
    omega

theorem IsB.len {l : List Dg} {n k : Nat} (h : IsB l n) : l.length ≤ k ↔ n < 65536 ^ k := by
  have h1 := bv_lt h.dig
  rw [h.val] at h1
  constructor
  · intro hk
    exact Nat.lt_of_lt_of_le h1 (Nat.pow_le_pow_right (by decide) hk)
  · intro hn
    rcases Nat.lt_or_ge k l.length with hk | hk
    · have h2 := bv_ge h.dig h.lead (by intro e; subst e; simp at hk)
      rw [h.val] at h2
      have h3 : 65536 ^ k ≤ 65536 ^ (l.length - 1) := Nat.pow_le_pow_right (by decide) (by omega)
      omega
    · exact hk

theorem rdL_eq {X : Type} (d : X) : ∀ (l : List X) (i : Nat) (h : i < l.length), rdL d l i = l[i]
  | x :: l, 0, _ => rfl
  | x :: l, i + 1, h => rdL_eq d l i (by simpa using h)

theorem K0_ge (n : Nat) (h : n < 2 ^ 64) : n < K0 := by rw [K0_eq]; exact h

/-- A list of digits without the zeros in front. -/
theorem norm_ok (l : List Dg) (hd : Digs l) (hl : l.length ≤ 1073741824) : ∃ r, pontageref1_norm ((l, ()), ()) = some ((r, ()), ()) ∧ IsB r (bv l) := by
  have key : Wp (fun o => ∃ r, o = some ((r, ()), ()) ∧ IsB r (bv l)) (pontageref1_norm ((l, ()), ())) := by
    have hlen : (I.ofNat .i64 (lenL l)).val = l.length := ofNat_i64 (by show l.length < _; omega)
    have c1 : (I.of .i64 1).val = 1 := rfl
    have c0 : (I.of .i64 0).val = 0 := rfl
    unfold pontageref1_norm
    refine Wp.iter (fun x => x.1.1 = l ∧ 0 ≤ x.1.2.1.val ∧ x.1.2.1.val ≤ (l.length : Int) ∧ bv (l.take x.1.2.1.val.toNat) = bv l) (fun x => x.1.2.1.val.toNat) ?_ ?_ ?_
    · rintro ⟨⟨l', i, ⟨⟩⟩, ⟨⟩⟩ ⟨e1, hi0, hi1, hb⟩
      simp only at e1 hi0 hi1 hb
      subst e1
      have cut : inB' i (lenL l') = true := by
        show (decide (0 ≤ i.val) && decide (i.val ≤ ((l'.length : Nat) : Int))) = true
        simp [hi0, hi1]
      have sub : subL l' 0 (I.nat i) = l'.take i.val.toNat := by simp [subL, I.nat]
      refine Wp.brn (fun h => ?_) (fun h => ?_)
      · have h := iff_ltb.1 h
        simp only [c0] at h
        have hs : (I.sub i (I.of .i64 1)).val = i.val - 1 := by rw [sub_i64 (by omega)]; omega
        have hidx : (I.nat (I.sub i (I.of .i64 1))) = i.val.toNat - 1 := by unfold I.nat; omega
        have hlt : i.val.toNat - 1 < l'.length := by omega
        have hrd : rdL (I.of .i64 0) l' (I.nat (I.sub i (I.of .i64 1))) = l'[i.val.toNat - 1] := by rw [hidx]; exact rdL_eq _ _ _ hlt
        have htk : l'.take i.val.toNat = l'.take (i.val.toNat - 1) ++ [l'[i.val.toNat - 1]] := by
          rw [List.take_append_getElem hlt]
          congr 1
          omega
        refine Wp.brnT (iff_inB.2 ⟨by show 0 ≤ (I.sub i (I.of .i64 1)).val; omega, by show (I.sub i (I.of .i64 1)).val < (l'.length : Int); omega⟩) ?_
        refine Wp.brn (fun h2 => ?_) (fun h2 => ?_)
        · have h2 := iff_eqb.1 h2
          simp only [hrd] at h2
          refine Wp.again ⟨rfl, ?_, ?_, ?_⟩ ?_
          · show 0 ≤ (I.sub i (I.of .i64 1)).val; omega
          · show (I.sub i (I.of .i64 1)).val ≤ _; omega
          · show bv (l'.take (I.sub i (I.of .i64 1)).val.toNat) = _
            have e : (I.sub i (I.of .i64 1)).val.toNat = i.val.toNat - 1 := by omega
            rw [e, ← hb, htk, bv_app]
            have hz : (l'[i.val.toNat - 1]).nat = 0 := by unfold I.nat; rw [h2]; rfl
            simp [bv, hz]
          · show (I.sub i (I.of .i64 1)).val.toNat < _
            simp only; omega
        · have h2 := niff_eqb.1 h2
          simp only [hrd] at h2
          refine Wp.done (Wp.brnT cut ⟨_, rfl, ?_⟩)
          show IsB (subL l' 0 (I.nat i)) _
          rw [sub]
          refine ⟨digs_take hd _, ?_, hb⟩
          rw [htk]
          exact lead_snoc _ _ h2
      · have h := niff_ltb.1 h
        simp only [c0] at h
        refine Wp.done (Wp.brnT cut ⟨_, rfl, ?_⟩)
        show IsB (subL l' 0 (I.nat i)) _
        rw [sub]
        have e : i.val.toNat = 0 := by omega
        rw [e] at hb ⊢
        simp only [List.take_zero] at hb ⊢
        rw [← hb]
        exact isB_nil
    · refine ⟨rfl, ?_, ?_, ?_⟩
      · show 0 ≤ (I.ofNat .i64 (lenL l)).val; omega
      · show (I.ofNat .i64 (lenL l)).val ≤ _; omega
      · show bv (l.take (I.ofNat .i64 (lenL l)).val.toNat) = _
        rw [hlen, Int.toNat_natCast, List.take_length]
    · refine K0_ge _ ?_
      show (I.ofNat .i64 (lenL l)).val.toNat < _
      omega
  exact key.out
end Sym

/- Natural numbers by digits of 65536: from and to 256 bits, comparison. -/
namespace Sym
open Go

theorem setAt_eq {X : Type} : ∀ (l : List X) (i : Nat) (v : X), setAt l i v = l.set i v
  | [], _, _ => rfl
  | _ :: _, 0, _ => rfl
  | x :: l, i + 1, v => by simp [setAt, setAt_eq l i v]

theorem and_mask (k : IntKind) (hk : k.bits = 64) (x : I k) (h : 0 ≤ x.val) (hx : x.val < 18446744073709551616) : ((BitVec.ofInt k.bits x.val &&& BitVec.ofInt k.bits 65535).toNat : Int) = x.val % 65536 := by
  rw [hk, BitVec.toNat_and]
  have h1 : (BitVec.ofInt 64 65535).toNat = 2 ^ 16 - 1 := rfl
  rw [h1, Nat.and_two_pow_sub_one_eq_mod, BitVec.toNat_ofInt]
  omega

theorem and_u64 (x : I .u64) : (I.and x (I.of .u64 65535)).val = x.val % 65536 := by
  have h := u64_range x
  have := and_mask .u64 rfl x h.1 h.2
  have e : (I.of .u64 65535).val = 65535 := rfl
  show (I.of .u64 _).val = _
  rw [e, this]
  exact of_u64 ⟨by omega, by omega⟩

theorem and_i64 (x : I .i64) (h : 0 ≤ x.val) : (I.and x (I.of .i64 65535)).val = x.val % 65536 := by
  have h2 := i64_range x
  have := and_mask .i64 rfl x h (by omega)
  have e : (I.of .i64 65535).val = 65535 := rfl
  show (I.of .i64 _).val = _
  rw [e, this]
  exact of_i64 ⟨by omega, by omega⟩

theorem fdiv_pos (a : Int) (n : Nat) (h : 0 ≤ a) : a.fdiv ((2 : Int) ^ n) = a / (2 : Int) ^ n := by
  have h2 : (0 : Int) ≤ (2 : Int) ^ n := Int.le_of_lt (Int.pow_pos (by decide))
  rw [Int.fdiv_eq_ediv_of_nonneg _ h2]

theorem shr_u64 (x s : I .u64) (hs : s.val < 64) : (I.shr x s).val = x.val / (2 : Int) ^ s.val.toNat := by
  have hx := u64_range x
  have h0 := u64_range s
  have hm : min s.val.toNat IntKind.u64.bits = s.val.toNat := by
    have : IntKind.u64.bits = 64 := rfl
    omega
  unfold I.shr
  rw [hm, fdiv_pos _ _ hx.1]
  have h2 : (0 : Int) < (2 : Int) ^ s.val.toNat := Int.pow_pos (by decide)
  have h3 : 0 ≤ x.val / (2 : Int) ^ s.val.toNat := Int.ediv_nonneg hx.1 (by omega)
  have h4 : x.val / (2 : Int) ^ s.val.toNat ≤ x.val := Int.ediv_le_self _ hx.1
  exact of_u64 ⟨by omega, by omega⟩

theorem shr_i64_16 (x : I .i64) (h : 0 ≤ x.val) : (I.shr x (I.of .u64 16)).val = x.val / 65536 := by
  have hx := i64_range x
  have hm : min (I.of .u64 16).val.toNat IntKind.i64.bits = 16 := rfl
  unfold I.shr
  rw [hm, fdiv_pos _ _ h]
  have e : (2 : Int) ^ 16 = 65536 := by decide
  rw [e]
  exact of_i64 ⟨by omega, by omega⟩

/-- The j-th digit of 256 bits. -/
def digF (a : U) (j : Nat) : Dg := I.conv .i64 (I.and (I.shr (Arr.sel (I.of .u64 0) 4 a (j / 4)) (I.of .u64 (16 * (j % 4) : Nat))) (I.of .u64 65535))

theorem digF_nat (a : U) (j : Nat) : (digF a j).val = (Arr.sel (I.of .u64 0) 4 a (j / 4)).val / (2 : Int) ^ (16 * (j % 4)) % 65536 := by
  have h1 : (I.of .u64 (16 * (j % 4) : Nat)).val = (16 * (j % 4) : Nat) := of_u64 ⟨by omega, by omega⟩
  have h2 := shr_u64 (Arr.sel (I.of .u64 0) 4 a (j / 4)) (I.of .u64 (16 * (j % 4) : Nat)) (by omega)
  rw [h1, Int.toNat_natCast] at h2
  unfold digF
  show (I.of .i64 _).val = _
  rw [and_u64, h2]
  exact of_i64 ⟨by omega, by omega⟩

theorem digF_ok (a : U) (j : Nat) : DigOk (digF a j) := by
  unfold DigOk
  rw [digF_nat]
  omega

theorem limb (x : I .u64) (d0 d1 d2 d3 : Nat) (h0 : (d0 : Int) = x.val / (2 : Int) ^ 0 % 65536) (h1 : (d1 : Int) = x.val / (2 : Int) ^ 16 % 65536) (h2 : (d2 : Int) = x.val / (2 : Int) ^ 32 % 65536) (h3 : (d3 : Int) = x.val / (2 : Int) ^ 48 % 65536) :
    x.nat = d0 + 65536 * d1 + 4294967296 * d2 + 281474976710656 * d3 := by
  have p0 : (2 : Int) ^ 0 = 1 := by decide
  have p1 : (2 : Int) ^ 16 = 65536 := by decide
  have p2 : (2 : Int) ^ 32 = 4294967296 := by decide
  have p3 : (2 : Int) ^ 48 = 281474976710656 := by decide
  rw [p0] at h0
  rw [p1] at h1
  rw [p2] at h2
  rw [p3] at h3
  have hx := u64_range x
  have hn := nat_val x
  omega

theorem comb (a0 a1 a2 a3 d0 d1 d2 d3 d4 d5 d6 d7 d8 d9 d10 d11 d12 d13 d14 d15 : Nat) (v0 : a0 = d0 + 65536 * d1 + 4294967296 * d2 + 281474976710656 * d3) (v1 : a1 = d4 + 65536 * d5 + 4294967296 * d6 + 281474976710656 * d7)
    (v2 : a2 = d8 + 65536 * d9 + 4294967296 * d10 + 281474976710656 * d11) (v3 : a3 = d12 + 65536 * d13 + 4294967296 * d14 + 281474976710656 * d15) :
    d0 + 65536 * (d1 + 65536 * (d2 + 65536 * (d3 + 65536 * (d4 + 65536 * (d5 + 65536 * (d6 + 65536 * (d7 + 65536 * (d8 + 65536 * (d9 + 65536 * (d10 + 65536 * (d11 + 65536 * (d12 + 65536 * (d13 + 65536 * (d14 + 65536 * (d15 + 65536 * 0))))))))))))))) =
      a0 + 18446744073709551616 * (a1 + 18446744073709551616 * (a2 + 18446744073709551616 * a3)) := by
  subst v0 v1 v2 v3
  omega

theorem digs_of_U (a : U) : bv ((List.range 16).map (digF a)) = a.val := by
  obtain ⟨a0, a1, a2, a3, ⟨⟩⟩ := a
  have n : ∀ j, ((digF (a0, a1, a2, a3, ()) j).nat : Int) = (Arr.sel (I.of .u64 0) 4 (a0, a1, a2, a3, ()) (j / 4)).val / (2 : Int) ^ (16 * (j % 4)) % 65536 := fun j => (digF_ok _ j).nat.1.trans (digF_nat _ j)
  exact comb _ _ _ _ _ _ _ _ _ _ _ _ _ _ _ _ _ _ _ _ (limb a0 _ _ _ _ (n 0) (n 1) (n 2) (n 3)) (limb a1 _ _ _ _ (n 4) (n 5) (n 6) (n 7)) (limb a2 _ _ _ _ (n 8) (n 9) (n 10) (n 11)) (limb a3 _ _ _ _ (n 12) (n 13) (n 14) (n 15))

theorem FromUint256_ok (a : U) : ∃ r, pontageref1_FromUint256 ((a, ()), ()) = some ((r, ()), ()) ∧ IsB r a.val := by
  have key : Wp (fun o => ∃ r, o = some ((r, ()), ()) ∧ IsB r a.val) (pontageref1_FromUint256 ((a, ()), ())) := by
    have c16 : (I.of .i64 16).val = 16 := rfl
    have c4 : (I.of .i64 4).val = 4 := rfl
    have c1 : (I.of .i64 1).val = 1 := rfl
    unfold pontageref1_FromUint256
    refine Wp.iter (fun x => 0 ≤ x.1.1.val ∧ x.1.1.val ≤ 16 ∧ x.2.1 = a ∧ x.2.2.1 = (List.range x.1.1.val.toNat).map (digF a) ++ List.replicate (16 - x.1.1.val.toNat) (I.of .i64 0)) (fun x => (16 - x.1.1.val).toNat) ?_ ?_ ?_
    · rintro ⟨⟨i, ⟨⟩⟩, a', out, ⟨⟩⟩ ⟨hi0, hi1, e1, e2⟩
      simp only at hi0 hi1 e1 e2
      subst e1
      refine Wp.brn (fun h => ?_) (fun h => ?_)
      · have h := iff_ltb.1 h
        simp only [c16] at h
        have hq : (I.quo i (I.of .i64 4)).val = i.val / 4 := quo_i64 hi0 (by decide)
        have hr : (I.rem i (I.of .i64 4)).val = i.val % 4 := rem_i64 hi0 (by decide)
        have hlen : out.length = 16 := by rw [e2]; simp; omega
        have hs : (I.add i (I.of .i64 1)).val = i.val + 1 := by rw [add_i64 (by omega)]; omega
        have hm : (I.mul (I.of .i64 16) (I.rem i (I.of .i64 4))).val = 16 * (i.val % 4) := by rw [mul_i64 (by rw [c16, hr]; omega), hr, c16]
        refine Wp.brnT (iff_inB.2 ⟨by show 0 ≤ (I.quo i (I.of .i64 4)).val; omega, by show (I.quo i (I.of .i64 4)).val < ((4 : Nat) : Int); omega⟩) ?_
        refine Wp.brnT (nn_u64 _) ?_
        refine Wp.brnT (iff_inB.2 ⟨hi0, by show i.val < ((out.length : Nat) : Int); omega⟩) ?_
        refine Wp.again ⟨?_, ?_, rfl, ?_⟩ ?_
        · show 0 ≤ (I.add i (I.of .i64 1)).val; omega
        · show (I.add i (I.of .i64 1)).val ≤ 16; omega
        · have ed : I.conv .i64 (I.and (I.shr (Arr.sel (I.of .u64 0) 4 a' (I.nat (I.quo i (I.of .i64 4)))) (I.conv .u64 (I.mul (I.of .i64 16) (I.rem i (I.of .i64 4))))) (I.of .u64 65535)) = digF a' i.val.toNat := by
            unfold digF
            have e1 : I.nat (I.quo i (I.of .i64 4)) = i.val.toNat / 4 := by unfold I.nat; omega
            have e2 : I.conv .u64 (I.mul (I.of .i64 16) (I.rem i (I.of .i64 4))) = I.of .u64 (16 * (i.val.toNat % 4) : Nat) := by
              show I.of .u64 _ = _
              rw [hm]
              congr 1
              omega
            rw [e1, e2]
          show setAt out (I.nat i) _ = (List.range (I.add i (I.of .i64 1)).val.toNat).map (digF a') ++ List.replicate (16 - (I.add i (I.of .i64 1)).val.toNat) (I.of .i64 0)
          have e3 : (I.add i (I.of .i64 1)).val.toNat = i.val.toNat + 1 := by omega
          have e4 : I.nat i = ((List.range i.val.toNat).map (digF a')).length := by simp [I.nat]
          have e5 : 16 - i.val.toNat = (16 - (i.val.toNat + 1)) + 1 := by omega
          rw [setAt_eq, e2, e3, e4, List.set_append_right _ _ (Nat.le_refl _), Nat.sub_self, e5, List.replicate_succ, List.set_cons_zero, List.range_succ, List.map_append, List.map_cons, List.map_nil, List.append_assoc]
          show _ ++ _ = _ ++ ([_] ++ _)
          rw [← ed]
          rfl
        · show (16 - (I.add i (I.of .i64 1)).val).toNat < _
          simp only; omega
      · have h := niff_ltb.1 h
        simp only [c16] at h
        have hi : i.val.toNat = 16 := by omega
        rw [hi] at e2
        simp only [Nat.sub_self, List.replicate_zero, List.append_nil] at e2
        subst e2
        have hd : Digs ((List.range 16).map (digF a')) := by
          intro d hd
          rw [List.mem_map] at hd
          obtain ⟨j, _, rfl⟩ := hd
          exact digF_ok a' j
        obtain ⟨r, hr, hB⟩ := norm_ok _ hd (by simp)
        exact Wp.done (Wp.optF hr ⟨r, rfl, hB.dig, hB.lead, hB.val.trans (digs_of_U a')⟩)
    · exact ⟨by show 0 ≤ (I.of .i64 0).val; decide, by show (I.of .i64 0).val ≤ 16; decide, rfl, rfl⟩
    · exact K0_ge _ (by show (16 - (I.of .i64 0).val).toNat < _; decide)
  exact key.out
end Sym

/- Natural numbers by digits of 65536: to 256 bits, comparison. -/
namespace Sym
open Go

theorem shl_u64 (x s : I .u64) (hs : s.val < 64) (h : x.val * (2 : Int) ^ s.val.toNat < 18446744073709551616) : (I.shl x s).val = x.val * (2 : Int) ^ s.val.toNat := by
  have hx := u64_range x
  have h0 := u64_range s
  have hm : min s.val.toNat IntKind.u64.bits = s.val.toNat := by
    have : IntKind.u64.bits = 64 := rfl
    omega
  have h2 : (0 : Int) ≤ (2 : Int) ^ s.val.toNat := Int.le_of_lt (Int.pow_pos (by decide))
  unfold I.shl
  rw [hm]
  exact of_u64 ⟨Int.mul_nonneg hx.1 h2, h⟩

theorem add_shl (x : I .u64) (d r S : Nat) (hd : d < 65536) (hr : r < 4) (hS : (S : Int) = (2 : Int) ^ (16 * r)) (hx : x.nat < S) (hl : S ≤ 281474976710656) : (I.add x (I.shl (I.of .u64 d) (I.of .u64 (16 * r : Nat)))).nat = x.nat + S * d := by
  have h1 : (I.of .u64 (16 * r : Nat)).val = (16 * r : Nat) := of_u64 ⟨by omega, by omega⟩
  have h2 : (I.of .u64 (d : Int)).val = d := of_u64 ⟨by omega, by omega⟩
  have hv := nat_val x
  have hdS : (d : Int) * S = ((S * d : Nat) : Int) := by rw [Nat.mul_comm, Int.natCast_mul]
  have hle : S * d ≤ 281474976710656 * 65535 := Nat.mul_le_mul hl (by omega)
  have h3 : (I.shl (I.of .u64 d) (I.of .u64 (16 * r : Nat))).val = ((S * d : Nat) : Int) := by
    rw [shl_u64 _ _ (by omega) (by rw [h1, h2, Int.toNat_natCast, ← hS, hdS]; omega), h1, h2, Int.toNat_natCast, ← hS, hdS]
  have h4 := add_u64 (a := x) (b := I.shl (I.of .u64 d) (I.of .u64 (16 * r : Nat))) (by rw [h3]; omega)
  rw [h3] at h4
  have h5 := nat_val (I.add x (I.shl (I.of .u64 d) (I.of .u64 (16 * r : Nat))))
  omega

theorem toU_step (u : U) (d : Nat) (j : Nat) (hj : j < 16) (hu : u.val < 65536 ^ j) (hd : d < 65536) :
    U.val (Arr.upd 4 u (j / 4) (I.add (Arr.sel (I.of .u64 0) 4 u (j / 4)) (I.shl (I.of .u64 d) (I.of .u64 (16 * (j % 4) : Nat))))) = u.val + 65536 ^ j * d := by
  obtain ⟨u0, u1, u2, u3, ⟨⟩⟩ := u
  have n0 := nat_lt u0
  have n1 := nat_lt u1
  have n2 := nat_lt u2
  have n3 := nat_lt u3
  unfold U.val at hu
  simp only at hu
  have hc : j = 0 ∨ j = 1 ∨ j = 2 ∨ j = 3 ∨ j = 4 ∨ j = 5 ∨ j = 6 ∨ j = 7 ∨ j = 8 ∨ j = 9 ∨ j = 10 ∨ j = 11 ∨ j = 12 ∨ j = 13 ∨ j = 14 ∨ j = 15 := by omega
  rcases hc with rfl | rfl | rfl | rfl | rfl | rfl | rfl | rfl | rfl | rfl | rfl | rfl | rfl | rfl | rfl | rfl
  · have p : 65536 ^ 0 = 1 := by decide
    rw [p] at hu ⊢
    have k := add_shl u0 d 0 1 hd (by decide) (by decide) (by omega) (by decide)
    show U.val ((I.add u0 (I.shl (I.of .u64 d) (I.of .u64 (16 * 0 : Nat)))), u1, u2, u3, ()) = _
    unfold U.val
    simp only
    omega
  · have p : 65536 ^ 1 = 65536 := by decide
    rw [p] at hu ⊢
    have k := add_shl u0 d 1 65536 hd (by decide) (by decide) (by omega) (by decide)
    show U.val ((I.add u0 (I.shl (I.of .u64 d) (I.of .u64 (16 * 1 : Nat)))), u1, u2, u3, ()) = _
    unfold U.val
    simp only
    omega
  · have p : 65536 ^ 2 = 4294967296 := by decide
    rw [p] at hu ⊢
    have k := add_shl u0 d 2 4294967296 hd (by decide) (by decide) (by omega) (by decide)
    show U.val ((I.add u0 (I.shl (I.of .u64 d) (I.of .u64 (16 * 2 : Nat)))), u1, u2, u3, ()) = _
    unfold U.val
    simp only
    omega
  · have p : 65536 ^ 3 = 281474976710656 := by decide
    rw [p] at hu ⊢
    have k := add_shl u0 d 3 281474976710656 hd (by decide) (by decide) (by omega) (by decide)
    show U.val ((I.add u0 (I.shl (I.of .u64 d) (I.of .u64 (16 * 3 : Nat)))), u1, u2, u3, ()) = _
    unfold U.val
    simp only
    omega
  · have p : 65536 ^ 4 = 18446744073709551616 := by decide
    rw [p] at hu ⊢
    have k := add_shl u1 d 0 1 hd (by decide) (by decide) (by omega) (by decide)
    show U.val (u0, (I.add u1 (I.shl (I.of .u64 d) (I.of .u64 (16 * 0 : Nat)))), u2, u3, ()) = _
    unfold U.val
    simp only
    omega
  · have p : 65536 ^ 5 = 1208925819614629174706176 := by decide
    rw [p] at hu ⊢
    have k := add_shl u1 d 1 65536 hd (by decide) (by decide) (by omega) (by decide)
    show U.val (u0, (I.add u1 (I.shl (I.of .u64 d) (I.of .u64 (16 * 1 : Nat)))), u2, u3, ()) = _
    unfold U.val
    simp only
    omega
  · have p : 65536 ^ 6 = 79228162514264337593543950336 := by decide
    rw [p] at hu ⊢
    have k := add_shl u1 d 2 4294967296 hd (by decide) (by decide) (by omega) (by decide)
    show U.val (u0, (I.add u1 (I.shl (I.of .u64 d) (I.of .u64 (16 * 2 : Nat)))), u2, u3, ()) = _
    unfold U.val
    simp only
    omega
  · have p : 65536 ^ 7 = 5192296858534827628530496329220096 := by decide
    rw [p] at hu ⊢
    have k := add_shl u1 d 3 281474976710656 hd (by decide) (by decide) (by omega) (by decide)
    show U.val (u0, (I.add u1 (I.shl (I.of .u64 d) (I.of .u64 (16 * 3 : Nat)))), u2, u3, ()) = _
    unfold U.val
    simp only
    omega
  · have p : 65536 ^ 8 = 340282366920938463463374607431768211456 := by decide
    rw [p] at hu ⊢
    have k := add_shl u2 d 0 1 hd (by decide) (by decide) (by omega) (by decide)
    show U.val (u0, u1, (I.add u2 (I.shl (I.of .u64 d) (I.of .u64 (16 * 0 : Nat)))), u3, ()) = _
    unfold U.val
    simp only
    omega
  · have p : 65536 ^ 9 = 22300745198530623141535718272648361505980416 := by decide
    rw [p] at hu ⊢
    have k := add_shl u2 d 1 65536 hd (by decide) (by decide) (by omega) (by decide)
    show U.val (u0, u1, (I.add u2 (I.shl (I.of .u64 d) (I.of .u64 (16 * 1 : Nat)))), u3, ()) = _
    unfold U.val
    simp only
    omega
  · have p : 65536 ^ 10 = 1461501637330902918203684832716283019655932542976 := by decide
    rw [p] at hu ⊢
    have k := add_shl u2 d 2 4294967296 hd (by decide) (by decide) (by omega) (by decide)
    show U.val (u0, u1, (I.add u2 (I.shl (I.of .u64 d) (I.of .u64 (16 * 2 : Nat)))), u3, ()) = _
    unfold U.val
    simp only
    omega
  · have p : 65536 ^ 11 = 95780971304118053647396689196894323976171195136475136 := by decide
    rw [p] at hu ⊢
    have k := add_shl u2 d 3 281474976710656 hd (by decide) (by decide) (by omega) (by decide)
    show U.val (u0, u1, (I.add u2 (I.shl (I.of .u64 d) (I.of .u64 (16 * 3 : Nat)))), u3, ()) = _
    unfold U.val
    simp only
    omega
  · have p : 65536 ^ 12 = 6277101735386680763835789423207666416102355444464034512896 := by decide
    rw [p] at hu ⊢
    have k := add_shl u3 d 0 1 hd (by decide) (by decide) (by omega) (by decide)
    show U.val (u0, u1, u2, (I.add u3 (I.shl (I.of .u64 d) (I.of .u64 (16 * 0 : Nat)))), ()) = _
    unfold U.val
    simp only
    omega
  · have p : 65536 ^ 13 = 411376139330301510538742295639337626245683966408394965837152256 := by decide
    rw [p] at hu ⊢
    have k := add_shl u3 d 1 65536 hd (by decide) (by decide) (by omega) (by decide)
    show U.val (u0, u1, u2, (I.add u3 (I.shl (I.of .u64 d) (I.of .u64 (16 * 1 : Nat)))), ()) = _
    unfold U.val
    simp only
    omega
  · have p : 65536 ^ 14 = 26959946667150639794667015087019630673637144422540572481103610249216 := by decide
    rw [p] at hu ⊢
    have k := add_shl u3 d 2 4294967296 hd (by decide) (by decide) (by omega) (by decide)
    show U.val (u0, u1, u2, (I.add u3 (I.shl (I.of .u64 d) (I.of .u64 (16 * 2 : Nat)))), ()) = _
    unfold U.val
    simp only
    omega
  · have p : 65536 ^ 15 = 1766847064778384329583297500742918515827483896875618958121606201292619776 := by decide
    rw [p] at hu ⊢
    have k := add_shl u3 d 3 281474976710656 hd (by decide) (by decide) (by omega) (by decide)
    show U.val (u0, u1, u2, (I.add u3 (I.shl (I.of .u64 d) (I.of .u64 (16 * 3 : Nat)))), ()) = _
    unfold U.val
    simp only
    omega

theorem bv_take_succ {l : List Dg} {i : Nat} (h : i < l.length) : bv (l.take (i + 1)) = bv (l.take i) + 65536 ^ i * (l[i]).nat := by
  rw [← List.take_append_getElem h, bv_app]
  have e : (l.take i).length = i := by simp; omega
  simp [bv, e]

theorem ToUint256_ok {l : List Dg} {n : Nat} (hl : IsB l n) (hn : n < U.top) : pontageref1_ToUint256 ((l, ()), ()) = some ((U.of n, ()), ()) := by
  have ht : U.top = 65536 ^ 16 := by decide
  have hlen : l.length ≤ 16 := hl.len.2 (by rw [← ht]; exact hn)
  have c16 : (I.of .i64 16).val = 16 := rfl
  have c4 : (I.of .i64 4).val = 4 := rfl
  have c1 : (I.of .i64 1).val = 1 := rfl
  have hol : (I.ofNat .i64 (lenL l)).val = l.length := ofNat_i64 (by show l.length < _; omega)
  have key : Wp (fun o => o = some ((U.of n, ()), ())) (pontageref1_ToUint256 ((l, ()), ())) := by
    unfold pontageref1_ToUint256
    refine Wp.iter (fun x => x.1.1 = l ∧ 0 ≤ x.1.2.1.val ∧ x.1.2.1.val ≤ (l.length : Int) ∧ U.val x.2.2.1 = bv (l.take x.1.2.1.val.toNat)) (fun x => ((l.length : Int) - x.1.2.1.val).toNat) ?_ ?_ ?_
    · rintro ⟨⟨l', i, ⟨⟩⟩, r0, u, ⟨⟩⟩ ⟨e1, hi0, hi1, hu⟩
      simp only at e1 hi0 hi1 hu
      subst e1
      have fin : i.val.toNat = l'.length → u = U.of n := by
        intro e
        rw [e, List.take_length, hl.val] at hu
        rw [← hu]
        exact (U.of_val u).symm
      refine Wp.brn (fun h => ?_) (fun h => ?_)
      · have h := iff_ltb.1 h
        simp only [hol] at h
        have hlt : i.val.toNat < l'.length := by omega
        refine Wp.brnT (iff_ltb.2 (by show i.val < (I.of .i64 16).val; omega)) ?_
        have hq : (I.quo i (I.of .i64 4)).val = i.val / 4 := quo_i64 hi0 (by decide)
        have hr : (I.rem i (I.of .i64 4)).val = i.val % 4 := rem_i64 hi0 (by decide)
        have hs : (I.add i (I.of .i64 1)).val = i.val + 1 := by rw [add_i64 (by omega)]; omega
        have hm : (I.mul (I.of .i64 16) (I.rem i (I.of .i64 4))).val = 16 * (i.val % 4) := by rw [mul_i64 (by rw [c16, hr]; omega), hr, c16]
        have hin : inB (I.quo i (I.of .i64 4)) 4 = true := iff_inB.2 ⟨by omega, by omega⟩
        refine Wp.brnT hin ?_
        refine Wp.brnT (iff_inB.2 ⟨hi0, by show i.val < ((l'.length : Nat) : Int); omega⟩) ?_
        refine Wp.brnT (nn_u64 _) ?_
        refine Wp.brnT hin ?_
        have hdig : DigOk l'[i.val.toNat] := hl.dig _ (List.getElem_mem hlt)
        have hrd : rdL (I.of .i64 0) l' (I.nat i) = l'[i.val.toNat] := rdL_eq _ _ _ hlt
        have e1 : I.nat (I.quo i (I.of .i64 4)) = i.val.toNat / 4 := by unfold I.nat; omega
        have e2 : I.conv .u64 (I.mul (I.of .i64 16) (I.rem i (I.of .i64 4))) = I.of .u64 (16 * (i.val.toNat % 4) : Nat) := by
          show I.of .u64 _ = _
          rw [hm]
          congr 1
          omega
        have e3 : I.conv .u64 (rdL (I.of .i64 0) l' (I.nat i)) = I.of .u64 ((l'[i.val.toNat]).nat : Int) := by
          show I.of .u64 _ = _
          rw [hrd, hdig.nat.1]
        have hub : U.val u < 65536 ^ i.val.toNat := by
          rw [hu]
          have := bv_lt (digs_take hl.dig i.val.toNat)
          rw [List.length_take] at this
          rwa [Nat.min_eq_left (by omega)] at this
        have st := toU_step u (l'[i.val.toNat]).nat i.val.toNat (by omega) hub hdig.nat.2
        refine Wp.again ⟨rfl, ?_, ?_, ?_⟩ ?_
        · show 0 ≤ (I.add i (I.of .i64 1)).val; omega
        · show (I.add i (I.of .i64 1)).val ≤ _; omega
        · show U.val (Arr.upd 4 u (I.nat (I.quo i (I.of .i64 4))) (I.add (Arr.sel (I.of .u64 0) 4 u (I.nat (I.quo i (I.of .i64 4)))) (I.shl (I.conv .u64 (rdL (I.of .i64 0) l' (I.nat i))) (I.conv .u64 (I.mul (I.of .i64 16) (I.rem i (I.of .i64 4))))))) = bv (l'.take (I.add i (I.of .i64 1)).val.toNat)
          have e4 : (I.add i (I.of .i64 1)).val.toNat = i.val.toNat + 1 := by omega
          rw [e1, e2, e3, e4, st, bv_take_succ hlt, ← hu]
        · show ((l'.length : Int) - (I.add i (I.of .i64 1)).val).toNat < _
          simp only; omega
      · have h := niff_ltb.1 h
        simp only [hol] at h
        have := fin (by omega)
        subst this
        exact Wp.done rfl
    · refine ⟨rfl, by show 0 ≤ (I.of .i64 0).val; decide, by show (I.of .i64 0).val ≤ (l.length : Int); have : (I.of .i64 0).val = 0 := rfl; omega, ?_⟩
      show U.val _ = bv (l.take (I.of .i64 0).val.toNat)
      rfl
    · exact K0_ge _ (by show ((l.length : Int) - (I.of .i64 0).val).toNat < _; have : (I.of .i64 0).val = 0 := rfl; omega)
  exact key.out

def errS (n : Nat) : U × I .i64 := if n < U.top then (U.of n, I.of .i64 0) else (U.of 0, I.of .i64 4)

theorem Fits_ok {l : List Dg} {n : Nat} (hl : IsB l n) (hlen : l.length < 9223372036854775808) : pontageref1_Fits ((l, ()), ()) = some ((decide (n < U.top), ()), ()) := by
  have ht : U.top = 65536 ^ 16 := by decide
  have h := hl.len (k := 16)
  have hol : (I.ofNat .i64 (lenL l)).val = l.length := ofNat_i64 hlen
  have c16 : (I.of .i64 16).val = 16 := rfl
  have e : I.leb (I.ofNat .i64 (lenL l)) (I.of .i64 16) = decide (n < U.top) := by
    unfold I.leb
    rw [hol, c16, ht]
    by_cases hc : l.length ≤ 16
    · have := h.1 hc
      simp [this]; omega
    · have : ¬ n < 65536 ^ 16 := fun hh => hc (h.2 hh)
      simp [this]; omega
  refine Wp.out (T := fun o => o = _) ?_
  unfold pontageref1_Fits
  show some ((I.leb (I.ofNat .i64 (lenL l)) (I.of .i64 16), ()), ()) = _
  rw [e]

theorem Checked_ok {l : List Dg} {n : Nat} (hl : IsB l n) (hlen : l.length < 9223372036854775808) : pontageref1_Checked ((l, ()), ()) = some (((errS n).1, (errS n).2, ()), ()) := by
  refine Wp.out (T := fun o => o = _) ?_
  unfold pontageref1_Checked errS
  refine Wp.optF (Fits_ok hl hlen) ?_
  by_cases h : n < U.top
  · refine Wp.brnF (by show (!decide (n < U.top)) = false; simp [h]) ?_
    refine Wp.optF (ToUint256_ok hl h) ?_
    show _ = _
    rw [if_pos h]
    rfl
  · refine Wp.brnT (by show (!decide (n < U.top)) = true; simp [h]) ?_
    show _ = _
    rw [if_neg h]
    rfl

theorem Checked_ok' {l : List Dg} {n : Nat} (hl : IsB l n) (hlen : l.length ≤ 1000000) : pontageref1_Checked ((l, ()), ()) = some (((errS n).1, (errS n).2, ()), ()) := Checked_ok hl (by omega)

def u64U (x : I .u64) : U := (x, I.of .u64 0, I.of .u64 0, I.of .u64 0, ())

theorem u64U_val (x : I .u64) : (u64U x).val = x.nat := by
  unfold u64U U.val
  have : (I.of .u64 0).nat = 0 := rfl
  simp only [this]
  omega

theorem FromUint64_ok (x : I .u64) : ∃ r, pontageref1_FromUint64 ((x, ()), ()) = some ((r, ()), ()) ∧ IsB r x.nat := by
  obtain ⟨r, hr, hB⟩ := FromUint256_ok (u64U x)
  rw [u64U_val] at hB
  refine ⟨r, ?_, hB⟩
  refine Wp.out (T := fun o => o = _) ?_
  unfold pontageref1_FromUint64
  exact Wp.optF hr rfl
end Sym
