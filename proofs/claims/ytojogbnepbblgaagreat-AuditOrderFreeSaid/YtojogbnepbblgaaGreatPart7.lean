/- A run of the reference. -/
import Derived.Carry
import Derived.SizedLaws
import Derived.ChangeOld
import Derived.OpenShut
import Derived.Test.YtojogbnepbblgaaGreatPart6
import Derived.Test.YtojogbnepbblgaaGreatPart3
namespace Sym
open Go
structure RunOk (calm:Bool) (k:Nat) (l:List b2B) (p:MS × List Rcp):Prop where
 run:p = c6Q ms0 l
 len:l.length = 8 + k
 sz:Sz (128 * (8 + k)) p.1
 good:∀ s ∈ l,StG calm (128 * (8 + k)) s
 msgs:∀ r ∈ p.2,(b3R r).length ≤ 64
theorem StG.mono {calm:Bool} {n k:Nat} {s:b2B} (h:StG calm n s) (hk:n ≤ k):StG calm k s:=⟨h.data,by have:=h.prf; omega,h.dep⟩
theorem d5A (calm:Bool):∀ i,i ≤ 8→Sz (128 * i) (c6Q ms0 (setupL.take i)).1∧∀ r ∈ (c6Q ms0 (setupL.take i)).2,(b3R r).length ≤ 64
 | 0,_=>⟨⟨Nat.le_refl _,Nat.le_refl _,Nat.le_refl _,Nat.le_refl _,Nat.le_refl _,Nat.le_refl _⟩,fun r h=>by cases h⟩
 | i + 1,hi=>by
  obtain ⟨h1,h2⟩:=d5A calm i (by omega)
  have hl:i < setupL.length:=by show i < 8; omega
  rw [List.take_add_one,List.getElem?_eq_getElem hl]
  simp only [Option.toList]
  rw [c8B]
  obtain ⟨g1,g2⟩:=f1Q h1 setupL[i]
  refine ⟨g1.mono (by omega),fun r hr=>?_⟩
  have hr:r ∈ (c6Q ms0 (setupL.take i)).2 ++ [(d0Q (c6Q ms0 (setupL.take i)).1 setupL[i]).1]:=hr
  rcases List.mem_append.1 hr with h | h
  ·
   exact h2 r h
  ·
   rw [List.mem_singleton.1 h]; exact g2
theorem RunOk.snoc {calm:Bool} {k:Nat} {l:List b2B} {p:MS × List Rcp} (h:RunOk calm k l p) {s:b2B} (hs:StG calm p.1.ms.length s):RunOk calm (k + 1) (l ++ [s]) (c6E p s):=by
 obtain ⟨g1,g2⟩:=f1Q h.sz s
 refine ⟨by rw [c8B,← h.run],by rw [List.length_append,h.len]; rfl,g1.mono (by omega),fun x hx=>?_,fun r hr=>?_⟩
 ·
  rcases List.mem_append.1 hx with h' | h'
  ·
   exact (h.good x h').mono (by omega)
  ·
   rw [List.mem_singleton.1 h']; exact hs.mono (by have:=h.sz.ms; omega)
 ·
  have hr:r ∈ p.2 ++ [(d0Q p.1 s).1]:=hr
  rcases List.mem_append.1 hr with h' | h'
  ·
   exact h.msgs r h'
  ·
   rw [List.mem_singleton.1 h']; exact g2
noncomputable def h1F (a:List (I .i64)) (calm:Bool) (i:Nat) (l:List b2B) (p:MS × List Rcp):(((List (I .i64)) × (Bool × ((I .i64) × Unit))) × (a0W × (a0N × ((List a0E) × ((List a0B) × (a0U × ((List a0G) × ((List (I .u64)) × ((List a0D) × ((List a1D) × ((List a1C) × Unit))))))))))) :=
 ((a,(calm,(i6 i,()))),(p.1.j,(lgH p.1.v,(p.1.ac,(p.1.ms,(esH p.1.bal,(p.1.rt,(p.1.cl,(p.1.ba,(l,(p.2,())))))))))))
noncomputable def h0U (l:List b2B) (p:MS × List Rcp):Unit × (a0W × (a0N × (a0U × ((List a0B) × ((List a0E) × ((List a0G) × ((List (I .u64)) × ((List a0D) × ((List a1D) × ((List a1C) × Unit)))))))))) :=
 ((),(p.1.j,(lgH p.1.v,(esH p.1.bal,(p.1.ms,(p.1.ac,(p.1.rt,(p.1.cl,(p.1.ba,(l,(p.2,())))))))))))
theorem g6Z (a:List (I .i64)) (calm:Bool) (ha:a.length ≤ 1000):∃ (l:List b2B) (p:MS × List Rcp),a7M K0 ((a,(calm,())),()) = some (h0U l p)∧RunOk calm a.length l p:=by
 refine Wp.out (T:=fun o=>∃ (l:List b2B) (p:MS × List Rcp),o = some (h0U l p)∧RunOk calm a.length l p) ?_
 unfold a7M
 refine Wp.optF g4R (Wp.optF f6Q ?_)
 refine Wp.iter (fun x=>∃ i,i ≤ 8∧x = h1F a calm i setupL (c6Q ms0 (setupL.take i))) (fun x=>8 - x.1.2.2.1.val.toNat) ?_ ⟨0,by omega,rfl⟩ (by rw [a7S]; show 8 - 0 < _; decide)
 rintro x ⟨i,hi,rfl⟩
 obtain ⟨hsz,hm⟩:=d5A calm i hi
 have hrl:=c7E ms0 (setupL.take i)
 have hnx:(h:i < 8)→c6Q ms0 (setupL.take (i + 1)) = c6E (c6Q ms0 (setupL.take i)) (rdL g3U setupL i):=by
  intro h
  have hl:i < setupL.length:=h
  rw [List.take_add_one,List.getElem?_eq_getElem hl,a3X _ _ _ hl]
  simp only [Option.toList]
  rw [c8B]
 have hfin:i = 8→c6Q ms0 (setupL.take i) = c6Q ms0 setupL:=by
  intro e
  rw [e]
  rfl
 generalize c6Q ms0 (setupL.take i) = p at *
 have h8:setupL.length = 8:=rfl
 have e:I.ltb (i6 i) (I.ofNat .i64 (a0I setupL)) = decide (i < 8):=a3A (n:=i) (m:=8) (by omega) (by omega)
 have hn:I.add (i6 i) (I.of .i64 1) = i6 (i + 1):=a4C (m:=1) (by omega)
 refine Wp.brn (fun hc=>?_) (fun hc=>?_)
 ·
  have hc:I.ltb (i6 i) (I.ofNat .i64 (a0I setupL)) = true:=hc
  rw [e] at hc
  have hc:=of_decide_eq_true hc
  have hnx:=hnx hc
  refine Wp.brnT (by show inB (i6 i) setupL.length = true; exact a3S (by omega) (by omega)) ?_
  have hmem:rdL g3U setupL i ∈ setupL:=b7E _ _ _ (by omega)
  have hg:=d5H calm (128 * i) _ hmem
  have hex:=f7Y p.1 (rdL g3U setupL i) (hsz.mono (by omega)) (by have:=hg.data; omega) (by have:=hg.prf; omega)
  have hrd:rdL ((I.of .i64 0),(zTx,(a0M,((I.of .u64 0),((I.of .i64 0),(Z_U,((I.of .u64 0),(g4Y,())))))))) setupL (I.nat (i6 i)) = rdL g3U setupL i:=by
   rw [a3N (by omega),a3X _ _ _ (by omega),a3X _ _ _ (by omega)]
  rw [← hrd] at hex
  refine Wp.optF hex ?_
  refine Wp.brnT (b9V _ _ (by show p.2.length + 1 ≤ _; rw [hrl,List.length_take]; omega)) ?_
  refine Wp.again ⟨i + 1,by omega,?_⟩ ?_
  ·
   rw [hnx]
   show ((a,(calm,(I.add (i6 i) (I.of .i64 1),()))),_) = _
   rw [hn,← hrd]
   rfl
  ·
   show 8 - (I.add (i6 i) (I.of .i64 1)).val.toNat < 8 - (i6 i).val.toNat
   rw [hn,a0V (by omega),a0V (by omega)]; omega
 ·
  have hc:I.ltb (i6 i) (I.ofNat .i64 (a0I setupL)) = false:=hc
  rw [e] at hc
  have hc:i = 8:=by have:=of_decide_eq_false hc; omega
  subst hc
  have hfin:=hfin rfl
  have h0:RunOk calm 0 setupL p:=⟨hfin,rfl,hsz.mono (by omega),d5H calm _,hm⟩
  clear hnx hfin hsz hm hrl
  refine Wp.done ?_
  refine Wp.iter (fun x=>∃ (i:Nat) (l:List b2B) (p:MS × List Rcp),i ≤ a.length∧x = h1F a calm i l p∧RunOk calm i l p) (fun x=>a.length - x.1.2.2.1.val.toNat) ?_ ⟨0,setupL,p,by omega,rfl,h0⟩ (by rw [a7S]; show a.length - 0 < _; omega)
  rintro x ⟨i,l,q,hi,rfl,hR⟩
  have e:I.ltb (i6 i) (I.ofNat .i64 (a0I a)) = decide (i < a.length):=a3A (n:=i) (by omega) (by show a.length < _; omega)
  have hn:I.add (i6 i) (I.of .i64 1) = i6 (i + 1):=a4C (m:=1) (by omega)
  have hql:q.2.length = 8 + i:=by rw [hR.run,c7E,hR.len]
  refine Wp.brn (fun hc=>?_) (fun hc=>?_)
  ·
   have hc:I.ltb (i6 i) (I.ofNat .i64 (a0I a)) = true:=hc
   rw [e] at hc
   have hc:=of_decide_eq_true hc
   refine Wp.brnT (by show inB (i6 i) a.length = true; exact a3S (by omega) (by omega)) ?_
   have hsz:=hR.sz.mono (show 128 * (8 + i) ≤ 100000000 by omega)
   obtain ⟨s,hs,hg⟩:=g3D (rdL (I.of .i64 0) a (I.nat (i6 i))) calm q.1 hsz
   refine Wp.optF hs (Wp.brnT (b9V _ _ (by show l.length + 1 ≤ _; rw [hR.len]; omega)) ?_)
   refine Wp.optF (f7Y q.1 s hsz (by have:=hg.data; omega) (by have:=hg.prf; have:=hsz.ms; omega)) ?_
   refine Wp.brnT (b9V _ _ (by show q.2.length + 1 ≤ _; omega)) ?_
   refine Wp.again ⟨i + 1,l ++ [s],c6E q s,by omega,?_,hR.snoc hg⟩ ?_
   ·
    show ((a,(calm,(I.add (i6 i) (I.of .i64 1),()))),_) = _
    rw [hn]
    rfl
   ·
    show a.length - (I.add (i6 i) (I.of .i64 1)).val.toNat < a.length - (i6 i).val.toNat
    rw [hn,a0V (by omega),a0V (by omega)]; omega
  ·
   have hc:I.ltb (i6 i) (I.ofNat .i64 (a0I a)) = false:=hc
   rw [e] at hc
   have hc:i = a.length:=by have:=of_decide_eq_false hc; omega
   subst hc
   exact Wp.done ⟨l,q,rfl,hR⟩
end Sym

/- Audit: totals. -/
namespace Sym
open Go
abbrev d5T:Type:=b4T
def e3F (r:Rcp):I .i64:=r.1
def b8Z (r:Rcp):I .i64:=r.2.1
def c3Q (r:Rcp):Chg:=r.2.2.1
def f1B (r:Rcp):U:=r.2.2.2.2.2.2.2.1
def up (T:Nat→Nat) (j n:Nat):Nat→Nat:=fun i=>if i = j then T i + n else T i
theorem a9J (T:Nat→Nat) (j n:Nat):up T j n j = T j + n:=if_pos rfl
theorem a3R (T:Nat→Nat) {j i:Nat} (n:Nat) (h:i ≠ j):up T j n i = T i:=if_neg h
def Ovr (T:Nat→Nat):Prop:=∃ j,j < 8∧U.top ≤ T j
theorem Ovr.up {T:Nat→Nat} (h:Ovr T) (j n:Nat):Ovr (up T j n):=by
 obtain ⟨i,hi,h⟩:=h
 refine ⟨i,hi,?_⟩
 by_cases e:i = j
 ·
  subst e; rw [a9J]; omega
 ·
  rw [a3R T n e]; exact h
def PAcc (ov:Bool) (u:d5T) (T:Nat→Nat):Prop :=
 if ov = true then Ovr T else u.1.val = T 0∧u.2.1.val = T 1∧u.2.2.1.val = T 2∧u.2.2.2.1.val = T 3∧u.2.2.2.2.1.val = T 4∧u.2.2.2.2.2.1.val = T 5∧u.2.2.2.2.2.2.1.val = T 6∧u.2.2.2.2.2.2.2.1.val = T 7
def c5A (a n:U):Bool:=I.neb (d9B a n).2 (I.of .i64 0)
theorem c9M {a n:U} (h:c5A a n = true):U.top ≤ a.val + n.val:=by
 unfold c5A d9B at h
 by_cases c:a.val + n.val < U.top
 ·
  rw [if_pos c] at h
  have h:I.neb (I.of .i64 0) (I.of .i64 0) = true:=h
  exact absurd h (by decide)
 ·
  omega
theorem c9G {a n:U} (h:c5A a n = false):(d9B a n).1.val = a.val + n.val:=by
 unfold c5A at h
 unfold d9B at h ⊢
 by_cases c:a.val + n.val < U.top
 ·
  rw [if_pos c]; exact U.val_of c
 ·
  rw [if_neg c] at h
  have h:I.neb (I.of .i64 4) (I.of .i64 0) = false:=h
  exact absurd h (by decide)
theorem g8E {ov:Bool} {u:d5T} {T:Nat→Nat} (h:PAcc ov u T) (n:U):PAcc (ov || c5A u.1 n) (((d9B u.1 n).1,u.2)) (up T 0 n.val):=by
 cases ov with
 | true =>
  have h:Ovr T:=h
  exact h.up 0 n.val
 | false =>
  have h:_∧_:=h
  obtain ⟨h0,h1,h2,h3,h4,h5,h6,h7⟩:=h
  cases he:c5A u.1 n with
  | true=>exact ⟨0,by decide,by rw [a9J,← h0]; exact c9M he⟩
  | false =>
   refine ⟨by rw [a9J,← h0]; exact c9G he,by rw [a3R T n.val (by decide)]; exact h1,by rw [a3R T n.val (by decide)]; exact h2,by rw [a3R T n.val (by decide)]; exact h3,by rw [a3R T n.val (by decide)]; exact h4,by rw [a3R T n.val (by decide)]; exact h5,by rw [a3R T n.val (by decide)]; exact h6,by rw [a3R T n.val (by decide)]; exact h7⟩
theorem h0M {ov:Bool} {u:d5T} {T:Nat→Nat} (h:PAcc ov u T) (n:U):PAcc (ov || c5A u.2.1 n) ((u.1,((d9B u.2.1 n).1,u.2.2))) (up T 1 n.val):=by
 cases ov with
 | true =>
  have h:Ovr T:=h
  exact h.up 1 n.val
 | false =>
  have h:_∧_:=h
  obtain ⟨h0,h1,h2,h3,h4,h5,h6,h7⟩:=h
  cases he:c5A u.2.1 n with
  | true=>exact ⟨1,by decide,by rw [a9J,← h1]; exact c9M he⟩
  | false =>
   refine ⟨by rw [a3R T n.val (by decide)]; exact h0,by rw [a9J,← h1]; exact c9G he,by rw [a3R T n.val (by decide)]; exact h2,by rw [a3R T n.val (by decide)]; exact h3,by rw [a3R T n.val (by decide)]; exact h4,by rw [a3R T n.val (by decide)]; exact h5,by rw [a3R T n.val (by decide)]; exact h6,by rw [a3R T n.val (by decide)]; exact h7⟩
theorem g8B {ov:Bool} {u:d5T} {T:Nat→Nat} (h:PAcc ov u T) (n:U):PAcc (ov || c5A u.2.2.1 n) ((u.1,(u.2.1,((d9B u.2.2.1 n).1,u.2.2.2)))) (up T 2 n.val):=by
 cases ov with
 | true =>
  have h:Ovr T:=h
  exact h.up 2 n.val
 | false =>
  have h:_∧_:=h
  obtain ⟨h0,h1,h2,h3,h4,h5,h6,h7⟩:=h
  cases he:c5A u.2.2.1 n with
  | true=>exact ⟨2,by decide,by rw [a9J,← h2]; exact c9M he⟩
  | false =>
   refine ⟨by rw [a3R T n.val (by decide)]; exact h0,by rw [a3R T n.val (by decide)]; exact h1,by rw [a9J,← h2]; exact c9G he,by rw [a3R T n.val (by decide)]; exact h3,by rw [a3R T n.val (by decide)]; exact h4,by rw [a3R T n.val (by decide)]; exact h5,by rw [a3R T n.val (by decide)]; exact h6,by rw [a3R T n.val (by decide)]; exact h7⟩
theorem g7V {ov:Bool} {u:d5T} {T:Nat→Nat} (h:PAcc ov u T) (n:U):PAcc (ov || c5A u.2.2.2.1 n) ((u.1,(u.2.1,(u.2.2.1,((d9B u.2.2.2.1 n).1,u.2.2.2.2))))) (up T 3 n.val):=by
 cases ov with
 | true =>
  have h:Ovr T:=h
  exact h.up 3 n.val
 | false =>
  have h:_∧_:=h
  obtain ⟨h0,h1,h2,h3,h4,h5,h6,h7⟩:=h
  cases he:c5A u.2.2.2.1 n with
  | true=>exact ⟨3,by decide,by rw [a9J,← h3]; exact c9M he⟩
  | false =>
   refine ⟨by rw [a3R T n.val (by decide)]; exact h0,by rw [a3R T n.val (by decide)]; exact h1,by rw [a3R T n.val (by decide)]; exact h2,by rw [a9J,← h3]; exact c9G he,by rw [a3R T n.val (by decide)]; exact h4,by rw [a3R T n.val (by decide)]; exact h5,by rw [a3R T n.val (by decide)]; exact h6,by rw [a3R T n.val (by decide)]; exact h7⟩
theorem g9O {ov:Bool} {u:d5T} {T:Nat→Nat} (h:PAcc ov u T) (n:U):PAcc (ov || c5A u.2.2.2.2.1 n) ((u.1,(u.2.1,(u.2.2.1,(u.2.2.2.1,((d9B u.2.2.2.2.1 n).1,u.2.2.2.2.2)))))) (up T 4 n.val):=by
 cases ov with
 | true =>
  have h:Ovr T:=h
  exact h.up 4 n.val
 | false =>
  have h:_∧_:=h
  obtain ⟨h0,h1,h2,h3,h4,h5,h6,h7⟩:=h
  cases he:c5A u.2.2.2.2.1 n with
  | true=>exact ⟨4,by decide,by rw [a9J,← h4]; exact c9M he⟩
  | false =>
   refine ⟨by rw [a3R T n.val (by decide)]; exact h0,by rw [a3R T n.val (by decide)]; exact h1,by rw [a3R T n.val (by decide)]; exact h2,by rw [a3R T n.val (by decide)]; exact h3,by rw [a9J,← h4]; exact c9G he,by rw [a3R T n.val (by decide)]; exact h5,by rw [a3R T n.val (by decide)]; exact h6,by rw [a3R T n.val (by decide)]; exact h7⟩
theorem g8F {ov:Bool} {u:d5T} {T:Nat→Nat} (h:PAcc ov u T) (n:U):PAcc (ov || c5A u.2.2.2.2.2.1 n) ((u.1,(u.2.1,(u.2.2.1,(u.2.2.2.1,(u.2.2.2.2.1,((d9B u.2.2.2.2.2.1 n).1,u.2.2.2.2.2.2))))))) (up T 5 n.val):=by
 cases ov with
 | true =>
  have h:Ovr T:=h
  exact h.up 5 n.val
 | false =>
  have h:_∧_:=h
  obtain ⟨h0,h1,h2,h3,h4,h5,h6,h7⟩:=h
  cases he:c5A u.2.2.2.2.2.1 n with
  | true=>exact ⟨5,by decide,by rw [a9J,← h5]; exact c9M he⟩
  | false =>
   refine ⟨by rw [a3R T n.val (by decide)]; exact h0,by rw [a3R T n.val (by decide)]; exact h1,by rw [a3R T n.val (by decide)]; exact h2,by rw [a3R T n.val (by decide)]; exact h3,by rw [a3R T n.val (by decide)]; exact h4,by rw [a9J,← h5]; exact c9G he,by rw [a3R T n.val (by decide)]; exact h6,by rw [a3R T n.val (by decide)]; exact h7⟩
theorem g8D {ov:Bool} {u:d5T} {T:Nat→Nat} (h:PAcc ov u T) (n:U):PAcc (ov || c5A u.2.2.2.2.2.2.1 n) ((u.1,(u.2.1,(u.2.2.1,(u.2.2.2.1,(u.2.2.2.2.1,(u.2.2.2.2.2.1,((d9B u.2.2.2.2.2.2.1 n).1,u.2.2.2.2.2.2.2)))))))) (up T 6 n.val):=by
 cases ov with
 | true =>
  have h:Ovr T:=h
  exact h.up 6 n.val
 | false =>
  have h:_∧_:=h
  obtain ⟨h0,h1,h2,h3,h4,h5,h6,h7⟩:=h
  cases he:c5A u.2.2.2.2.2.2.1 n with
  | true=>exact ⟨6,by decide,by rw [a9J,← h6]; exact c9M he⟩
  | false =>
   refine ⟨by rw [a3R T n.val (by decide)]; exact h0,by rw [a3R T n.val (by decide)]; exact h1,by rw [a3R T n.val (by decide)]; exact h2,by rw [a3R T n.val (by decide)]; exact h3,by rw [a3R T n.val (by decide)]; exact h4,by rw [a3R T n.val (by decide)]; exact h5,by rw [a9J,← h6]; exact c9G he,by rw [a3R T n.val (by decide)]; exact h7⟩
theorem g9H {ov:Bool} {u:d5T} {T:Nat→Nat} (h:PAcc ov u T) (n:U):PAcc (ov || c5A u.2.2.2.2.2.2.2.1 n) ((u.1,(u.2.1,(u.2.2.1,(u.2.2.2.1,(u.2.2.2.2.1,(u.2.2.2.2.2.1,(u.2.2.2.2.2.2.1,((d9B u.2.2.2.2.2.2.2.1 n).1,u.2.2.2.2.2.2.2.2))))))))) (up T 7 n.val):=by
 cases ov with
 | true =>
  have h:Ovr T:=h
  exact h.up 7 n.val
 | false =>
  have h:_∧_:=h
  obtain ⟨h0,h1,h2,h3,h4,h5,h6,h7⟩:=h
  cases he:c5A u.2.2.2.2.2.2.2.1 n with
  | true=>exact ⟨7,by decide,by rw [a9J,← h7]; exact c9M he⟩
  | false =>
   refine ⟨by rw [a3R T n.val (by decide)]; exact h0,by rw [a3R T n.val (by decide)]; exact h1,by rw [a3R T n.val (by decide)]; exact h2,by rw [a3R T n.val (by decide)]; exact h3,by rw [a3R T n.val (by decide)]; exact h4,by rw [a3R T n.val (by decide)]; exact h5,by rw [a3R T n.val (by decide)]; exact h6,by rw [a9J,← h7]; exact c9G he⟩
def g6D (m:Msg):U:=m.2.2.1
noncomputable def f5B (r:Rcp) (i:Nat):Nat:=(((b3R r).take i).map fun m=>(g6D m).val).sum
theorem f3L {r:Rcp} {i:Nat} (h:i < (b3R r).length):f5B r (i + 1) = f5B r i + (g6D (rdL a0M (b3R r) i)).val:=by
 unfold f5B
 rw [List.take_add_one,List.getElem?_eq_getElem h,a3X _ _ _ h,List.map_append,List.sum_append]
 simp
noncomputable def e4Q (r:Rcp):Nat:=f5B r (b3R r).length
def f3N (k:I .i64) (s:b2B) (r:Rcp) (T:Nat→Nat):Nat→Nat :=
 if k.val = 1 then up (up (up (up T 3 (b5C (c3Q r)).val) 4 (a9L (c3Q r)).val) 5 (c9P (c3Q r)).val) 6 (c1A (c3Q r)).val
 else if k.val = 2 then up T 7 (f1B r).val
 else if k.val = 6 then up T 0 (c1E s).val
 else if k.val = 7 then up T 2 (c6R (d3H s)).val
 else T
noncomputable def d0C (s:b2B) (r:Rcp) (T:Nat→Nat):Nat→Nat:=if (b8Z r).val = 0 then f3N (e3F r) s r (up T 1 (e4Q r)) else T
noncomputable def dS:b2B:=((I.of .i64 0),(zTx,(a0M,((I.of .u64 0),((I.of .i64 0),(Z_U,((I.of .u64 0),(g4Y,()))))))))
noncomputable def dR:Rcp:=d3N (I.of .i64 0)
noncomputable def c5V (l:List b2B) (r:List Rcp):Nat→(Nat→Nat)
 | 0=>fun _=>0
 | i + 1=>d0C (rdL dS l i) (rdL dR r i) (c5V l r i)
def d8N (l:List b2B) (r:List Rcp) (i:Nat):Prop:=(b8Z (rdL dR r i)).val = 0→(e3F (rdL dR r i)).val = (a2N (rdL dS l i)).val
noncomputable def g1E (T:Nat→Nat):d5T:=(U.of (T 0),(U.of (T 1),(U.of (T 2),(U.of (T 3),(U.of (T 4),(U.of (T 5),(U.of (T 6),(U.of (T 7),()))))))))
open Classical in
noncomputable def g7M (T:Nat→Nat):d5T × I .i64:=if Ovr T then (a2W,I.of .i64 4) else (g1E T,I.of .i64 0)
theorem g4W {T:Nat→Nat} (h:Ovr T):g7M T = (a2W,I.of .i64 4):=if_pos h
theorem f2S {T:Nat→Nat} (h:¬ Ovr T):g7M T = (g1E T,I.of .i64 0):=if_neg h
open Classical in
noncomputable def e2S (l:List b2B) (r:List Rcp):d5T × I .i64 :=
 if l.length ≠ r.length then (a2W,I.of .i64 2)
 else if ∀ i,i < l.length→d8N l r i then g7M (c5V l r l.length)
 else (a2W,I.of .i64 2)
theorem PAcc.of {ov ov':Bool} {u:d5T} {T:Nat→Nat} (h:PAcc ov u T) (e:ov = ov'):PAcc ov' u T:=e ▸ h
end Sym

/- Audit: the program's totals. -/
namespace Sym
open Go
theorem f2W {l:List b2B} {r:List Rcp} {i:Nat} (hl:l.length = r.length) (hi:i < l.length) (hc:(b8Z (rdL dR r i)).val = 0) (hk:(e3F (rdL dR r i)).val ≠ (a2N (rdL dS l i)).val):e2S l r = (a2W,I.of .i64 2):=by
 unfold e2S
 rw [if_neg (by simp [hl]),if_neg (fun h=>hk (h i hi hc))]
noncomputable abbrev zR:Rcp:=((I.of .i64 0),((I.of .i64 0),(a1S,(Z_U,(Z_U,((I.of .u64 0),(Z_U,(Z_U,([],())))))))))
theorem e9J (l:List b2B) (r:List Rcp) (hl:l.length ≤ 1000) (hr:r.length ≤ 1073741824) (hm:∀ x ∈ r,(b3R x).length ≤ 1000):b2P K0 ((l,(r,())),()) = some (((e2S l r).1,((e2S l r).2,())),()):=by
 refine Wp.out (T:=fun o=>o = some (((e2S l r).1,((e2S l r).2,())),())) ?_
 unfold b2P
 have e:I.neb (I.ofNat .i64 (a0I l)) (I.ofNat .i64 (a0I r)) = decide (l.length ≠ r.length):=i6_neb' (n:=l.length) (m:=r.length) (by omega) (by omega)
 refine Wp.brn (fun h=>?_) (fun h=>?_)
 ·
  have h:I.neb (I.ofNat .i64 (a0I l)) (I.ofNat .i64 (a0I r)) = true:=h
  rw [e] at h
  unfold e2S
  rw [if_pos (of_decide_eq_true h)]
  rfl
 have h:I.neb (I.ofNat .i64 (a0I l)) (I.ofNat .i64 (a0I r)) = false:=h
 rw [e] at h
 have hlr:l.length = r.length:=by have:=of_decide_eq_false h; omega
 refine Wp.iter (fun x=>∃ i,i ≤ l.length∧x = ((l,(r,(r,(i6 r.length,(i6 i,()))))),(a2W,()))∧∀ k,k < i→d8N l r k) (fun x=>l.length - x.1.2.2.2.2.1.val.toNat) ?_ ⟨0,by omega,rfl,fun k hk=>by omega⟩ (by rw [a7S]; show l.length - 0 < _; omega)
 rintro x ⟨i,hi,rfl,hk⟩
 have hn:I.add (i6 i) (I.of .i64 1) = i6 (i + 1):=a4C (m:=1) (by omega)
 have hmu:l.length - (I.add (i6 i) (I.of .i64 1)).val.toNat < l.length - (i6 i).val.toNat ∨ l.length ≤ i:=by rw [hn,a0V (by omega),a0V (by omega)]; omega
 have e2:I.ltb (i6 i) (i6 r.length) = decide (i < r.length):=a3A (by omega) (by omega)
 refine Wp.brn (fun hc=>?_) (fun hc=>?_)
 ·
  have hc:I.ltb (i6 i) (i6 r.length) = true:=hc
  rw [e2] at hc
  have hc:=of_decide_eq_true hc
  have hrd:rdL zR r (I.nat (i6 i)) = rdL dR r i:=by rw [a3N (by omega)]; rfl
  have hls:rdL dS l (I.nat (i6 i)) = rdL dS l i:=by rw [a3N (by omega)]
  refine Wp.brnT (a3S (by show i < r.length; omega) (by omega)) ?_
  refine Wp.brn (fun g=>?_) (fun g=>?_)
  ·
   have g:(b8Z (rdL zR r (I.nat (i6 i)))).val = 0:=iff_eqb.1 g
   rw [hrd] at g
   refine Wp.brnT (a3S (by show i < l.length; omega) (by omega)) ?_
   refine Wp.brn (fun q=>?_) (fun q=>?_)
   ·
    have q:(e3F (rdL zR r (I.nat (i6 i)))).val ≠ (a2N (rdL dS l (I.nat (i6 i)))).val:=iff_neb.1 q
    rw [hrd,hls] at q
    refine Wp.done ?_
    rw [f2W hlr (by omega) g q]
    rfl
   ·
    have q:(e3F (rdL zR r (I.nat (i6 i)))).val = (a2N (rdL dS l (I.nat (i6 i)))).val:=niff_neb.1 q
    rw [hrd,hls] at q
    refine Wp.again ⟨i + 1,by omega,by show ((l,(r,(r,(i6 r.length,(I.add (i6 i) (I.of .i64 1),()))))),_) = _; rw [hn],fun k hk'=>?_⟩ (hmu.resolve_right (by omega))
    rcases (by omega:k < i ∨ k = i) with h3 | rfl
    ·
     exact hk k h3
    ·
     exact fun _=>q
  ·
   have g:(b8Z (rdL zR r (I.nat (i6 i)))).val ≠ 0:=niff_eqb.1 g
   rw [hrd] at g
   refine Wp.again ⟨i + 1,by omega,by show ((l,(r,(r,(i6 r.length,(I.add (i6 i) (I.of .i64 1),()))))),_) = _; rw [hn],fun k hk'=>?_⟩ (hmu.resolve_right (by omega))
   rcases (by omega:k < i ∨ k = i) with h3 | rfl
   ·
    exact hk k h3
   ·
    exact fun h0=>absurd h0 g
 have hc:I.ltb (i6 i) (i6 r.length) = false:=hc
 rw [e2] at hc
 have hc:i = l.length:=by have:=of_decide_eq_false hc; omega
 subst hc
 have hF:e2S l r = g7M (c5V l r l.length):=by
  unfold e2S
  rw [if_neg (by simp [hlr]),if_pos hk]
 clear hmu hn e2 hi
 refine Wp.done ?_
 refine Wp.iter (fun x=>∃ (i:Nat) (u:d5T) (ov:Bool),i ≤ l.length∧x = ((l,(r,(i6 r.length,(i6 i,())))),(a2W,(u,((ov,()),()))))∧PAcc ov u (c5V l r i)) (fun x=>l.length - x.1.2.2.2.1.val.toNat) ?_ ⟨0,_,_,by omega,rfl,rfl,rfl,rfl,rfl,rfl,rfl,rfl,rfl⟩ (by rw [a7S]; show l.length - 0 < _; omega)
 rintro x ⟨i,u,ov,hi,rfl,hP⟩
 have hn:I.add (i6 i) (I.of .i64 1) = i6 (i + 1):=a4C (m:=1) (by omega)
 have hmu:l.length - (I.add (i6 i) (I.of .i64 1)).val.toNat < l.length - (i6 i).val.toNat ∨ l.length ≤ i:=by rw [hn,a0V (by omega),a0V (by omega)]; omega
 have e2:I.ltb (i6 i) (i6 r.length) = decide (i < r.length):=a3A (by omega) (by omega)
 refine Wp.brn (fun hc=>?_) (fun hc=>?_)
 case refine_2 =>
  have hc:I.ltb (i6 i) (i6 r.length) = false:=hc
  rw [e2] at hc
  have hc:i = l.length:=by have:=of_decide_eq_false hc; omega
  subst hc
  refine Wp.done (Wp.brn (fun ho=>?_) (fun ho=>?_))
  ·
   have ho:ov = true:=ho
   subst ho
   have hP:Ovr (c5V l r l.length):=hP
   rw [hF,g4W hP]
   rfl
  ·
   have ho:ov = false:=ho
   subst ho
   have hP:_∧_:=hP
   obtain ⟨h0,h1,h2,h3,h4,h5,h6,h7⟩:=hP
   have hno:¬ Ovr (c5V l r l.length):=by
    rintro ⟨j,hj,h⟩
    have t0:=U.lt u.1; have t1:=U.lt u.2.1; have t2:=U.lt u.2.2.1; have t3:=U.lt u.2.2.2.1
    have t4:=U.lt u.2.2.2.2.1; have t5:=U.lt u.2.2.2.2.2.1; have t6:=U.lt u.2.2.2.2.2.2.1; have t7:=U.lt u.2.2.2.2.2.2.2.1
    rcases (by omega:j = 0 ∨ j = 1 ∨ j = 2 ∨ j = 3 ∨ j = 4 ∨ j = 5 ∨ j = 6 ∨ j = 7) with rfl | rfl | rfl | rfl | rfl | rfl | rfl | rfl <;> omega
   rw [hF,f2S hno]
   have hV:g1E (c5V l r l.length) = u:=by
    unfold g1E
    rw [← h0,← h1,← h2,← h3,← h4,← h5,← h6,← h7]
    simp only [U.of_val]
   rw [hV]
   rfl
 have hc:I.ltb (i6 i) (i6 r.length) = true:=hc
 rw [e2] at hc
 have hc:=of_decide_eq_true hc
 have hrd:rdL zR r (I.nat (i6 i)) = rdL dR r i:=by rw [a3N (by omega)]; rfl
 have hls:rdL dS l (I.nat (i6 i)) = rdL dS l i:=by rw [a3N (by omega)]
 refine Wp.brnT (a3S (by show i < r.length; omega) (by omega)) ?_
 refine Wp.brn (fun g=>?_) (fun g=>?_)
 case refine_2 =>
  have g:(b8Z (rdL zR r (I.nat (i6 i)))).val ≠ 0:=niff_eqb.1 g
  rw [hrd] at g
  refine Wp.again ⟨i + 1,u,ov,by omega,by show ((l,(r,(i6 r.length,(I.add (i6 i) (I.of .i64 1),())))),_) = _; rw [hn]; rfl,?_⟩ (hmu.resolve_right (by omega))
  have:c5V l r (i + 1) = c5V l r i:=by
   show d0C _ _ _ = _
   unfold d0C
   rw [if_neg g]
  rw [this]
  exact hP
 have g:(b8Z (rdL zR r (I.nat (i6 i)))).val = 0:=iff_eqb.1 g
 rw [hrd] at g
 have hkk:=hk i (by omega) g
 refine Wp.brnT (a3S (by show i < l.length; omega) (by omega)) ?_
 have hS:c5V l r (i + 1) = f3N (a2N (rdL dS l i)) (rdL dS l i) (rdL dR r i) (up (c5V l r i) 1 (e4Q (rdL dR r i))):=by
  show d0C _ _ _ = _
  unfold d0C
  rw [if_pos g]
  unfold f3N
  rw [hkk]
 have hML:=hm (rdL dR r i) (b7E _ _ _ hc)
 have hfin:∀ (ov':Bool) (u':d5T),PAcc ov' u' (c5V l r (i + 1))→Wp (Rnd (fun o:Option _=>o = some (((e2S l r).1,((e2S l r).2,())),())) (fun x=>∃ (i:Nat) (u:d5T) (ov:Bool),i ≤ l.length∧x = ((l,(r,(i6 r.length,(i6 i,())))),(a2W,(u,((ov,()),()))))∧PAcc ov u (c5V l r i)) (fun x=>l.length - x.1.2.2.2.1.val.toNat) (l.length - (i6 i).val.toNat)) (.again ((l,(r,(i6 r.length,(I.add (i6 i) (I.of .i64 1),())))),(a2W,(u',((ov',()),()))))):=by
  intro ov' u' h'
  exact Wp.again ⟨i + 1,u',ov',by omega,by rw [hn],h'⟩ (hmu.resolve_right (by omega))
 have hms:b3R (rdL zR r (I.nat (i6 i))) = b3R (rdL dR r i):=by rw [hrd]
 refine Wp.iter (fun x=>∃ (q:Nat) (u':d5T) (ov':Bool),q ≤ (b3R (rdL zR r (I.nat (i6 i)))).length∧x = ((b3R (rdL zR r (I.nat (i6 i))),(I.ofNat .i64 (a0I (b3R (rdL zR r (I.nat (i6 i))))),(i6 q,(l,(r,(i6 r.length,(i6 i,()))))))),((ov',()),(u',(rdL dS l (I.nat (i6 i)),(rdL zR r (I.nat (i6 i)),(a2W,()))))))∧PAcc ov' u' (up (c5V l r i) 1 (f5B (rdL dR r i) q))) (fun x=>(b3R (rdL zR r (I.nat (i6 i)))).length - x.1.2.2.1.val.toNat) ?_ ⟨0,u,ov,by omega,rfl,?_⟩ (by rw [a7S,hms]; show _ - 0 < _; omega)
 case refine_2 =>
  have:up (c5V l r i) 1 (f5B (rdL dR r i) 0) = c5V l r i:=by
   funext j
   unfold up
   split
   ·
    exact Nat.add_zero _
   ·
    rfl
  rw [this]
  exact hP
 rintro x ⟨q,v,w,hq,rfl,hQ⟩
 have hql:q ≤ 1000:=by rw [hms] at hq; omega
 have hn2:I.add (i6 q) (I.of .i64 1) = i6 (q + 1):=a4C (m:=1) (by omega)
 have e3:I.ltb (i6 q) (I.ofNat .i64 (a0I (b3R (rdL zR r (I.nat (i6 i)))))) = decide (q < (b3R (rdL zR r (I.nat (i6 i)))).length):=a3A (n:=q) (by omega) (by show (b3R (rdL zR r (I.nat (i6 i)))).length < _; rw [hms]; omega)
 refine Wp.brn (fun hc2=>?_) (fun hc2=>?_)
 ·
  have hc2:I.ltb (i6 q) (I.ofNat .i64 (a0I (b3R (rdL zR r (I.nat (i6 i)))))) = true:=hc2
  rw [e3] at hc2
  have hc2:=of_decide_eq_true hc2
  refine Wp.brnT (by show inB (i6 q) (b3R (rdL zR r (I.nat (i6 i)))).length = true; exact a3S hc2 (by omega)) ?_
  refine Wp.optF (a3M v.2.1 (g6D (rdL a0M (b3R (rdL zR r (I.nat (i6 i)))) (I.nat (i6 q))))) ?_
  have hA:=h0M hQ (g6D (rdL a0M (b3R (rdL zR r (I.nat (i6 i)))) (I.nat (i6 q))))
  have hT:up (up (c5V l r i) 1 (f5B (rdL dR r i) q)) 1 (g6D (rdL a0M (b3R (rdL zR r (I.nat (i6 i)))) (I.nat (i6 q)))).val = up (c5V l r i) 1 (f5B (rdL dR r i) (q + 1)):=by
   rw [hms,a3N (by omega),f3L (by rw [← hms]; exact hc2)]
   funext j
   unfold up
   split
   ·
    omega
   ·
    rfl
  rw [hT] at hA
  have hmu2:(b3R (rdL zR r (I.nat (i6 i)))).length - (I.add (i6 q) (I.of .i64 1)).val.toNat < (b3R (rdL zR r (I.nat (i6 i)))).length - (i6 q).val.toNat:=by rw [hn2,a0V (by omega),a0V (by omega)]; omega
  refine Wp.brn (fun ho=>?_) (fun ho=>?_)
  ·
   have ho:w = true:=ho
   exact Wp.again ⟨q + 1,_,true,by omega,by rw [← hn2],hA.of (by rw [ho]; rfl)⟩ hmu2
  ·
   have ho:w = false:=ho
   exact Wp.again ⟨q + 1,_,_,by omega,by rw [← hn2],hA.of (by rw [ho]; rfl)⟩ hmu2
 ·
  have hc2:I.ltb (i6 q) (I.ofNat .i64 (a0I (b3R (rdL zR r (I.nat (i6 i)))))) = false:=hc2
  rw [e3] at hc2
  have hq2:q = (b3R (rdL dR r i)).length:=by have:=of_decide_eq_false hc2; rw [hms] at this hq; omega
  have hQ:PAcc w v (up (c5V l r i) 1 (e4Q (rdL dR r i))):=by rw [hq2] at hQ; exact hQ
  clear hms hc2 e3 hq
  have hsk:a2N (rdL dS l (I.nat (i6 i))) = a2N (rdL dS l i):=by rw [hls]
  unfold f3N at hS
  refine Wp.done ?_
  refine Wp.brn (fun k1=>?_) (fun k1=>?_)
  ·
   have k1:(a2N (rdL dS l (I.nat (i6 i)))).val = 1:=iff_eqb.1 k1
   rw [hsk] at k1
   rw [if_pos k1] at hS
   have h3:=g7V hQ (b5C (c3Q (rdL dR r i)))
   have h4:=g9O h3 (a9L (c3Q (rdL dR r i)))
   have h5:=g8F h4 (c9P (c3Q (rdL dR r i)))
   have h6:=g8D h5 (c1A (c3Q (rdL dR r i)))
   rw [← hS,← hrd] at h6
   clear h3 h4 h5
   refine Wp.optF (a3M v.2.2.2.1 (b5C (c3Q (rdL zR r (I.nat (i6 i)))))) ?_
   refine Wp.brn (fun ho=>?_) (fun ho=>?_)
   ·
    have ho:w = true:=ho
    refine Wp.optF (a3M v.2.2.2.2.1 (a9L (c3Q (rdL zR r (I.nat (i6 i)))))) (Wp.optF (a3M v.2.2.2.2.2.1 (c9P (c3Q (rdL zR r (I.nat (i6 i)))))) (Wp.optF (a3M v.2.2.2.2.2.2.1 (c1A (c3Q (rdL zR r (I.nat (i6 i)))))) (hfin _ _ (h6.of ?_))))
    rw [ho]; rfl
   have ho:w = false:=ho
   subst ho
   refine Wp.optF (a3M v.2.2.2.2.1 (a9L (c3Q (rdL zR r (I.nat (i6 i)))))) ?_
   refine Wp.brn (fun o3=>?_) (fun o3=>?_)
   ·
    have o3:c5A v.2.2.2.1 (b5C (c3Q (rdL zR r (I.nat (i6 i))))) = true:=o3
    refine Wp.optF (a3M v.2.2.2.2.2.1 (c9P (c3Q (rdL zR r (I.nat (i6 i)))))) (Wp.optF (a3M v.2.2.2.2.2.2.1 (c1A (c3Q (rdL zR r (I.nat (i6 i)))))) (hfin _ _ (h6.of ?_)))
    rw [o3]; rfl
   have o3:c5A v.2.2.2.1 (b5C (c3Q (rdL zR r (I.nat (i6 i))))) = false:=o3
   refine Wp.optF (a3M v.2.2.2.2.2.1 (c9P (c3Q (rdL zR r (I.nat (i6 i)))))) ?_
   refine Wp.brn (fun o4=>?_) (fun o4=>?_)
   ·
    have o4:c5A v.2.2.2.2.1 (a9L (c3Q (rdL zR r (I.nat (i6 i))))) = true:=o4
    refine Wp.optF (a3M v.2.2.2.2.2.2.1 (c1A (c3Q (rdL zR r (I.nat (i6 i)))))) (hfin _ _ (h6.of ?_))
    have o4:c5A ((v.1,(v.2.1,(v.2.2.1,((d9B v.2.2.2.1 (b5C (c3Q (rdL zR r (I.nat (i6 i)))))).1,v.2.2.2.2)))):d5T).2.2.2.2.1 (a9L (c3Q (rdL zR r (I.nat (i6 i))))) = true:=o4
    rw [o3,o4]; rfl
   have o4:c5A ((v.1,(v.2.1,(v.2.2.1,((d9B v.2.2.2.1 (b5C (c3Q (rdL zR r (I.nat (i6 i)))))).1,v.2.2.2.2)))):d5T).2.2.2.2.1 (a9L (c3Q (rdL zR r (I.nat (i6 i))))) = false:=o4
   refine Wp.optF (a3M v.2.2.2.2.2.2.1 (c1A (c3Q (rdL zR r (I.nat (i6 i)))))) ?_
   refine Wp.brn (fun o5=>?_) (fun o5=>?_)
   ·
    have o5:c5A v.2.2.2.2.2.1 (c9P (c3Q (rdL zR r (I.nat (i6 i))))) = true:=o5
    refine hfin _ _ (h6.of ?_)
    show ((((false || c5A _ _) || c5A _ _) || c5A v.2.2.2.2.2.1 (c9P (c3Q (rdL zR r (I.nat (i6 i)))))) || _) = true
    rw [o5]
    simp
   have o5:c5A v.2.2.2.2.2.1 (c9P (c3Q (rdL zR r (I.nat (i6 i))))) = false:=o5
   refine hfin _ _ (h6.of ?_)
   show ((((false || c5A v.2.2.2.1 (b5C (c3Q (rdL zR r (I.nat (i6 i)))))) || c5A v.2.2.2.2.1 (a9L (c3Q (rdL zR r (I.nat (i6 i)))))) || c5A v.2.2.2.2.2.1 (c9P (c3Q (rdL zR r (I.nat (i6 i)))))) || _) = _
   have o4:c5A v.2.2.2.2.1 (a9L (c3Q (rdL zR r (I.nat (i6 i))))) = false:=o4
   rw [o3,o4,o5]
   rfl
  have k1:(a2N (rdL dS l (I.nat (i6 i)))).val ≠ 1:=niff_eqb.1 k1
  rw [hsk] at k1
  rw [if_neg k1] at hS
  refine Wp.brn (fun k2=>?_) (fun k2=>?_)
  ·
   have k2:(a2N (rdL dS l (I.nat (i6 i)))).val = 2:=iff_eqb.1 k2
   rw [hsk] at k2
   rw [if_pos k2] at hS
   have h7:=g9H hQ (f1B (rdL dR r i))
   rw [← hS,← hrd] at h7
   refine Wp.optF (a3M v.2.2.2.2.2.2.2.1 (f1B (rdL zR r (I.nat (i6 i))))) (Wp.brn (fun ho=>?_) (fun ho=>?_))
   ·
    have ho:w = true:=ho
    exact hfin _ _ (h7.of (by rw [ho]; rfl))
   ·
    have ho:w = false:=ho
    exact hfin _ _ (h7.of (by rw [ho]; rfl))
  have k2:(a2N (rdL dS l (I.nat (i6 i)))).val ≠ 2:=niff_eqb.1 k2
  rw [hsk] at k2
  rw [if_neg k2] at hS
  refine Wp.brn (fun k6=>?_) (fun k6=>?_)
  ·
   have k6:(a2N (rdL dS l (I.nat (i6 i)))).val = 6:=iff_eqb.1 k6
   rw [hsk] at k6
   rw [if_pos k6] at hS
   have h0:=g8E hQ (c1E (rdL dS l i))
   rw [← hS,← hls] at h0
   refine Wp.optF (a3M v.1 (c1E (rdL dS l (I.nat (i6 i))))) (Wp.brn (fun ho=>?_) (fun ho=>?_))
   ·
    have ho:w = true:=ho
    exact hfin _ _ (h0.of (by rw [ho]; rfl))
   ·
    have ho:w = false:=ho
    exact hfin _ _ (h0.of (by rw [ho]; rfl))
  have k6:(a2N (rdL dS l (I.nat (i6 i)))).val ≠ 6:=niff_eqb.1 k6
  rw [hsk] at k6
  rw [if_neg k6] at hS
  refine Wp.brn (fun k7=>?_) (fun k7=>?_)
  ·
   have k7:(a2N (rdL dS l (I.nat (i6 i)))).val = 7:=iff_eqb.1 k7
   rw [hsk] at k7
   rw [if_pos k7] at hS
   have h2:=g8B hQ (c6R (d3H (rdL dS l i)))
   rw [← hS,← hls] at h2
   refine Wp.optF (a3M v.2.2.1 (c6R (d3H (rdL dS l (I.nat (i6 i)))))) (Wp.brn (fun ho=>?_) (fun ho=>?_))
   ·
    have ho:w = true:=ho
    exact hfin _ _ (h2.of (by rw [ho]; rfl))
   ·
    have ho:w = false:=ho
    exact hfin _ _ (h2.of (by rw [ho]; rfl))
  have k7:(a2N (rdL dS l (I.nat (i6 i)))).val ≠ 7:=niff_eqb.1 k7
  rw [hsk] at k7
  rw [if_neg k7] at hS
  rw [← hS] at hQ
  exact hfin _ _ hQ
end Sym

/- Audit: the reference's totals. -/
namespace Sym
open Go
end Sym

/- Audit: the reference's totals, told as the program's. -/
namespace Sym
open Go
end Sym

/- From what a row reads of the arguments to plain values, and from a contract to the row's answer. -/
namespace Sym
open Go
mutual
def e8B (P:Program):Ty→TypeId→Bool
 | .cons a b,id=>match P.underlying id with
  | some (.struct fs)=>(match fs.toList with
   | f :: r=>e8B P a f.type && f4M P b r
   | []=>false)
  | _=>false
 | .arr _ t,id=>match P.underlying id with
  | some (.array _ e)=>e8B P t e
  | _=>false
 | .sl t,id=>match P.underlying id with
  | some (.slice e)=>Nat.ble 1 t.sz && (Nat.ble 1 (P.bytesOf e) && e8B P t e)
  | _=>false
 | .opq,_=>false
 | .fnc,_=>false
 | _,_=>true
def f4M (P:Program):Ty→List Field→Bool
 | .cons a b,f :: r=>e8B P a f.type && f4M P b r
 | _,_=>true
end
theorem mapM_some {X Y:Type} {f:X→Option Y}:∀ {l:List X} {r:List Y},l.mapM f = some r→r.length = l.length∧∀ (i:Nat) (a:X),l[i]? = some a→∃ b,r[i]? = some b∧f a = some b
 | [],r,h=>by
  simp only [List.mapM_nil,Option.pure_def,Option.some.injEq] at h
  subst h
  exact ⟨rfl,fun i a h=>by simp at h⟩
 | a :: l,r,h=>by
  simp only [List.mapM_cons,Option.bind_eq_bind,Option.bind_eq_some_iff,Option.pure_def,Option.some.injEq] at h
  obtain ⟨b,hb,s,hs,rfl⟩:=h
  obtain ⟨h1,h2⟩:=mapM_some hs
  refine ⟨by simp [h1],fun i x hx=>?_⟩
  cases i with
  | zero =>
   simp only [List.getElem?_cons_zero,Option.some.injEq] at hx
   subst hx
   exact ⟨b,by simp,hb⟩
  | succ i =>
   simp only [List.getElem?_cons_succ] at hx
   obtain ⟨y,h3,h4⟩:=h2 i x hx
   exact ⟨y,by simp [h3],h4⟩
theorem e8U {Y:Type} {f:Nat→Option Y} {n:Nat} {r:List Y} (h:(List.range n).mapM f = some r):r.length = n∧∀ i,i < n→∃ b,r[i]? = some b∧f i = some b:=by
 obtain ⟨h1,h2⟩:=mapM_some h
 refine ⟨by simpa using h1,fun i hi=>h2 i i (by simp [hi])⟩
theorem d2K {X:Type}:∀ (n:Nat) (R:Nat→X→Prop),(∀ i,i < n→∃ x,R i x)→∃ l:List X,l.length = n∧∀ i x,l[i]? = some x→R i x
 | 0,_,_=>⟨[],rfl,fun i x h=>by simp at h⟩
 | n + 1,R,h=>by
  obtain ⟨x,hx⟩:=h 0 (by omega)
  obtain ⟨l,h1,h2⟩:=d2K n (fun i x=>R (i + 1) x) fun i hi=>h (i + 1) (by omega)
  refine ⟨x :: l,by simp [h1],fun i y hy=>?_⟩
  cases i with
  | zero=>simp only [List.getElem?_cons_zero,Option.some.injEq] at hy; subst hy; exact hx
  | succ i=>exact h2 i y (by simpa using hy)
theorem d5D {X:Type} {E:X→List Value→Prop} {s:Nat}:∀ (n:Nat) (cs:List Value),cs.length = n * s→(∀ i,i < n→∃ x,E x ((cs.drop (i * s)).take s))→∃ x,b3T E n x cs
 | 0,cs,hl,_=>⟨(),by simp at hl; exact hl⟩
 | n + 1,cs,hl,h=>by
  obtain ⟨x,hx⟩:=h 0 (by omega)
  simp only [Nat.zero_mul,List.drop_zero] at hx
  obtain ⟨y,hy⟩:=d5D (E:=E) (s:=s) n (cs.drop s) (by rw [List.length_drop,hl,Nat.succ_mul]; omega) fun i hi=>by
   obtain ⟨z,hz⟩:=h (i + 1) (by omega)
   refine ⟨z,?_⟩
   rw [List.drop_drop,show s + i * s = (i + 1) * s by rw [Nat.succ_mul]; omega]
   exact hz
  exact ⟨(x,y),cs.take s,cs.drop s,(List.take_append_drop s cs).symm,hx,hy⟩
theorem c1B {H:Type} {P:Program} {e:TypeId}:∀ {ds:List (DataW H)} {i:Nat} {d:DataW H},ds[i]? = some d→∀ n ∈ d.weights P e,n ∈ DataW.weightsAll P e ds
 | d0 :: ds,0,d,hd,n,hn=>by
  simp only [List.getElem?_cons_zero,Option.some.injEq] at hd
  subst hd
  simp only [DataW.weightsAll,List.mem_append]
  exact .inl hn
 | d0 :: ds,i + 1,d,hd,n,hn=>by
  simp only [List.getElem?_cons_succ] at hd
  simp only [DataW.weightsAll,List.mem_append]
  exact .inr (c1B hd n hn)
def strOf (s:ByteArray):List (I .u8):=s.data.toList.map fun b=>I.of .u8 b.toNat
theorem d5Z (s:ByteArray):bytesOf (strOf s) = s:=by
 unfold bytesOf strOf
 cases s with | mk a =>
 congr 1
 rw [List.map_map]
 have:((fun c:I .u8=>UInt8.ofNat c.val.toNat) ∘ fun b:UInt8=>I.of .u8 b.toNat) = id:=by
  funext b
  simp only [Function.comp,id,I.of,IntKind.wrap,IntKind.bits,IntKind.signed,Bool.false_and,Bool.false_eq_true,if_false]
  have:=b.toNat_lt
  rw [show ((b.toNat:Int) % 2 ^ 8) = (b.toNat:Int) by omega,Int.toNat_natCast]
  exact UInt8.ofNat_toNat
 rw [this,List.map_id,Array.toArray_toList]
section
variable {H:Type} {enc:TypeId × Value→H} {P:Program} {W:World} {base:Nat} {spare:Nat→Bool} {held:Bool}
abbrev GW (W:World):Nat→Prop:=fun r=>r < W.heap.size
theorem g0M {a:Addr} {v:Value} (h:W.cell? a = some v):a.spot = none∧a.block < W.heap.size:=by
 unfold World.cell? at h
 split at h
 ·
  rename_i c _ _ hc
  split at h
  ·
   cases h
  ·
   rename_i hs
   refine ⟨by simpa using hs,?_⟩
   rw [Array.getElem?_eq_some_iff] at hc
   exact hc.1
 ·
  cases h
theorem f1P {base:Nat} {a:Addr} {n:Nat} {ds:List Value} (h:W.cells? base a n = some ds):ds.length = n∧∀ j d,ds[j]? = some d→W.cell? (a.add j) = some d:=by
 unfold World.cells? at h
 split at h
 ·
  obtain ⟨h1,h2⟩:=e8U h
  refine ⟨h1,fun j d hd=>?_⟩
  obtain ⟨b,h3,h4⟩:=h2 j (by rw [← h1]; exact (List.getElem?_eq_some_iff.1 hd).1)
  rw [h3] at hd
  rw [h4,hd]
 ·
  cases h
theorem addr_add {a:Addr} (hs:a.spot = none) (n:Nat):a.add n = ⟨a.block,a.off + n,none⟩:=by
 unfold Addr.add
 cases a
 simp only at hs
 subst hs
 split
 ·
  rename_i h; subst h; rfl
 ·
  rfl
theorem e2M:∀ (t:Ty),
  (∀ fuel id cs (d:DataW H) (p:List MemPlace),TOk P t id→e8B P t id = true→DataW.trod enc P W base spare held fuel id cs = some (d,p)→(∀ n ∈ d.weights P id,n ≤ reachBytes)→∃ x,Enc W (GW W) t x cs) ∧
  (∀ fuel (r:List Field) (o:Nat) (cs:List Value) (xs:List (DataW H × List MemPlace)),FOk P t r o→f4M P t r = true→xs.length = r.length →
   (∀ (i:Nat) (f:Field),r[i]? = some f→DataW.trod enc P W base spare held fuel f.type ((cs.drop f.offset).take (P.cellsOf f.type)) = xs[i]?) →
   (∀ n ∈ DataW.weightsEach P (r.map (·.type)) (xs.map (·.1)),n ≤ reachBytes)→cs.length = o + t.sz→∃ x,Enc W (GW W) t x (cs.drop o)):=by
 intro t
 have nofld:∀ t,(∀ a b,t ≠ .cons a b)→t ≠ .nil→∀ (r:List Field) (o:Nat),¬ FOk P t r o:=by
  intro t h1 h2 r o h
  cases t <;> first | exact h1 _ _ rfl | exact h2 rfl | (cases r <;> exact h.elim)
 induction t with
 | int k =>
  refine ⟨fun fuel id cs d p hT _ h _=>?_,fun fuel r o cs xs h=>(nofld _ (by simp) (by simp) _ _ h).elim⟩
  obtain ⟨n,hcs,_,hw⟩:=DataW.trod_int hT.2 h
  simp only [Lit.wf,Bool.and_eq_true,decide_eq_true_eq] at hw
  exact ⟨(⟨n,a7I hw⟩:I k),hcs⟩
 | bool =>
  refine ⟨fun fuel id cs d p hT _ h _=>?_,fun fuel r o cs xs h=>(nofld _ (by simp) (by simp) _ _ h).elim⟩
  obtain ⟨n,hcs,_⟩:=DataW.trod_bool hT.2 h
  exact ⟨n,hcs⟩
 | str =>
  refine ⟨fun fuel id cs d p hT _ h hw=>?_,fun fuel r o cs xs h=>(nofld _ (by simp) (by simp) _ _ h).elim⟩
  obtain ⟨s,hcs,hx,_⟩:=DataW.trod_string hT.2 h
  simp only [Prod.mk.injEq] at hx
  obtain ⟨rfl,rfl⟩:=hx
  refine ⟨strOf s,?_,?_⟩
  ·
   rw [d5Z]; exact hcs
  ·
   have:=hw s.data.toList.length (by simp [DataW.weights])
   have h2:(strOf s).length = s.data.toList.length:=List.length_map _
   show (strOf s).length ≤ LIM
   rw [h2]
   simp only [reachBytes,LIM] at *
   omega
 | nil =>
  refine ⟨fun fuel id cs d p hT _ h hw=>?_,fun fuel r o cs xs h _ _ _ _ hl=>⟨(),?_⟩⟩
  ·
   obtain ⟨xs,n,_,_,hl,_⟩:=DataW.trod_struct hT.2 h
   rw [hT.1] at hl
   exact ⟨(),List.eq_nil_of_length_eq_zero hl⟩
  ·
   show cs.drop o = []
   simp only [Ty.sz,Nat.add_zero] at hl
   rw [List.drop_eq_nil_iff]; omega
 | cons a b iha ihb =>
  refine ⟨fun fuel id cs d p hT hA h hw=>?_,fun fuel r o cs xs hF hA hlen hf hw hl=>?_⟩
  ·
   obtain ⟨hsz,fs,f,r,hu,hfs,hf0,hTa,hFb⟩:=hT
   obtain ⟨xs,n,_,hx,hl,hlen,hfx⟩:=DataW.trod_struct hu h
   simp only [Prod.mk.injEq] at hx
   obtain ⟨rfl,rfl⟩:=hx
   simp only [e8B,hu,hfs,Bool.and_eq_true] at hA
   have hfl:∀ (i:Nat) (g:Field),(f :: r)[i]? = some g→DataW.trod enc P W base spare held n g.type ((cs.drop g.offset).take (P.cellsOf g.type)) = xs[i]?:=by
    intro i g hg
    refine hfx i g ?_
    rw [← Array.getElem?_toList,hfs]
    exact hg
   have hlen':xs.length = r.length + 1:=by rw [hlen,← Array.length_toList,hfs]; rfl
   match xs,hlen' with
   | y :: ys,hlen' =>
    simp only [DataW.weights,hu,hfs,List.map_cons,DataW.weightsEach,List.mem_append] at hw
    have h0:=hfl 0 f rfl
    simp only [List.getElem?_cons_zero] at h0
    rw [hf0,hTa.size,List.drop_zero] at h0
    obtain ⟨x,hx⟩:=iha.1 n f.type _ y.1 y.2 hTa hA.1 h0 (fun m hm=>hw m (.inl hm))
    obtain ⟨z,hz⟩:=ihb.2 n r a.sz cs ys hFb hA.2 (by simpa using hlen') (fun i g hg=>by simpa using hfl (i + 1) g hg) (fun m hm=>hw m (.inr hm)) (by rw [hl,hsz])
    exact ⟨(x,z),_,_,(List.take_append_drop a.sz cs).symm,hx,hz⟩
  ·
   cases r with
   | nil=>exact hF.elim
   | cons f r =>
    obtain ⟨hf0,hTa,hFb⟩:=hF
    simp only [f4M,Bool.and_eq_true] at hA
    match xs,hlen with
    | y :: ys,hlen =>
     simp only [List.map_cons,DataW.weightsEach,List.mem_append] at hw
     have h0:=hf 0 f rfl
     simp only [List.getElem?_cons_zero] at h0
     rw [hf0,hTa.size] at h0
     simp only [Ty.sz] at hl
     obtain ⟨x,hx⟩:=iha.1 fuel f.type _ y.1 y.2 hTa hA.1 h0 (fun m hm=>hw m (.inl hm))
     obtain ⟨z,hz⟩:=ihb.2 fuel r (o + a.sz) cs ys hFb hA.2 (by simpa using hlen) (fun i g hg=>by simpa using hf (i + 1) g hg) (fun m hm=>hw m (.inr hm)) (by omega)
     refine ⟨(x,z),_,_,(List.take_append_drop a.sz (cs.drop o)).symm,hx,?_⟩
     rw [List.drop_drop]
     exact hz
 | arr n t ih =>
  refine ⟨fun fuel id cs d p hT hA h hw=>?_,fun fuel r o cs xs h=>(nofld _ (by simp) (by simp) _ _ h).elim⟩
  obtain ⟨hsz,e,hu,hTe⟩:=hT
  obtain ⟨xs,m,_,hx,hl,hlen,hfx⟩:=DataW.trod_array hu h
  simp only [Prod.mk.injEq] at hx
  obtain ⟨rfl,rfl⟩:=hx
  simp only [e8B,hu] at hA
  simp only [DataW.weights,hu] at hw
  refine d5D n cs (by rw [hl,hsz]) fun i hi=>?_
  have h0:=hfx i hi
  rw [hTe.size,List.getElem?_eq_getElem (by omega)] at h0
  refine ih.1 m e _ (xs[i]'(by omega)).1 (xs[i]'(by omega)).2 hTe hA h0 fun k hk=>hw k (c1B (i:=i) ?_ k hk)
  rw [List.getElem?_map,List.getElem?_eq_getElem (by omega)]; rfl
 | sl t ih =>
  refine ⟨fun fuel id cs d p hT hA h hw=>?_,fun fuel r o cs xs h=>(nofld _ (by simp) (by simp) _ _ h).elim⟩
  obtain ⟨hsz,e,hu,hTe⟩:=hT
  simp only [e8B,hu,Bool.and_eq_true] at hA
  obtain ⟨hA1,hA2,hA⟩:=hA
  have hA1:=Nat.le_of_ble_eq_true hA1
  have hA2:=Nat.le_of_ble_eq_true hA2
  rcases DataW.trod_slice hu h with ⟨rfl,_⟩ | ⟨a,len,cap,elems,rest,m,_,rfl,hx,_,hlc,_,hel,hfx,_,_⟩
  ·
   refine ⟨([]:List t.D),none,0,rfl,Nat.le_refl _,by simp,.inl rfl⟩
  ·
   simp only [Prod.mk.injEq] at hx
   obtain ⟨rfl,rfl⟩:=hx
   simp only [DataW.weights,hu,List.mem_cons,List.mem_append] at hw
   have hb:=hw _ (.inl rfl)
   have hlim:len ≤ LIM:=by
    have h1:len ≤ (elems.length + rest.length) * P.bytesOf e:=by
     rw [← hel]
     refine Nat.le_trans ?_ (Nat.mul_le_mul_left _ hA2)
     omega
    simp only [List.length_map] at hb
    simp only [reachBytes,LIM] at *
    omega
   have key:∀ i,i < len→a.spot = none∧a.block < W.heap.size∧∃ x ds,Enc W (GW W) t x ds∧c0U W a.block (a.off + i * t.sz) ds:=by
    have one:∀ i,i < len→∃ (ds:List Value) (x:t.D),ds.length = t.sz∧Enc W (GW W) t x ds∧∀ j d,ds[j]? = some d→W.cell? ((a.add (i * t.sz)).add j) = some d:=by
     intro i hi
     have h0:=hfx i hi
     rw [List.getElem?_eq_getElem (by omega)] at h0
     simp only [Option.bind_eq_some_iff] at h0
     obtain ⟨ds,h1,h2⟩:=h0
     obtain ⟨h3,h4⟩:=f1P h1
     rw [hTe.size] at h3 h4
     obtain ⟨x,hx⟩:=ih.1 m e ds (elems[i]'(by omega)).1 (elems[i]'(by omega)).2 hTe hA h2 fun k hk=>hw k (.inr (.inl (c1B (i:=i) (by rw [List.getElem?_map,List.getElem?_eq_getElem (by omega)]; rfl) k hk)))
     exact ⟨ds,x,h3,hx,h4⟩
    intro i hi
    obtain ⟨ds,x,h1,h2,h3⟩:=one i hi
    obtain ⟨ds0,_,g1,_,g3⟩:=one 0 (by omega)
    have c0:=g3 0 (ds0[0]'(by omega)) (List.getElem?_eq_getElem _)
    simp only [Nat.zero_mul] at c0
    have e0:(a.add 0).add 0 = a:=by simp [Addr.add]
    rw [e0] at c0
    obtain ⟨hs,hlt⟩:=g0M c0
    refine ⟨hs,hlt,x,ds,h2,fun j d hd=>?_⟩
    have:=h3 j d hd
    rw [addr_add hs,addr_add rfl] at this
    exact this
   obtain ⟨l,hl1,hl2⟩:=d2K len (fun i x=>∃ ds,Enc W (GW W) t x ds∧c0U W a.block (a.off + i * t.sz) ds) fun i hi=>(key i hi).2.2
   refine ⟨l,some a,cap,?_,?_,?_,?_⟩
   ·
    show [Value.slice (some a) len cap] = [Value.slice (some a) l.length cap]; rw [hl1]
   ·
    show l.length ≤ cap; omega
   ·
    show l.length ≤ LIM; omega
   ·
    by_cases h0:len = 0
    ·
     left; show l = []; exact List.eq_nil_of_length_eq_zero (by omega)
    ·
     obtain ⟨h1,h2,_⟩:=key 0 (by omega)
     exact .inr ⟨a,rfl,h1,h2,hl2⟩
 | opq=>exact ⟨fun fuel id cs d p hT hA=>by simp [e8B] at hA,fun fuel r o cs xs h=>(nofld _ (by simp) (by simp) _ _ h).elim⟩
 | fnc=>exact ⟨fun fuel id cs d p hT hA=>by simp [e8B] at hA,fun fuel r o cs xs h=>(nofld _ (by simp) (by simp) _ _ h).elim⟩
end
theorem f2K {P:Program} {W:World} {rr:Reach} {base:Nat} {id:TypeId} {v:Value} {t:Ty} (hT:TOk P t id) (hne:t ≠ .opq) (hnf:t ≠ .fnc) (h:Value.okWide P W rr base id v):v = mkV t.isAgg v.cells.toList:=by
 have agg:(∃ cs,v = .agg cs)→v = mkV true v.cells.toList:=by
  rintro ⟨cs,rfl⟩
  show Value.agg cs = .agg _
  congr 1
 cases t with
 | int k=>obtain ⟨n,rfl⟩:=Go.WideShapes.okWide_int hT.2 h; rfl
 | bool=>obtain ⟨n,rfl⟩:=Go.WideShapes.okWide_bool hT.2 h; rfl
 | str=>obtain ⟨n,rfl⟩:=Go.WideShapes.okWide_string hT.2 h; rfl
 | sl t=>obtain ⟨_,e,hu,_⟩:=hT; obtain ⟨a,l,c,rfl⟩:=Go.WideShapes.okWide_slice hu h; rfl
 | opq=>exact (hne rfl).elim
 | fnc=>exact (hnf rfl).elim
 | nil=>obtain ⟨_,hu⟩:=hT; simp only [Value.okWide,hu] at h; exact agg ⟨_,h.choose_spec.1⟩
 | cons a b=>obtain ⟨_,fs,f,r,hu,_⟩:=hT; simp only [Value.okWide,hu] at h; exact agg ⟨_,h.choose_spec.1⟩
 | arr n t=>obtain ⟨_,e,hu,_⟩:=hT; simp only [Value.okWide,hu] at h; exact agg ⟨_,h.choose_spec.1⟩
def Arr.all {X:Type} (p:X→Prop):(n:Nat)→Arr X n→Prop
 | 0,_=>True
 | n + 1,x=>p x.1∧Arr.all p n x.2
def Ty.bd:(t:Ty)→t.D→Prop
 | .str,x=>(show List (I .u8) from x).length ≤ LIM
 | .cons a b,x=>a.bd x.1∧b.bd x.2
 | .arr n t,x=>Arr.all t.bd n x
 | .sl t,x=>(show List t.D from x).length ≤ LIM∧∀ (i:Nat) (y:t.D),(show List t.D from x)[i]? = some y→t.bd y
 | .int _,_=>True
 | .bool,_=>True
 | .nil,_=>True
 | .opq,_=>True
 | .fnc,_=>True
theorem d4F {X:Type} {E:X→List Value→Prop} {p:X→Prop} (h:∀ x cs,E x cs→p x):∀ (n:Nat) (x:Arr X n) (cs:List Value),b3T E n x cs→Arr.all p n x
 | 0,_,_,_=>trivial
 | n + 1,x,cs,he=>by
  obtain ⟨c1,c2,_,h1,h2⟩:=he
  exact ⟨h _ _ h1,d4F h n x.2 c2 h2⟩
theorem g4P {W:World} {G:Nat→Prop}:∀ (t:Ty) (x:t.D) (cs:List Value),Enc W G t x cs→t.bd x:=by
 intro t
 induction t with
 | int k=>intro x cs _; trivial
 | bool=>intro x cs _; trivial
 | nil=>intro x cs _; trivial
 | opq=>intro x cs _; trivial
 | fnc=>intro x cs _; trivial
 | str=>intro x cs h; exact h.2
 | cons a b iha ihb=>intro x cs h; obtain ⟨c1,c2,_,h1,h2⟩:=h; exact ⟨iha _ _ h1,ihb _ _ h2⟩
 | arr n t ih=>intro x cs h; exact d4F (fun x cs=>ih x cs) n x cs h
 | sl t ih =>
  intro x cs h
  obtain ⟨a,c,_,_,hl,hx⟩:=h
  refine ⟨hl,fun i y hy=>?_⟩
  rcases hx with hx | ⟨ad,_,_,_,hr⟩
  ·
   rw [hx] at hy; simp at hy
  ·
   obtain ⟨ds,h1,_⟩:=hr i y hy
   exact ih y ds h1
def g0Q:(ts:List Ty)→ShD (ts.map .pl)→Prop
 | [],_=>True
 | t :: ts,x=>t.bd x.1∧g0Q ts x.2
def e8Q (P:Program):List Ty→List TypeId→Bool
 | [],[]=>true
 | t :: ts,id :: ids=>e1M P t id && (e8B P t id && (P.readableRec id && (Nat.blt id P.types.size && e8Q P ts ids)))
 | _,_=>false
section
variable {H:Type} {enc:TypeId × Value→H} {P:Program} {W:World}
def cx0 (W:World):Cx:=⟨W,GW W,fun _=>.bool false,[]⟩
theorem e4R {rr:Reach} {base:Nat}:∀ (ts:List Ty) (ids:List TypeId) (vs:List Value) (ds:List (DataW H)) (ps:List MemPlace),e8Q P ts ids = true →
  DataW.TrodAll enc P W 0 (fun _=>true) true ids vs ds ps→(∀ (j:Nat) t v,ids[j]? = some t→vs[j]? = some v→Value.okWide P W rr base t v) →
  (∀ n ∈ DataW.weightsEach P ids ds,n ≤ reachBytes)→ds.length = ts.length∧∃ x:ShD (ts.map .pl),g0Q ts x∧All2 (VOk (cx0 W)) (a1V (ts.map .pl) x) vs
 | [],[],vs,ds,ps,_,hA,_,_=>by
  obtain ⟨rfl,rfl,rfl⟩:=Go.ChangeShapes.trodAll_nil hA
  exact ⟨rfl,(),trivial,trivial⟩
 | [],_ :: _,_,_,_,h,_,_,_=>by cases h
 | _ :: _,[],_,_,_,h,_,_,_=>by cases h
 | t :: ts,id :: ids,vs,ds,ps,h,hA,hv,hw=>by
  simp only [e8Q,Bool.and_eq_true] at h
  obtain ⟨h1,h2,_,_,h5⟩:=h
  obtain ⟨v,vs',d,ds',p,q,rfl,rfl,rfl,⟨fuel,hd⟩,hrest⟩:=Go.ChangeShapes.trodAll_cons hA
  simp only [DataW.weightsEach,List.mem_append] at hw
  have hT:=(e5K P t).1 id h1
  obtain ⟨x,hx⟩:=(e2M t).1 fuel id _ d p hT h2 hd fun n hn=>hw n (.inl hn)
  obtain ⟨hl,y,hbd,hy⟩:=e4R ts ids vs' ds' q h5 hrest (fun j t v ht hv'=>hv (j + 1) t v (by simpa using ht) (by simpa using hv')) fun n hn=>hw n (.inr hn)
  refine ⟨by simp [hl],(x,y),⟨g4P t x _ hx,hbd⟩,?_,hy⟩
  refine ⟨_,hx,?_⟩
  exact f2K hT (by rintro rfl; simp [e8B] at h2) (by rintro rfl; simp [e8B] at h2) (hv 0 id v rfl rfl)
theorem c7L (hl:laidOutB P = true) {W':World} (hb:Go.RowKit.Below W.heap.size W W'):∀ (ts:List Ty) (ids:List TypeId) (vs:List Value) (ds:List (DataW H)) (ps:List MemPlace),e8Q P ts ids = true →
  DataW.TrodAll enc P W 0 (fun _=>true) true ids vs ds ps→(∀ x ∈ ps,x.block < W.heap.size)→DataW.TrodAll enc P W' 0 (fun b=>decide (b < W.heap.size)) true ids vs ds ps
 | [],[],vs,ds,ps,_,hA,_=>by
  obtain ⟨rfl,rfl,rfl⟩:=Go.ChangeShapes.trodAll_nil hA
  exact Go.ChangeShapes.trodAll_mk0
 | [],_ :: _,_,_,_,h,_,_=>by cases h
 | _ :: _,[],_,_,_,h,_,_=>by cases h
 | t :: ts,id :: ids,vs,ds,ps,h,hA,hlt=>by
  simp only [e8Q,Bool.and_eq_true] at h
  obtain ⟨_,_,h3,h4,h5⟩:=h
  obtain ⟨v,vs',d,ds',p,q,rfl,rfl,rfl,hd,hrest⟩:=Go.ChangeShapes.trodAll_cons hA
  refine ⟨p,q,Go.RowKit.Below.trod hl h3 (Nat.lt_of_succ_le (Nat.le_of_ble_eq_true h4)) hd hb fun x hx=>hlt x (by simp [hx]),?_,rfl⟩
  exact c7L hl hb ts ids vs' ds' q h5 hrest fun x hx=>hlt x (by simp [hx])
theorem g6A:Start (cx0 W):=by
 have hu:∀ b,a0J (cx0 W).H b = .unborn:=fun b=>by simp [cx0,a0J]
 refine ⟨fun b=>?_,fun b b' r h=>?_,fun r hr=>⟨hr,fun b h=>?_⟩⟩
 ·
  unfold BlkOk; rw [hu]; trivial
 ·
  rw [hu] at h; cases h
 ·
  rw [hu] at h; cases h
theorem e8F {C:Checked} {f:FuncId} {fn:Func} {s:ChangeSpec} {ts:List Ty} {bt:TypeId} {F:(⟨ts.map .pl,[]⟩:Tm).D→Option (⟨[.pl .bool],[]⟩:Tm).D}
  (hl : laidOutB C.prog = true) (hfn : C.prog.funcs[f]? = some fn) (hbody : fn.body.isSome = true) (hname : (fn.name == "runtime.NumGoroutine") = false)
  (hargs:e8Q C.prog ts fn.params.toList = true) (hres:fn.resultTypes = #[bt]) (hbt:C.prog.underlying bt = some .bool) (hvars:s.vars = [])
  (hs:∀ ds:List (DataW H),ds.length = ts.length→s.fn H ds = { results:=[.lit (.bool true)],args:=ds })
  (hcon:a1L C.prog f ⟨⟨ts.map .pl,[]⟩,⟨[.pl .bool],[]⟩,F⟩) (hF:∀ x,g0Q ts x→F (x,()) = some ((true,()),()))
  (base:Nat) (args:Array Value) (ds gs:List (DataW H)) (before:List MemPlace)
  (hval:∀ (j:Nat) t v,fn.params[j]? = some t→args[j]? = some v→Value.okWide C.prog W .any base t v)
  (hW:DataW.Whole enc C.prog fn.params.toList s.vars false W args.toList ds gs before)
  (hsz:(DataW.weightsEach C.prog (fn.params.toList ++ s.plain.varTypes C.prog) (ds ++ gs)).all (· ≤ reachBytes) = true) :
  Calls C.prog f args W fun e W'=>∃ v,e = .returned v∧s.post enc C.prog fn false true false false W args v W':=by
 have hW':=hW
 obtain ⟨p,q,hA,hV,rfl,hfz,hnd⟩:=hW
 rw [hvars] at hV
 obtain ⟨rfl,rfl⟩:=Go.ChangeShapes.trodVars_none hV
 have hvt:s.plain.varTypes C.prog = []:=by simp [DataSpec.varTypes,ChangeSpec.plain,hvars]
 rw [hvt,List.append_nil,List.append_nil,List.all_eq_true] at hsz
 obtain ⟨hlen,x,hbd,hx⟩:=e4R (P:=C.prog) ts fn.params.toList args.toList ds p hargs hA
  (fun j t v h1 h2=>hval j t v (by rw [← Array.getElem?_toList]; exact h1) (by rw [← Array.getElem?_toList]; exact h2)) fun n hn=>of_decide_eq_true (hsz n hn)
 have key:=hcon (x,()) ((true,()),()) (hF x hbd) (cx0 W) args.toList g6A rfl hx
 rw [Array.toArray_toList] at key
 obtain ⟨b,hb⟩:=Option.isSome_iff_exists.1 hbody
 have hent:=b6P (args:=args) (w:=W) hfn hb hname
 rcases key with ⟨v,w',h1,_⟩ | ⟨_,h⟩
 ·
  change (callFunc f args).run C.prog W = _ at h1
  rw [hent] at h1
  cases h1
 ·
  refine h.mono fun e w' hr=>?_
  obtain ⟨v,he,c',hw,hH,hv,hM,_⟩:=hr
  subst he hw
  refine ⟨v,rfl,?_⟩
  have hown:∀ r,¬ c6X (cx0 W) r:=by
   rintro r ⟨b,hb,_⟩
   simp [cx0,a0J,live] at hb
  have bel:Go.RowKit.Below W.heap.size W c'.w:=⟨hM.os,hM.tape,hM.output,hM.size,fun k hk=>hM.frame k hk (hown k)⟩
  obtain ⟨cs,hcs,hv⟩:=hv
  have hcs:cs = [.bool true]:=hcs
  subst hcs
  have hv:v = .bool true:=hv
  subst hv
  have hfnH:=hs ds hlen
  refine ⟨ds,[],_,[],p,[],hW',?_,?_,?_,bel.frame _,fun h=>by cases h⟩
  ·
   rw [List.append_nil,hfnH,hres]
   exact Go.ChangeShapes.trodAll_mk1 (Go.RowKit.shut_bool hbt _)
  ·
   rw [List.append_nil,hfnH]
   refine c7L hl bel ts _ _ _ _ hargs hA fun x hx=>?_
   exact DataW.TrodAll.lt hA x hx
  ·
   rw [List.append_nil,hfnH,hvars]
   rfl
end
end Sym

/- Audit: Total agrees with the reference. -/
namespace Sym
open Go
theorem g7A (x:d5T):Ty.eqb a2H x x = true:=eqb_self' (t:=a2H) rfl x
end Sym

/- Audit: sums in five words and big sums. -/
namespace Sym
open Go
def tot {X:Type} (f:X→U) (l:List X):Nat:=(l.map (fun x=>(f x).val)).sum
end Sym

/- Audit: Check agrees with the reference. -/
namespace Sym
open Go
abbrev g8N (x:a0E):U:=x.2.1
abbrev mAm (x:a0B):U:=x.2.2.1
abbrev b7F (x:a0A):U:=x.2.2.2.2.1
end Sym

/- Audit: the reference's Check. -/
namespace Sym
open Go
end Sym

/- Audit: the state of the reference machine. -/
namespace Sym
open Go
theorem d7D {X:Type} (f:X→U) (a b:List X):tot f (a ++ b) = tot f a + tot f b:=by simp [tot]
theorem c2T {X:Type} (f:X→U) (x:X) (l:List X):tot f (x :: l) = (f x).val + tot f l:=by simp [tot]
end Sym

/- Audit: Check, the plain law. -/
namespace Sym
open Go
end Sym

/- Audit: what the ledger's and the pricer's steps do to the sums. -/
namespace Sym
open Go
theorem g3L {l:List Ac} {a:I .u64} (h:aAt l a < l.length):I.eqb (rdL dA l (aAt l a)).1 a = true:=by
 rw [a3X dA l _ h]
 exact List.findIdx_getElem (w:=h)
theorem e6S {l:List Ac} {a:I .u64} {k:Nat} (h:k < aAt l a) (hk:k < l.length):I.eqb (rdL dA l k).1 a = false:=by
 rw [a3X dA l _ hk]
 have:=List.not_of_lt_findIdx (p:=fun p:Ac=>I.eqb p.1 a) (xs:=l) h
 simpa using this
theorem c7Z (l:List Ac) (a:I .u64):(a8J l a).1 = a:=by
 unfold a8J
 split
 ·
  rename_i h
  exact I.eq_of (g3L h)
 ·
  rfl
theorem get_put {l:List Ac} {a:I .u64} {x:Ac} (hx:x.1 = a):a8J (e1O l x) a = x:=by
 subst hx
 have he:I.eqb x.1 x.1 = true:=iff_eqb.2 rfl
 unfold e1O
 split
 ·
  rename_i h
  have hl:(c1V l (aAt l x.1) x).length = l.length:=d7V _ _ _
  have e:aAt (c1V l (aAt l x.1) x) x.1 = aAt l x.1:=by
   refine f0O (by omega) ?_ fun k hk=>?_
   ·
    rw [c1V,b5D,if_pos ⟨rfl,h⟩]; exact he
   ·
    rw [c1V,b5D,if_neg (by omega)]; exact e6S hk (by omega)
  unfold a8J
  rw [e,if_pos (by omega),c1V,b5D,if_pos ⟨rfl,h⟩]
 ·
  rename_i h
  have e:aAt (l ++ [x]) x.1 = l.length:=by
   refine f0O (by simp) ?_ fun k hk=>?_
   ·
    rw [c2W,if_neg (by omega),Nat.sub_self]; exact he
   ·
    rw [c2W,if_pos hk]; exact e6S (by omega) hk
  unfold a8J
  rw [e,if_pos (by simp),c2W,if_neg (by omega),Nat.sub_self]
  rfl
theorem d6J {X:Type} (f:X→U) (d:X):∀ (l:List X) (i:Nat) (x:X),i < l.length→tot f (setAt l i x) + (f (rdL d l i)).val = tot f l + (f x).val
 | [],_,_,h=>absurd h (Nat.not_lt_zero _)
 | y :: l,0,x,_=>by
  show tot f (x :: l) + (f y).val = tot f (y :: l) + (f x).val
  rw [c2T,c2T]; omega
 | y :: l,i + 1,x,h=>by
  have ih:=d6J f d l i x (Nat.lt_of_succ_lt_succ h)
  show tot f (y :: setAt l i x) + (f (rdL d l i)).val = tot f (y :: l) + (f x).val
  rw [c2T,c2T]; omega
theorem e6I (l:List Ac):c1D l = tot g8N l:=rfl
theorem d6S (l:List Ac) (a:I .u64) (x:Ac) (hx:x.1 = a):c1D (e1O l x) + (a8J l a).2.1.val = c1D l + x.2.1.val:=by
 subst hx
 unfold e1O a8J
 by_cases h:aAt l x.1 < l.length
 ·
  rw [if_pos h,if_pos h]
  exact d6J g8N dA l _ x h
 ·
  rw [if_neg h,if_neg h,e6I,e6I,d7D]
  show tot g8N l + (x.2.1.val + 0) + 0 = _
  omega
theorem e0O (l:List Ac) (a:I .u64):(a8J l a).2.1.val ≤ c1D l:=by
 have h:=d6S l a (a,(Z_U,((I.of .u64 0),()))) rfl
 have:(Z_U:U).val = 0:=rfl
 have h2:((a,(Z_U,((I.of .u64 0),()))):Ac).2.1.val = 0:=this
 omega
theorem d4T {l:List Ac} {a:I .u64} {n:U} (h:c1D l + n.val < U.top):c1D (b7J l a n) = c1D l + n.val:=by
 have h1:=e0O l a
 have h2:=d6S l a (c6W (a8J l a) (U.of ((a8J l a).2.1.val + n.val))) (c7Z l a)
 have h3:(c6W (a8J l a) (U.of ((a8J l a).2.1.val + n.val))).2.1.val = (a8J l a).2.1.val + n.val:=U.val_of (by omega)
 unfold b7J
 omega
theorem c2F {l:List Ac} {a:I .u64} {n:U} (h:n.val ≤ (a8J l a).2.1.val):c1D (a4S l a n) + n.val = c1D l∧(a8J (a4S l a n) a).2.1.val + n.val = (a8J l a).2.1.val:=by
 have h1:=e0O l a
 have h2:=d6S l a (c6W (a8J l a) (U.of ((a8J l a).2.1.val - n.val))) (c7Z l a)
 have h3:(c6W (a8J l a) (U.of ((a8J l a).2.1.val - n.val))).2.1.val = (a8J l a).2.1.val - n.val:=U.val_of (by have:=U.lt (a8J l a).2.1; omega)
 unfold a4S
 rw [if_pos h]
 refine ⟨by omega,?_⟩
 rw [get_put (x:=c6W (a8J l a) (U.of ((a8J l a).2.1.val - n.val))) (c7Z l a)]
 omega
theorem g0T (l:List Ac) (a:I .u64):c1D (e9D l a).2 = c1D l∧(a8J (e9D l a).2 a).2.1.val = (a8J l a).2.1.val:=by
 unfold e9D
 split
 ·
  exact ⟨rfl,rfl⟩
 ·
  split
  ·
   exact ⟨rfl,rfl⟩
  ·
   have h2:=d6S l a ((a8J l a).1,((a8J l a).2.1,(I.add (a8J l a).2.2.1 (I.of .u64 1),(a8J l a).2.2.2))) (c7Z l a)
   have h2:c1D (e1O l ((a8J l a).1,((a8J l a).2.1,(I.add (a8J l a).2.2.1 (I.of .u64 1),(a8J l a).2.2.2)))) + (a8J l a).2.1.val = c1D l + (a8J l a).2.1.val:=h2
   refine ⟨by show c1D (e1O l _) = _; omega,?_⟩
   show (a8J (e1O l ((a8J l a).1,((a8J l a).2.1,(I.add (a8J l a).2.2.1 (I.of .u64 1),(a8J l a).2.2.2)))) a).2.1.val = _
   rw [get_put (x:=((a8J l a).1,((a8J l a).2.1,(I.add (a8J l a).2.2.1 (I.of .u64 1),(a8J l a).2.2.2)))) (c7Z l a)]
theorem e4N {v:V4} {l:List Ac} {a:I .u64} {k:Nat} {n:U} (ha:a.val ≠ 0) (h:n.val ≤ (a8J l a).2.1.val):c5Y v l a k n = (I.of .i64 0,f8T v k (U.of ((d5N v k).val + n.val)),a4S l a n):=by
 unfold c5Y
 rw [if_neg ha,if_pos (show b0C l a n = true from decide_eq_true h)]
theorem c7K (q:Pay) (ps:List Pay):a9I ((q :: ps).map amt) = q.2.1.val + a9I (ps.map amt):=by simp [a9I,amt]
theorem e1Y {l:List Post} {a:I .u64} {n:U} (h:(b2C l a n).2.val = 0):tot b7F (b2C l a n).1 = tot b7F l + n.val:=by
 unfold b2C at h ⊢
 by_cases h1:c4V l = true
 case neg=>rw [if_neg h1] at h; exact absurd h (by decide)
 rw [if_pos h1] at h ⊢
 by_cases h2:atN l a < l.length
 case neg=>rw [if_neg h2] at h; exact absurd h (by decide)
 rw [if_pos h2] at h ⊢
 by_cases h3:n.val ≤ (Post.due (rdL dP l (atN l a))).val
 case neg=>rw [if_neg h3] at h; exact absurd h (by decide)
 rw [if_pos h3] at h ⊢
 by_cases h4:(Post.paid (rdL dP l (atN l a))).val + n.val < U.top
 case neg=>rw [if_neg h4] at h; exact absurd h (by decide)
 rw [if_pos h4]
 have h5:=d6J b7F dP l (atN l a) (settled (rdL dP l (atN l a)) n) h2
 have h6:(b7F (settled (rdL dP l (atN l a)) n)).val = (b7F (rdL dP l (atN l a))).val + n.val:=U.val_of h4
 show tot b7F (setAt _ _ _) = _
 omega
theorem d5I:∀ (ps:List Pay) (l:List Post),(a2U l ps).2.val = 0→tot b7F (a2U l ps).1 = tot b7F l + a9I (ps.map amt)
 | [],l,_=>by simp [a2U,a9I]
 | y :: ps,l,h=>by
  simp only [a2U] at h ⊢
  split
  ·
   rename_i h0
   rw [if_pos h0] at h
   rw [d5I ps _ h,e1Y h0,c7K]
   omega
  ·
   rename_i h0
   rw [if_neg h0] at h
   exact absurd h h0
theorem f5Q {s:PrT} {p:Prm} {pool:U} {r:RepT} {now:I .u64} {x:PrT} {t:f5L} (h:RepOk s p pool r now x t):tot b7F x.posters = tot b7F s.posters + a9I (t.2.2.1.map amt)∧a9I (t.2.2.1.map amt) ≤ pool.val:=by
 have e:t.2.2.1 = a2D (a9M s p r now) pool:=by rw [h.out]; rfl
 rw [e]
 refine ⟨?_,by rw [d4S]; omega⟩
 rw [h.posters,d5I _ _ h.ap]
 have h5:=d6J b7F dP s.posters (atN s.posters r.from') (b9K (rdL dP s.posters (atN s.posters r.from')) r.cost (U.of (p.rpu.val * c3S s r now)) (I.add s.reports (I.of .u64 1))) h.chk.fnd
 have h6:(b7F (b9K (rdL dP s.posters (atN s.posters r.from')) r.cost (U.of (p.rpu.val * c3S s r now)) (I.add s.reports (I.of .u64 1)))).val = (b7F (rdL dP s.posters (atN s.posters r.from'))).val:=rfl
 have h7:tot b7F (a9M s p r now) = tot b7F s.posters:=by unfold a9M; omega
 rw [h7]
theorem e4G:∀ (l:List Post) (a:I .u64),tot b7F (d0K l a) = tot b7F l
 | [],a=>rfl
 | y :: l,a=>by
  unfold d0K
  split
  ·
   rw [c2T,e4G l a,c2T]
  ·
   rw [c2T]
   have:(b7F (f8D a)).val = 0:=rfl
   omega
theorem f5J {s:PrT} {a:I .u64} (h:(a5Z s a).2.val = 0):prV (a5Z s a).1 = true∧tot b7F (a5Z s a).1.posters = tot b7F s.posters:=by
 unfold a5Z at h ⊢
 by_cases hv:prV s = true
 case neg=>rw [if_neg hv] at h; exact absurd h (by decide)
 rw [if_pos hv] at h ⊢
 by_cases hp:(c6Z s.posters a).2.val = 0
 case neg=>rw [if_neg hp] at h; exact absurd h hp
 rw [if_pos hp]
 have ⟨h1,h2,h3⟩:=prV_t.1 hv
 unfold c6Z at hp
 by_cases g1:c4V s.posters = true∧a.nat ≠ 0
 case neg=>rw [if_neg g1] at hp; exact absurd hp (by decide)
 rw [if_pos g1] at hp
 by_cases g2:atN s.posters a < s.posters.length
 case pos=>rw [if_pos g2] at hp; exact absurd hp (by decide)
 rw [if_neg g2] at hp
 by_cases g3:s.posters.length = 64
 case pos=>rw [if_pos g3] at hp; exact absurd hp (by decide)
 have e:c6Z s.posters a = (d0K s.posters a,I.of .i64 0):=by
  unfold c6Z; rw [if_pos g1,if_neg g2,if_neg g3]
 rw [e]
 refine ⟨prV_t.2 ⟨fun q hq=>?_,g2B h2 g1.2 g2 g3,h3⟩,e4G _ _⟩
 rcases d0T hq with rfl | hq
 ·
  exact Nat.zero_le _
 ·
  exact h1 q hq
theorem f6A {s:PrT} {n:I .u64} (h:(a4F s n).2.val = 0):prV (a4F s n).1 = true∧(a4F s n).1.posters = s.posters:=by
 unfold a4F at h ⊢
 by_cases hv:prV s = true
 case neg=>rw [if_neg hv] at h; exact absurd h (by decide)
 rw [if_pos hv] at h ⊢
 by_cases hp:s.units.nat + n.nat < 18446744073709551616
 ·
  rw [if_pos hp]; exact ⟨hv,rfl⟩
 ·
  rw [if_neg hp] at h; exact absurd h b5W
theorem e8X {data:List B8} {lim ex:I .u64} {cap tip base unit:U} {p:Prm} (h:I.neb (e2K data lim ex cap tip base unit p).2 (I.of .i64 0) = false):a6W p = true:=by
 cases hv:a6W p with
 | true=>rfl
 | false =>
  exfalso
  have e:d9X data lim cap base unit p = (I.of .u64 0,I.of .u64 0,I.of .i64 15):=by unfold d9X; rw [if_pos hv]
  unfold e2K at h
  rw [e] at h
  rw [if_pos (by decide)] at h
  exact absurd h (by decide)
theorem g3A {data:List B8} {lim ex:I .u64} {cap tip base unit:U} {p:Prm} (h:I.neb (e2K data lim ex cap tip base unit p).2 (I.of .i64 0) = false) :
  (b5C (e2K data lim ex cap tip base unit p).1).val + (a9L (e2K data lim ex cap tip base unit p).1).val + (c9P (e2K data lim ex cap tip base unit p).1).val + (c1A (e2K data lim ex cap tip base unit p).1).val ≤ lim.nat * (d1M (cap,tip) base).1.val:=by
 have hv:=e8X h
 obtain ⟨u,po,E,T,h0,hc,hT,hu,hcost,hpo,hql,hE,d1,d2,d3,hf⟩:=g5H h
 rw [hf]
 have hcl:=cap.lt
 have hinf:min (U.val p.2.2.2.2.2.1) base.val * E ≤ base.val * E:=Nat.mul_le_mul_right _ (Nat.min_le_right _ _)
 have hbu:c7U base p.2.2.2.2.2.1 p.2.2.2.2.2.2.1 E ≤ e4S base p.2.2.2.2.2.1 E:=e6C _ _ (d1R hv)
 have hnet:e4S base p.2.2.2.2.2.1 E = base.val * E - min (U.val p.2.2.2.2.2.1) base.val * E:=rfl
 have hsum:base.val * po + min (U.val p.2.2.2.2.2.1) base.val * E + (e4S base p.2.2.2.2.2.1 E - c7U base p.2.2.2.2.2.1 p.2.2.2.2.2.2.1 E + T * (po + E)) + c7U base p.2.2.2.2.2.1 p.2.2.2.2.2.2.1 E = (base.val + T) * (po + E):=by
  have e1:base.val * (po + E) = base.val * po + base.val * E:=Nat.mul_add _ _ _
  rw [Nat.add_mul,e1]
  omega
 show (U.of (base.val * po)).val + (U.of (min (U.val p.2.2.2.2.2.1) base.val * E)).val + (U.of (e4S base p.2.2.2.2.2.1 E - c7U base p.2.2.2.2.2.1 p.2.2.2.2.2.2.1 E + T * (po + E))).val + (U.of (c7U base p.2.2.2.2.2.1 p.2.2.2.2.2.2.1 E)).val ≤ _
 rw [U.val_of (n:=base.val * po) d1,U.val_of (n:=min (U.val p.2.2.2.2.2.1) base.val * E) (by omega),U.val_of d3,U.val_of (n:=c7U base p.2.2.2.2.2.1 p.2.2.2.2.2.2.1 E) (by omega),hsum]
 have hg:(d1M (cap,tip) base).1.val = base.val + T:=by
  unfold d1M
  rw [if_pos hc,hT]
  show (U.of (base.val + min tip.val (cap.val - base.val))).val = _
  exact U.val_of (by omega)
 rw [hg,Nat.mul_comm lim.nat]
 exact Nat.mul_le_mul_left _ (by omega)
end Sym

/- Audit: what a step does to the sums of a run. -/
namespace Sym
open Go
theorem b4I (r:Rcp):e4Q r = tot mAm (b3R r):=by
 unfold e4Q f5B
 rw [List.take_length]
 rfl
def E60:Nat:=1152921504606846976
def E80:Nat:=1208925819614629174706176
structure RInv (n:Nat) (m:MS) (T:Nat→Nat):Prop where
 sup:c1D m.ac + e7M m.v + T 1 = T 0
 v0:m.v.1.val = T 5
 v1:m.v.2.1.val = T 4
 v2:m.v.2.2.1.val + T 7 = T 3
 v3:m.v.2.2.2.1.val = T 6
 esc:m.bal.val + T 2 = T 0
 msg:tot mAm m.ms = T 1
 prv:prV m.pr = true
 paid:tot b7F m.pr.posters = T 7
 b0:T 0 ≤ n * E60
 b3:T 3 ≤ n * E80
theorem RInv.up1 {n:Nat} {m:MS} {T:Nat→Nat} (h:RInv n m T):RInv (n + 1) m T :=
 ⟨h.sup,h.v0,h.v1,h.v2,h.v3,h.esc,h.msg,h.prv,h.paid,Nat.le_trans h.b0 (Nat.mul_le_mul_right _ (Nat.le_succ n)),Nat.le_trans h.b3 (Nat.mul_le_mul_right _ (Nat.le_succ n))⟩
theorem RInv.small {n:Nat} {m:MS} {T:Nat→Nat} (h:RInv n m T) (hn:n ≤ 1000):T 0 ≤ 1000 * E60:=Nat.le_trans h.b0 (Nat.mul_le_mul_right _ hn)
theorem g2J {m:MS} {t:Txn} (h:I.neb (b9J m t).2 (I.of .i64 0) = false):(a2I t).val ≠ 0∧(tTo t).val ≠ 0∧(e6R t).nat * (d1M (d7U t,d6R t) (d4E m.bk)).1.val + (c5K t).val ≤ (a8J m.ac (a2I t)).2.1.val:=by
 unfold b9J at h
 by_cases h1:4096 < (c3P t).length
 ·
  rw [if_pos h1] at h; exact absurd h (by decide)
 rw [if_neg h1] at h
 by_cases h2:(a2I t).val = 0 ∨ (tTo t).val = 0 ∨ (a2I t).val = 18446744073709551615
 ·
  rw [if_pos h2] at h; exact absurd h (by decide)
 rw [if_neg h2] at h
 by_cases h3:I.neb (e6E t) (a8J m.ac (a2I t)).2.2.1 = true
 ·
  rw [if_pos h3] at h; exact absurd h (by decide)
 rw [if_neg h3] at h
 by_cases h4:I.eqb (I.add (a8J m.ac (a2I t)).2.2.1 (I.of .u64 1)) (I.of .u64 0) = true
 ·
  rw [if_pos h4] at h; exact absurd h (by decide)
 rw [if_neg h4] at h
 by_cases h5:I.neb (d1M (d7U t,d6R t) (d4E m.bk)).2 (I.of .i64 0) = true
 ·
  rw [if_pos h5] at h
  have h:I.neb (d1M (d7U t,d6R t) (d4E m.bk)).2 (I.of .i64 0) = false:=h
  rw [h] at h5; cases h5
 rw [if_neg h5] at h
 by_cases h6:I.ltb (g2H m.bk m.pm) (e6R t) = true
 ·
  rw [if_pos h6] at h; exact absurd h (by decide)
 rw [if_neg h6] at h
 by_cases h7:c9I (e6R t) (d1M (d7U t,d6R t) (d4E m.bk)).1 (c5K t) (a8J m.ac (a2I t)).2.1 = false
 ·
  rw [if_pos h7] at h; exact absurd h (by decide)
 have h7:c9I (e6R t) (d1M (d7U t,d6R t) (d4E m.bk)).1 (c5K t) (a8J m.ac (a2I t)).2.1 = true:=by simpa using h7
 exact ⟨fun h=>h2 (.inl h),fun h=>h2 (.inr (.inl h)),of_decide_eq_true h7⟩
theorem f5N {m:MS} {a:I .u64} {c:Chg} (ha:a.val ≠ 0) (hS:(b5C c).val + (a9L c).val + (c9P c).val + (c1A c).val ≤ (a8J m.ac a).2.1.val) (hsup:c1D m.ac + e7M m.v ≤ 1000 * E60) :
  (b9X m a c).2.1.1.val = m.v.1.val + (c9P c).val∧(b9X m a c).2.1.2.1.val = m.v.2.1.val + (a9L c).val∧(b9X m a c).2.1.2.2.1.val = m.v.2.2.1.val + (b5C c).val∧(b9X m a c).2.1.2.2.2.1.val = m.v.2.2.2.1.val + (c1A c).val ∧
  c1D (c2L m a c) + ((b5C c).val + (a9L c).val + (c9P c).val + (c1A c).val) = c1D m.ac∧(a8J (c2L m a c) a).2.1.val + ((b5C c).val + (a9L c).val + (c9P c).val + (c1A c).val) = (a8J m.ac a).2.1.val:=by
 have hb:=e0O m.ac a
 have hE:1000 * E60 + 1000 * E60 < U.top:=by decide
 have hvn:e7M m.v = m.v.1.val + m.v.2.1.val + m.v.2.2.1.val + m.v.2.2.2.1.val:=rfl
 have e1:d0B m a c = (I.of .i64 0,f8T m.v 2 (U.of ((d5N m.v 2).val + (b5C c).val)),a4S m.ac a (b5C c)):=e4N ha (by omega)
 have d1:=c2F (l:=m.ac) (a:=a) (n:=b5C c) (by omega)
 have e2:d0F m a c = (I.of .i64 0,f8T (d0B m a c).2.1 1 (U.of ((d5N (d0B m a c).2.1 1).val + (a9L c).val)),a4S (d0B m a c).2.2 a (a9L c)):=e4N ha (by rw [e1]; show _ ≤ (a8J (a4S m.ac a (b5C c)) a).2.1.val; omega)
 have d2:=c2F (l:=a4S m.ac a (b5C c)) (a:=a) (n:=a9L c) (by omega)
 rw [e1] at e2
 have e3:d0I m a c = (I.of .i64 0,f8T (d0F m a c).2.1 0 (U.of ((d5N (d0F m a c).2.1 0).val + (c9P c).val)),a4S (d0F m a c).2.2 a (c9P c)):=e4N ha (by rw [e2]; show _ ≤ (a8J (a4S (a4S m.ac a (b5C c)) a (a9L c)) a).2.1.val; omega)
 have d3:=c2F (l:=a4S (a4S m.ac a (b5C c)) a (a9L c)) (a:=a) (n:=c9P c) (by omega)
 rw [e2] at e3
 have e4:b9X m a c = (I.of .i64 0,f8T (d0I m a c).2.1 3 (U.of ((d5N (d0I m a c).2.1 3).val + (c1A c).val)),a4S (d0I m a c).2.2 a (c1A c)):=e4N ha (by rw [e3]; show _ ≤ (a8J (a4S (a4S (a4S m.ac a (b5C c)) a (a9L c)) a (c9P c)) a).2.1.val; omega)
 have d4:=c2F (l:=a4S (a4S (a4S m.ac a (b5C c)) a (a9L c)) a (c9P c)) (a:=a) (n:=c1A c) (by omega)
 rw [e3] at e4
 have e5:c2L m a c = (e9D (a4S (a4S (a4S (a4S m.ac a (b5C c)) a (a9L c)) a (c9P c)) a (c1A c)) a).2:=by unfold c2L; rw [e4]
 have d5:=g0T (a4S (a4S (a4S (a4S m.ac a (b5C c)) a (a9L c)) a (c9P c)) a (c1A c)) a
 rw [← e5] at d5
 have hbb:=e0O m.ac a
 refine ⟨?_,?_,?_,?_,by omega,by omega⟩
 ·
  rw [e4]
  show (U.of (m.v.1.val + (c9P c).val)).val = _
  exact U.val_of (by omega)
 ·
  rw [e4]
  show (U.of (m.v.2.1.val + (a9L c).val)).val = _
  exact U.val_of (by omega)
 ·
  rw [e4]
  show (U.of (m.v.2.2.1.val + (b5C c).val)).val = _
  exact U.val_of (by omega)
 ·
  rw [e4]
  show (U.of (m.v.2.2.2.1.val + (c1A c).val)).val = _
  exact U.val_of (by omega)
noncomputable def f8I (r:Rcp) (T:Nat→Nat):Nat→Nat:=if (b8Z r).val = 0 then up (up (up (up (up T 1 (e4Q r)) 3 (b5C (c3Q r)).val) 4 (a9L (c3Q r)).val) 5 (c9P (c3Q r)).val) 6 (c1A (c3Q r)).val else T
theorem c1T {T:Nat→Nat} (a b c d e:Nat) (i:Nat):up (up (up (up (up T 1 a) 3 b) 4 c) 5 d) 6 e i = T i + (if i = 1 then a else 0) + (if i = 3 then b else 0) + (if i = 4 then c else 0) + (if i = 5 then d else 0) + (if i = 6 then e else 0):=by
 unfold up
 repeat' split
 all_goals omega
theorem g3H {l:List Ac} {a b:I .u64} {n:U} (ht:c1D l < U.top):c1D (e9C l a b n).2 = c1D l:=by
 unfold e9C
 split
 ·
  rfl
 ·
  by_cases h:b0C l a n = true
  ·
   rw [if_pos h]
   have d:=c2F (l:=l) (a:=a) (n:=n) (of_decide_eq_true h)
   show c1D (b7J (a4S l a n) b n) = _
   rw [d4T (by omega)]
   omega
  ·
   rw [if_neg h]
   show c1D (a4S l a n) = _
   unfold a4S
   rw [if_neg (fun hh=>h (decide_eq_true hh))]
theorem g6M {n:Nat} {m:MS} {T:Nat→Nat} (h:RInv n m T) (hn:n ≤ 1000) (t:Txn):RInv (n + 1) (txS m t).2 (f8I (txS m t).1 T):=by
 have hsm:=h.small hn
 have hE:1000 * E60 + 1000 * E60 < U.top:=by decide
 have hE8:1000 * E60 ≤ E80:=by decide
 unfold txS
 by_cases h1:I.neb (b9J m t).2 (I.of .i64 0) = true
 ·
  rw [if_pos h1]
  have:(b8Z (d3N (b9J m t).2)).val ≠ 0:=iff_neb.1 h1
  unfold f8I; rw [if_neg this]; exact h.up1
 rw [if_neg h1]
 by_cases h2:I.neb (a4M m t).2 (I.of .i64 0) = true
 ·
  rw [if_pos h2]
  have:(b8Z (d3N (a4M m t).2)).val ≠ 0:=iff_neb.1 h2
  unfold f8I; rw [if_neg this]; exact h.up1
 rw [if_neg h2]
 by_cases h3:I.neb (a4F m.pr (c0D (a4M m t).1)).2 (I.of .i64 0) = true
 ·
  rw [if_pos h3]
  have:(b8Z (d3N (I.of .i64 4))).val ≠ 0:=by decide
  unfold f8I; rw [if_neg this]; exact h.up1
 rw [if_neg h3]
 have h1:I.neb (b9J m t).2 (I.of .i64 0) = false:=by simpa using h1
 have h2:I.neb (a4M m t).2 (I.of .i64 0) = false:=by simpa using h2
 have h3:I.neb (a4F m.pr (c0D (a4M m t).1)).2 (I.of .i64 0) = false:=by simpa using h3
 obtain ⟨ha,hb,hcov⟩:=g2J h1
 have hfs:(b5C (a4M m t).1).val + (a9L (a4M m t).1).val + (c9P (a4M m t).1).val + (c1A (a4M m t).1).val ≤ (e6R t).nat * (d1M (d7U t,d6R t) (d4E m.bk)).1.val:=g3A h2
 obtain ⟨hpv,hpp⟩:=f6A (niff_neb.1 h3)
 generalize hq:(a4F m.pr (c0D (a4M m t).1)).1 = q at hpv hpp
 generalize hc:(a4M m t).1 = c at hfs
 have hsup:=h.sup
 have hvn:e7M m.v = m.v.1.val + m.v.2.1.val + m.v.2.2.1.val + m.v.2.2.2.1.val:=rfl
 obtain ⟨f0,f1,f2,f3,f4,f5⟩:=f5N (m:=m) (a:=a2I t) (c:=c) ha (by omega) (by omega)
 have hbl:=e0O m.ac (a2I t)
 have hvn':e7M (b9X m (a2I t) c).2.1 = (b9X m (a2I t) c).2.1.1.val + (b9X m (a2I t) c).2.1.2.1.val + (b9X m (a2I t) c).2.1.2.2.1.val + (b9X m (a2I t) c).2.1.2.2.2.1.val:=rfl
 have hn1:(n + 1) * E60 = n * E60 + E60:=Nat.succ_mul _ _
 have hn2:(n + 1) * E80 = n * E80 + E80:=Nat.succ_mul _ _
 have k0:=h.v0
 have k1:=h.v1
 have k2:=h.v2
 have k3:=h.v3
 have k4:=h.b0
 have k5:=h.b3
 have fin:∀ (x:MS) (r:Rcp),x.v = (b9X m (a2I t) c).2.1→x.bal = m.bal→x.pr = q→b8Z r = I.of .i64 0→c3Q r = c→c1D x.ac + e4Q r = c1D (c2L m (a2I t) c)→tot mAm x.ms = tot mAm m.ms + e4Q r→RInv (n + 1) x (f8I r T):=by
  intro x r hv hbal hpr hcode hchg hac hms
  unfold f8I
  rw [if_pos (by rw [hcode]; rfl),hchg]
  refine ⟨?_,?_,?_,?_,?_,?_,?_,?_,?_,?_,?_⟩
  ·
   rw [c1T,c1T,hv,hvn']; simp; omega
  ·
   rw [c1T,hv]; simp; omega
  ·
   rw [c1T,hv]; simp; omega
  ·
   rw [c1T,c1T,hv]; simp; omega
  ·
   rw [c1T,hv]; simp; omega
  ·
   rw [c1T,c1T,hbal]; simp; exact h.esc
  ·
   rw [c1T,hms,h.msg]; simp
  ·
   rw [hpr]; exact hpv
  ·
   rw [c1T,hpr,hpp]; simp; exact h.paid
  ·
   rw [c1T]; simp; omega
  ·
   rw [c1T]; simp; omega
 by_cases g1:cOut c = true
 ·
  rw [if_pos g1]
  exact fin _ _ rfl rfl rfl rfl rfl (by rw [b4I]; rfl) (by rw [b4I]; rfl)
 rw [if_neg g1]
 by_cases g2:I.eqb (tTo t) (a2I t) = true
 ·
  rw [if_pos g2]
  exact fin _ _ rfl rfl rfl rfl rfl (by rw [b4I]; rfl) (by rw [b4I]; rfl)
 rw [if_neg g2]
 unfold g3T
 by_cases g3:I.neb (tTo t) (I.of .u64 18446744073709551615) = true
 ·
  rw [if_pos g3]
  refine fin _ _ rfl rfl rfl rfl rfl ?_ (by rw [b4I]; rfl)
  rw [b4I]
  show c1D (e9C (c2L m (a2I t) c) (a2I t) (tTo t) (c5K t)).2 + 0 = _
  rw [g3H (by omega)]
  rfl
 rw [if_neg g3]
 by_cases g4:(c5K t).val = 0
 ·
  rw [if_pos g4]
  exact fin _ _ rfl rfl rfl rfl rfl (by rw [b4I]; rfl) (by rw [b4I]; rfl)
 rw [if_neg g4]
 have hd:=c2F (l:=c2L m (a2I t) c) (a:=a2I t) (n:=c5K t) (by omega)
 refine fin _ _ rfl rfl rfl rfl rfl ?_ ?_
 ·
  rw [b4I]
  show c1D (e1P (c2L m (a2I t) c) (a2I t) (c5K t)).2 + ((c5K t).val + 0) = _
  unfold e1P
  rw [if_neg ha]
  show c1D (a4S (c2L m (a2I t) c) (a2I t) (c5K t)) + _ = _
  omega
 ·
  rw [b4I]
  show tot mAm (m.ms ++ [_]) = _
  rw [d7D]
  rfl
end Sym

/- Audit: reports, deposits and claims keep the sums; so does a run. -/
namespace Sym
open Go
theorem e6T:∀ (l:List Pay) (s:MS × List Msg),a9I (l.map amt) ≤ s.1.v.2.2.1.val →
  (l.foldl b0G s).1.v.2.2.1.val + a9I (l.map amt) = s.1.v.2.2.1.val∧(l.foldl b0G s).1.v.1 = s.1.v.1∧(l.foldl b0G s).1.v.2.1 = s.1.v.2.1∧(l.foldl b0G s).1.v.2.2.2.1 = s.1.v.2.2.2.1 ∧
  (l.foldl b0G s).1.ac = s.1.ac∧(l.foldl b0G s).1.bal = s.1.bal∧(l.foldl b0G s).1.pr = s.1.pr∧tot mAm (l.foldl b0G s).1.ms = tot mAm s.1.ms + a9I (l.map amt)∧tot mAm (l.foldl b0G s).2 = tot mAm s.2 + a9I (l.map amt)
 | [],s,_=>⟨rfl,rfl,rfl,rfl,rfl,rfl,rfl,rfl,rfl⟩
 | q :: l,s,h=>by
  rw [c7K] at h ⊢
  have hw:e3G s.1.v 2 q.2.1 = (I.of .i64 0,f8T s.1.v 2 (U.of ((d5N s.1.v 2).val - q.2.1.val))):=by
   unfold e3G
   exact if_pos (show q.2.1.val ≤ s.1.v.2.2.1.val by omega)
  have hv2:(b0G s q).1.v.2.2.1.val = s.1.v.2.2.1.val - q.2.1.val:=by
   show (e3G s.1.v 2 q.2.1).2.2.2.1.val = _
   rw [hw]
   show (U.of (s.1.v.2.2.1.val - q.2.1.val)).val = _
   exact U.val_of (by have:=U.lt s.1.v.2.2.1; omega)
  have h0:(b0G s q).1.v.1 = s.1.v.1:=by show (e3G s.1.v 2 q.2.1).2.1 = _; rw [hw]; rfl
  have h1:(b0G s q).1.v.2.1 = s.1.v.2.1:=by show (e3G s.1.v 2 q.2.1).2.2.1 = _; rw [hw]; rfl
  have h3:(b0G s q).1.v.2.2.2.1 = s.1.v.2.2.2.1:=by show (e3G s.1.v 2 q.2.1).2.2.2.2.1 = _; rw [hw]; rfl
  have hm:tot mAm (b0G s q).1.ms = tot mAm s.1.ms + q.2.1.val:=by
   show tot mAm (s.1.ms ++ [_]) = _
   rw [d7D]
   rfl
  have hm2:tot mAm (b0G s q).2 = tot mAm s.2 + q.2.1.val:=by
   show tot mAm (s.2 ++ [_]) = _
   rw [d7D]
   rfl
  obtain ⟨a1,a2,a3,a4,a5,a6,a7,a8,a9⟩:=e6T l (b0G s q) (by omega)
  rw [List.foldl_cons]
  exact ⟨by omega,a2.trans h0,a3.trans h1,a4.trans h3,a5,a6,a7,by omega,by omega⟩
noncomputable def g5P (r:Rcp) (T:Nat→Nat):Nat→Nat:=if (b8Z r).val = 0 then up (up T 1 (e4Q r)) 7 (f1B r).val else T
theorem c2B {T:Nat→Nat} (a b:Nat) (i:Nat):up (up T 1 a) 7 b i = T i + (if i = 1 then a else 0) + (if i = 7 then b else 0):=by
 unfold up
 repeat' split
 all_goals omega
theorem g0N {n:Nat} {m:MS} {T:Nat→Nat} (h:RInv n m T) (hn:n ≤ 1000) (r:RepT):RInv (n + 1) (d8T m r).2 (g5P (d8T m r).1 T):=by
 unfold d8T
 by_cases h1:I.neb (c5N m r).2.2 (I.of .i64 0) = true
 ·
  rw [if_pos h1]
  have:(b8Z (d3N (c5N m r).2.2)).val ≠ 0:=iff_neb.1 h1
  unfold g5P; rw [if_neg this]; exact h.up1
 rw [if_neg h1]
 have h1:I.neb (c5N m r).2.2 (I.of .i64 0) = false:=by simpa using h1
 have hR:=f7Z (s:=m.pr) (p:=m.pm) (pool:=d5N m.v 2) (r:=r) (now:=m.bk.2.1) (niff_neb.1 h1)
 obtain ⟨p1,p2⟩:=f5Q hR
 have hpv:=f2H hR
 have p1:tot b7F (c5N m r).1.posters = tot b7F m.pr.posters + a9I ((b9W m r).map amt):=p1
 have p2:a9I ((b9W m r).map amt) ≤ m.v.2.2.1.val:=p2
 have hpv:prV (c5N m r).1 = true:=hpv
 obtain ⟨a1,a2,a3,a4,a5,a6,a7,a8,a9⟩:=e6T (b9W m r) ({ m with pr:=(c5N m r).1 },[]) p2
 have hS:a9I ((b9W m r).map amt) < U.top:=by have:=U.lt m.v.2.2.1; omega
 generalize hSS:a9I ((b9W m r).map amt) = S at *
 have ha8:tot mAm (d3X m r).1.ms = tot mAm m.ms + S:=a8
 have ha9:tot mAm (d3X m r).2 = S:=by
  have:tot mAm (d3X m r).2 = tot mAm [] + S:=a9
  rw [this]; simp [tot]
 have ha1:(d3X m r).1.v.2.2.1.val + S = m.v.2.2.1.val:=a1
 have ha2:(d3X m r).1.v.1 = m.v.1:=a2
 have ha3:(d3X m r).1.v.2.1 = m.v.2.1:=a3
 have ha4:(d3X m r).1.v.2.2.2.1 = m.v.2.2.2.1:=a4
 have ha5:(d3X m r).1.ac = m.ac:=a5
 have ha6:(d3X m r).1.bal = m.bal:=a6
 have ha7:(d3X m r).1.pr = (c5N m r).1:=a7
 have hm:e4Q (g7B (c5N m r).2.1 (c3R S).1 (d3X m r).2) = S:=by rw [b4I]; exact ha9
 have hp:(f1B (g7B (c5N m r).2.1 (c3R S).1 (d3X m r).2)).val = S:=by
  show (c3R S).1.val = S
  rw [c4A hS]
  exact U.val_of hS
 unfold g5P
 rw [if_pos (show (b8Z (g7B (c5N m r).2.1 (c3R S).1 (d3X m r).2)).val = 0 from rfl),hm,hp]
 have hn1:(n + 1) * E60 = n * E60 + E60:=Nat.succ_mul _ _
 have hn2:(n + 1) * E80 = n * E80 + E80:=Nat.succ_mul _ _
 have hsup:=h.sup
 have hvn:e7M m.v = m.v.1.val + m.v.2.1.val + m.v.2.2.1.val + m.v.2.2.2.1.val:=rfl
 have hvn':e7M (d3X m r).1.v = (d3X m r).1.v.1.val + (d3X m r).1.v.2.1.val + (d3X m r).1.v.2.2.1.val + (d3X m r).1.v.2.2.2.1.val:=rfl
 rw [ha2,ha3,ha4] at hvn'
 have k2:=h.v2
 have k4:=h.b0
 have k5:=h.b3
 refine ⟨?_,?_,?_,?_,?_,?_,?_,?_,?_,?_,?_⟩
 ·
  rw [c2B,c2B,ha5]; simp; omega
 ·
  rw [c2B,ha2]; simp; exact h.v0
 ·
  rw [c2B,ha3]; simp; exact h.v1
 ·
  rw [c2B,c2B]; simp; omega
 ·
  rw [c2B,ha4]; simp; exact h.v3
 ·
  rw [c2B,c2B,ha6]; simp; exact h.esc
 ·
  rw [c2B,ha8,h.msg]; simp
 ·
  rw [ha7]; exact hpv
 ·
  rw [c2B,ha7,p1,h.paid]; simp
 ·
  rw [c2B]; simp; omega
 ·
  rw [c2B]; simp; omega
theorem g2D (T:Nat→Nat) (j:Nat):up T j 0 = T:=by
 funext i
 unfold up
 split <;> rfl
theorem g2L (b:U) (r:List Hs) (cl:List (I .u64)) (ba:List Pay) (c:Clm):((c4C b r cl ba c).1.val = 0→(c4C b r cl ba c).2.1.val + (c6R c).val = b.val)∧((c4C b r cl ba c).1.val ≠ 0→(c4C b r cl ba c).2.1 = b):=by
 unfold c4C
 split
 ·
  exact ⟨fun h=>absurd (show (I.of .i64 2).val = 0 from h) (by decide),fun _=>rfl⟩
 split
 ·
  exact ⟨fun h=>absurd (show (I.of .i64 8).val = 0 from h) (by decide),fun _=>rfl⟩
 split
 ·
  exact ⟨fun h=>absurd (show (I.of .i64 9).val = 0 from h) (by decide),fun _=>rfl⟩
 split
 ·
  exact ⟨fun h=>absurd (show (I.of .i64 16).val = 0 from h) (by decide),fun _=>rfl⟩
 split
 ·
  exact ⟨fun h=>absurd (show (I.of .i64 10).val = 0 from h) (by decide),fun _=>rfl⟩
 split
 ·
  rename_i h5 h6
  refine ⟨fun _=>?_,fun h=>absurd rfl h⟩
  show (U.of (b.val - (c6R c).val)).val + _ = _
  rw [U.val_of (by have:=U.lt b; omega)]
  omega
 ·
  exact ⟨fun h=>absurd (show (I.of .i64 4).val = 0 from h) (by decide),fun _=>rfl⟩
noncomputable def e1F (s:b2B) (e:I .i64) (T:Nat→Nat):Nat→Nat:=if e.val = 0 then (if (a2N s).val = 6 then up T 0 (c1E s).val else if (a2N s).val = 7 then up T 2 (c6R (d3H s)).val else T) else T
theorem f9U {n:Nat} {m:MS} {T:Nat→Nat} (h:RInv n m T) (hn:n ≤ 1000) (s:b2B) (hk:3 ≤ (a2N s).val∧(a2N s).val ≤ 7) (hd:I.eqb (a2N s) (I.of .i64 6) = true→(c1E s).val < E60):RInv (n + 1) (e1H m s).2 (e1F s (e1H m s).1 T):=by
 have hu:=h.up1
 have same:∀ (x:MS) (T':Nat→Nat),x.v = m.v→x.ac = m.ac→x.bal = m.bal→x.ms = m.ms→prV x.pr = true→tot b7F x.pr.posters = tot b7F m.pr.posters→T' = T→RInv (n + 1) x T':=by
  rintro x T' e1 e2 e3 e4 e5 e6 rfl
  exact ⟨by rw [e1,e2]; exact hu.sup,by rw [e1]; exact hu.v0,by rw [e1]; exact hu.v1,by rw [e1]; exact hu.v2,by rw [e1]; exact hu.v3,by rw [e3]; exact hu.esc,by rw [e4]; exact hu.msg,e5,by rw [e6]; exact hu.paid,hu.b0,hu.b3⟩
 have c3:(I.of .i64 3).val = 3:=rfl
 have c4:(I.of .i64 4).val = 4:=rfl
 have c5:(I.of .i64 5).val = 5:=rfl
 have c6:(I.of .i64 6).val = 6:=rfl
 have aT:∀ e:I .i64,(a2N s).val ≠ 6→(a2N s).val ≠ 7→e1F s e T = T:=by
  intro e g1 g2
  unfold e1F
  rw [if_neg g1,if_neg g2]
  split <;> rfl
 unfold e1H
 by_cases k3:I.eqb (a2N s) (I.of .i64 3) = true
 ·
  have q:=iff_eqb.1 k3
  rw [if_pos k3]
  split
  ·
   exact same _ _ rfl rfl rfl rfl h.prv rfl (aT _ (by omega) (by omega))
  ·
   exact same _ _ rfl rfl rfl rfl h.prv rfl (aT _ (by omega) (by omega))
 rw [if_neg k3]
 by_cases k4:I.eqb (a2N s) (I.of .i64 4) = true
 ·
  have q:=iff_eqb.1 k4
  rw [if_pos k4]
  split
  ·
   exact same _ _ rfl rfl rfl rfl h.prv rfl (aT _ (by omega) (by omega))
  ·
   exact same _ _ rfl rfl rfl rfl h.prv rfl (aT _ (by omega) (by omega))
 rw [if_neg k4]
 by_cases k5:I.eqb (a2N s) (I.of .i64 5) = true
 ·
  have q:=iff_eqb.1 k5
  rw [if_pos k5]
  split
  ·
   rename_i g
   obtain ⟨i1,i2⟩:=f5J (s:=m.pr) (a:=c6P s) (iff_eqb.1 g)
   exact same _ _ rfl rfl rfl rfl i1 i2 (aT _ (by omega) (by omega))
  ·
   exact same _ _ rfl rfl rfl rfl h.prv rfl (aT _ (by omega) (by omega))
 rw [if_neg k5]
 by_cases k6:I.eqb (a2N s) (I.of .i64 6) = true
 ·
  have q:=iff_eqb.1 k6
  rw [if_pos k6]
  have hamt:=hd k6
  by_cases g1:(c6P s).val = 0 ∨ (c6P s).val = 18446744073709551615 ∨ (c1E s).val = 0
  ·
   rw [if_pos g1]
   have:e1F s (I.of .i64 2) T = T:=by unfold e1F; rw [if_neg (by decide)]
   show RInv (n + 1) m (e1F s (I.of .i64 2) T)
   rw [this]; exact hu
  rw [if_neg g1]
  have hsm:=h.small hn
  have hE:1000 * E60 + 1000 * E60 < U.top:=by decide
  have hE2:E60 ≤ 1000 * E60:=by decide
  have hesc:=h.esc
  have hsup:=h.sup
  rw [if_pos (show m.bal.val + (c1E s).val < U.top by omega)]
  have hmint:c6M m.v m.ac (c6P s) (c1E s) = (I.of .i64 0,m.v,b7J m.ac (c6P s) (c1E s)):=by
   unfold c6M
   rw [if_neg (fun hh=>g1 (.inl hh)),if_pos (by omega)]
  have hdep:f9A m.bal (c1E s) = (I.of .i64 0,U.of (m.bal.val + (c1E s).val)):=by
   unfold f9A
   rw [if_neg (fun hh=>g1 (.inr (.inr hh))),if_pos (by omega)]
  have hcr:=d4T (l:=m.ac) (a:=c6P s) (n:=c1E s) (by omega)
  have hn1:(n + 1) * E60 = n * E60 + E60:=Nat.succ_mul _ _
  rw [hmint,hdep]
  show RInv (n + 1) { m with bal:=U.of (m.bal.val + (c1E s).val),v:=m.v,ac:=b7J m.ac (c6P s) (c1E s) } (e1F s (I.of .i64 0) T)
  have hT:e1F s (I.of .i64 0) T = up T 0 (c1E s).val:=by
   unfold e1F
   rw [if_pos (by decide),if_pos (by omega)]
  rw [hT]
  have hv:=U.val_of (n:=m.bal.val + (c1E s).val) (by omega)
  have k4':=h.b0
  refine ⟨?_,by rw [a3R T _ (by decide)]; exact hu.v0,by rw [a3R T _ (by decide)]; exact hu.v1,by rw [a3R T _ (by decide),a3R T _ (by decide)]; exact hu.v2,by rw [a3R T _ (by decide)]; exact hu.v3,?_,by rw [a3R T _ (by decide)]; exact hu.msg,hu.prv,by rw [a3R T _ (by decide)]; exact hu.paid,?_,by rw [a3R T _ (by decide)]; exact hu.b3⟩
  ·
   rw [a3R T _ (by decide),a9J]
   show c1D (b7J m.ac (c6P s) (c1E s)) + e7M m.v + T 1 = _
   omega
  ·
   rw [a3R T _ (by decide),a9J]
   show (U.of (m.bal.val + (c1E s).val)).val + T 2 = _
   omega
  ·
   rw [a9J]; omega
 rw [if_neg k6]
 have q:(a2N s).val = 7:=by
  have:=niff_eqb.1 (Bool.eq_false_iff.2 k3)
  have:=niff_eqb.1 (Bool.eq_false_iff.2 k4)
  have:=niff_eqb.1 (Bool.eq_false_iff.2 k5)
  have:=niff_eqb.1 (Bool.eq_false_iff.2 k6)
  omega
 obtain ⟨b1,b2⟩:=g2L m.bal m.rt m.cl m.ba (d3H s)
 by_cases g:(c4C m.bal m.rt m.cl m.ba (d3H s)).1.val = 0
 ·
  have hb:=b1 g
  have hT:e1F s (c4C m.bal m.rt m.cl m.ba (d3H s)).1 T = up T 2 (c6R (d3H s)).val:=by
   unfold e1F
   rw [if_pos g,if_neg (by omega),if_pos q]
  show RInv (n + 1) _ (e1F s (c4C m.bal m.rt m.cl m.ba (d3H s)).1 T)
  rw [hT]
  have hesc:=h.esc
  refine ⟨by rw [a3R T _ (by decide),a3R T _ (by decide)]; exact hu.sup,by rw [a3R T _ (by decide)]; exact hu.v0,by rw [a3R T _ (by decide)]; exact hu.v1,by rw [a3R T _ (by decide),a3R T _ (by decide)]; exact hu.v2,by rw [a3R T _ (by decide)]; exact hu.v3,?_,by rw [a3R T _ (by decide)]; exact hu.msg,hu.prv,by rw [a3R T _ (by decide)]; exact hu.paid,by rw [a3R T _ (by decide)]; exact hu.b0,by rw [a3R T _ (by decide)]; exact hu.b3⟩
  rw [a9J,a3R T _ (by decide)]
  show (c4C m.bal m.rt m.cl m.ba (d3H s)).2.1.val + _ = _
  omega
 ·
  have hb:=b2 g
  have hT:e1F s (c4C m.bal m.rt m.cl m.ba (d3H s)).1 T = T:=by
   unfold e1F
   rw [if_neg g]
  show RInv (n + 1) _ (e1F s (c4C m.bal m.rt m.cl m.ba (d3H s)).1 T)
  exact same _ _ rfl rfl hb rfl h.prv rfl hT
end Sym

/- Audit: runs are consistent. -/
namespace Sym
open Go
theorem g3G {n:Nat} {m:MS} {T:Nat→Nat} (h:RInv n m T):RInv n (c1F m) T:=by
 unfold c1F
 split
 ·
  exact ⟨h.sup,h.v0,h.v1,h.v2,h.v3,h.esc,h.msg,h.prv,h.paid,h.b0,h.b3⟩
 ·
  exact h
theorem g2S {n:Nat} {m:MS} {T:Nat→Nat} (h:RInv n m T) (hn:n ≤ 1000) (s:b2B) (hd:I.eqb (a2N s) (I.of .i64 6) = true→(c1E s).val < E60):RInv (n + 1) (d0Q m s).2 (d0C s (d0Q m s).1 T)∧((b8Z (d0Q m s).1).val = 0→(e3F (d0Q m s).1).val = (a2N s).val):=by
 have ht:=g3G h
 unfold d0Q
 by_cases k0:¬ (1 ≤ (a2N s).val∧(a2N s).val ≤ 7)
 ·
  rw [if_pos k0]
  have hc:(b8Z (d3N (I.of .i64 17))).val ≠ 0:=by decide
  refine ⟨?_,fun g=>absurd g hc⟩
  show RInv (n + 1) (c1F m) (d0C s (d3N (I.of .i64 17)) T)
  unfold d0C
  rw [if_neg hc]
  exact ht.up1
 rw [if_neg k0]
 have k0:1 ≤ (a2N s).val∧(a2N s).val ≤ 7:=Classical.not_not.1 k0
 have c1:(I.of .i64 1).val = 1:=rfl
 have c2:(I.of .i64 2).val = 2:=rfl
 by_cases k1:I.eqb (a2N s) (I.of .i64 1) = true
 ·
  have q:=iff_eqb.1 k1
  rw [if_pos k1]
  refine ⟨?_,fun _=>rfl⟩
  have e:d0C s (c7J (a2N s) (txS (c1F m) (sTx s)).1) T = f8I (txS (c1F m) (sTx s)).1 T:=by
   generalize (txS (c1F m) (sTx s)).1 = r
   unfold d0C f8I
   show (if (b8Z r).val = 0 then f3N (a2N s) s (c7J (a2N s) r) (up T 1 (e4Q r)) else T) = _
   unfold f3N
   rw [if_pos (show (a2N s).val = 1 by omega)]
   rfl
  show RInv (n + 1) (txS (c1F m) (sTx s)).2 (d0C s (c7J (a2N s) (txS (c1F m) (sTx s)).1) T)
  rw [e]
  exact g6M ht hn _
 rw [if_neg k1]
 by_cases k2:I.eqb (a2N s) (I.of .i64 2) = true
 ·
  have q:=iff_eqb.1 k2
  rw [if_pos k2]
  refine ⟨?_,fun _=>rfl⟩
  have e:d0C s (c7J (a2N s) (d8T (c1F m) (f5D s)).1) T = g5P (d8T (c1F m) (f5D s)).1 T:=by
   generalize (d8T (c1F m) (f5D s)).1 = r
   unfold d0C g5P
   show (if (b8Z r).val = 0 then f3N (a2N s) s (c7J (a2N s) r) (up T 1 (e4Q r)) else T) = _
   unfold f3N
   rw [if_neg (show ¬ (a2N s).val = 1 by omega),if_pos (show (a2N s).val = 2 by omega)]
   rfl
  show RInv (n + 1) (d8T (c1F m) (f5D s)).2 (d0C s (c7J (a2N s) (d8T (c1F m) (f5D s)).1) T)
  rw [e]
  exact g0N ht hn _
 rw [if_neg k2]
 have n1:=niff_eqb.1 (Bool.eq_false_iff.2 k1)
 have n2:=niff_eqb.1 (Bool.eq_false_iff.2 k2)
 refine ⟨?_,fun _=>rfl⟩
 have e:d0C s (c7J (a2N s) (d3N (e1H (c1F m) s).1)) T = e1F s (e1H (c1F m) s).1 T:=by
  generalize (e1H (c1F m) s).1 = c
  have hm:e4Q (c7J (a2N s) (d3N c)) = 0:=by rw [b4I]; rfl
  unfold d0C e1F
  show (if c.val = 0 then f3N (a2N s) s (c7J (a2N s) (d3N c)) (up T 1 (e4Q (c7J (a2N s) (d3N c)))) else T) = _
  rw [hm,g2D]
  unfold f3N
  rw [if_neg (show ¬ (a2N s).val = 1 by omega),if_neg (show ¬ (a2N s).val = 2 by omega)]
 show RInv (n + 1) (e1H (c1F m) s).2 (d0C s (c7J (a2N s) (d3N (e1H (c1F m) s).1)) T)
 rw [e]
 exact f9U ht hn s ⟨by omega,k0.2⟩ hd
theorem e4P (l l':List b2B) (r r':List Rcp):∀ i,i ≤ l.length→i ≤ r.length→c5V (l ++ l') (r ++ r') i = c5V l r i
 | 0,_,_=>rfl
 | i + 1,h1,h2=>by
  show d0C _ _ (c5V _ _ i) = d0C _ _ (c5V _ _ i)
  rw [e4P l l' r r' i (by omega) (by omega),c2W,c2W,if_pos (by omega),if_pos (by omega)]
theorem f7J:RInv 0 ms0 (fun _=>0):=by
 refine ⟨rfl,rfl,rfl,rfl,rfl,rfl,rfl,?_,rfl,Nat.zero_le _,Nat.zero_le _⟩
 refine prV_t.2 ⟨fun p hp=>(by cases hp),⟨Nat.zero_le _,fun i hi=>absurd hi (Nat.not_lt_zero i)⟩,?_⟩
 rfl
theorem e2Q:∀ (k:Nat) (l:List b2B),l.length = k→k ≤ 1000→(∀ s ∈ l,I.eqb (a2N s) (I.of .i64 6) = true→(c1E s).val < E60) →
  RInv k (c6Q ms0 l).1 (c5V l (c6Q ms0 l).2 k)∧∀ i,i < k→d8N l (c6Q ms0 l).2 i
 | 0,l,hl,_,_=>by
  have:l = []:=List.eq_nil_of_length_eq_zero hl
  subst this
  exact ⟨f7J,fun i hi=>absurd hi (Nat.not_lt_zero i)⟩
 | k + 1,l,hl,hk,hd=>by
  obtain ⟨l',x,rfl⟩:∃ l' x,l = l' ++ [x]:=by
   rcases List.eq_nil_or_concat l with h | ⟨l',x,h⟩
   ·
    subst h; cases hl
   ·
    exact ⟨l',x,by simpa using h⟩
  have hl':l'.length = k:=by simpa using hl
  obtain ⟨ih1,ih2⟩:=e2Q k l' hl' (by omega) (fun s hs=>hd s (List.mem_append_left _ hs))
  have hrl:=c7E ms0 l'
  rw [hl'] at hrl
  obtain ⟨e1,e2⟩:=g2S ih1 (by omega) x (hd x (by simp))
  rw [c8B]
  show RInv (k + 1) (d0Q (c6Q ms0 l').1 x).2 (c5V (l' ++ [x]) ((c6Q ms0 l').2 ++ [(d0Q (c6Q ms0 l').1 x).1]) (k + 1))∧∀ i,i < k + 1→d8N (l' ++ [x]) ((c6Q ms0 l').2 ++ [(d0Q (c6Q ms0 l').1 x).1]) i
  have rx:rdL dS (l' ++ [x]) k = x:=by rw [c2W,if_neg (by omega),hl',Nat.sub_self]; rfl
  have ry:rdL dR ((c6Q ms0 l').2 ++ [(d0Q (c6Q ms0 l').1 x).1]) k = (d0Q (c6Q ms0 l').1 x).1:=by rw [c2W,if_neg (by omega),hrl,Nat.sub_self]; rfl
  refine ⟨?_,fun i hi=>?_⟩
  ·
   show RInv (k + 1) _ (d0C (rdL dS (l' ++ [x]) k) (rdL dR ((c6Q ms0 l').2 ++ [(d0Q (c6Q ms0 l').1 x).1]) k) (c5V (l' ++ [x]) ((c6Q ms0 l').2 ++ [(d0Q (c6Q ms0 l').1 x).1]) k))
   rw [rx,ry,e4P l' [x] _ _ k (by omega) (by omega)]
   exact e1
  ·
   rcases (by omega:i < k ∨ i = k) with h | rfl
   ·
    have:=ih2 i h
    unfold d8N at this ⊢
    rw [c2W,c2W,if_pos (by omega),if_pos (by omega)]
    exact this
   ·
    unfold d8N
    rw [rx,ry]
    exact e2
theorem e9V {k:Nat} {m:MS} {T:Nat→Nat} (h:RInv k m T) (hk:k ≤ 1000):∀ j,j < 8→T j < U.top:=by
 have hE:1000 * E60 < U.top:=by decide
 have hE8:1000 * E80 < U.top:=by decide
 have h0:=h.small hk
 have h3:=Nat.le_trans h.b3 (Nat.mul_le_mul_right E80 hk)
 have a1:=h.sup
 have a2:=h.esc
 have a3:=h.v2
 have a4:=h.v1
 have a5:=h.v0
 have a6:=h.v3
 have b4:=U.lt m.v.2.1
 have b5:=U.lt m.v.1
 have b6:=U.lt m.v.2.2.2.1
 intro j hj
 match j,hj with
 | 0,_=>omega
 | 1,_=>omega
 | 2,_=>omega
 | 3,_=>omega
 | 4,_=>omega
 | 5,_=>omega
 | 6,_=>omega
 | 7,_=>omega
theorem g5C {a:List (I .i64)} {l:List b2B} {p:MS × List Rcp} (ha:a.length ≤ 900) (hR:RunOk true a.length l p) :
  e2S l p.2 = (g1E (c5V l p.2 l.length),I.of .i64 0)∧RInv l.length p.1 (c5V l p.2 l.length)∧∀ j,j < 8→c5V l p.2 l.length j < U.top:=by
 have hlen:=hR.len
 obtain ⟨h1,h2⟩:=e2Q l.length l rfl (by omega) (fun s hs=>(hR.good s hs).dep rfl)
 rw [← hR.run] at h1 h2
 have hs:=e9V h1 (by omega)
 have hl:l.length = p.2.length:=by rw [hR.run,c7E]
 refine ⟨?_,h1,hs⟩
 unfold e2S
 rw [if_neg (by omega),if_pos h2,f2S]
 rintro ⟨j,hj,hh⟩
 have:=hs j hj
 omega
end Sym

/- Audit: the order of the steps, and the rejected ones, do not matter. -/
namespace Sym
open Go
noncomputable def cT (q:b2B × Rcp) (j:Nat):Nat:=d0C q.1 q.2 (fun _=>0) j
theorem up_add (T:Nat→Nat) (k n j:Nat):up T k n j = T j + (if j = k then n else 0):=by
 unfold up
 split <;> omega
theorem g5T (s:b2B) (r:Rcp) (T:Nat→Nat) (j:Nat):d0C s r T j = T j + cT (s,r) j:=by
 unfold cT d0C
 split
 ·
  unfold f3N
  split
  ·
   simp only [up_add]; omega
  ·
   split
   ·
    simp only [up_add]; omega
   ·
    split
    ·
     simp only [up_add]; omega
    ·
     split
     ·
      simp only [up_add]; omega
     ·
      simp only [up_add]; omega
 ·
  simp
theorem g5M {q:b2B × Rcp} (h:(b8Z q.2).val ≠ 0) (j:Nat):cT q j = 0:=by
 unfold cT d0C
 rw [if_neg h]
noncomputable def c9W (z:List (b2B × Rcp)) (j:Nat):Nat:=(z.map fun q=>cT q j).sum
theorem e4D (a b:List (b2B × Rcp)) (j:Nat):c9W (a ++ b) j = c9W a j + c9W b j:=by simp [c9W]
theorem e4O:∀ (z:List (b2B × Rcp)) (j:Nat),c9W z.reverse j = c9W z j
 | [],j=>rfl
 | q :: z,j=>by
  rw [List.reverse_cons,e4D,e4O z j]
  simp [c9W]; omega
def okQ (q:b2B × Rcp):Bool:=I.eqb (b8Z q.2) (I.of .i64 0)
theorem e5N:∀ (z:List (b2B × Rcp)) (j:Nat),c9W (z.filter okQ) j = c9W z j
 | [],j=>rfl
 | q :: z,j=>by
  have ih:=e5N z j
  by_cases h:okQ q = true
  ·
   rw [List.filter_cons_of_pos h]
   have e:c9W (q :: z.filter okQ) j = cT q j + c9W (z.filter okQ) j:=by simp [c9W]
   have e2:c9W (q :: z) j = cT q j + c9W z j:=by simp [c9W]
   rw [e,e2,ih]
  ·
   rw [List.filter_cons_of_neg h,ih]
   have e2:c9W (q :: z) j = cT q j + c9W z j:=by simp [c9W]
   rw [e2,g5M (fun hh=>h (iff_eqb.2 hh)) j]
   omega
theorem e0Q {z:List (b2B × Rcp)} {i:Nat} (h:i < z.length) (d:b2B):rdL d (z.map Prod.fst) i = z[i].1:=by
 rw [a3X _ _ _ (by simpa using h),List.getElem_map]
theorem e1C {z:List (b2B × Rcp)} {i:Nat} (h:i < z.length) (d:Rcp):rdL d (z.map Prod.snd) i = z[i].2:=by
 rw [a3X _ _ _ (by simpa using h),List.getElem_map]
theorem f2L (z:List (b2B × Rcp)):∀ i,i ≤ z.length→c5V (z.map Prod.fst) (z.map Prod.snd) i = c9W (z.take i)
 | 0,_=>rfl
 | i + 1,h=>by
  funext j
  show d0C (rdL dS (z.map Prod.fst) i) (rdL dR (z.map Prod.snd) i) (c5V (z.map Prod.fst) (z.map Prod.snd) i) j = _
  rw [f2L z i (by omega),e0Q (by omega),e1C (by omega),g5T,List.take_add_one,List.getElem?_eq_getElem (by omega),e4D]
  simp [c9W]
def g5V (q:b2B × Rcp):Prop:=(b8Z q.2).val = 0→(e3F q.2).val = (a2N q.1).val
theorem g4Z {z:List (b2B × Rcp)} (hk:∀ q ∈ z,g5V q) {T:Nat→Nat} (hT:c9W z = T) (hs:∀ j,j < 8→T j < U.top):e2S (z.map Prod.fst) (z.map Prod.snd) = (g1E T,I.of .i64 0):=by
 unfold e2S
 rw [if_neg (by simp),if_pos ?_,List.length_map,f2L z z.length (by omega),List.take_length,hT,f2S]
 ·
  rintro ⟨j,hj,hh⟩
  have:=hs j hj
  omega
 ·
  intro i hi
  have hi:i < z.length:=by simpa using hi
  unfold d8N
  rw [e0Q hi,e1C hi]
  exact hk _ (List.getElem_mem hi)
theorem e2T (a:List (I .i64)) (ha:a.length ≤ LIM):a5X K0 ((a,()),()) = some ((true,()),()):=by
 refine Wp.out (T:=fun o=>o = some ((true,()),())) ?_
 unfold a5X
 have hL:LIM = 140737488355328:=rfl
 refine Wp.brn (fun _=>Wp.optF e9F rfl) (fun h=>?_)
 have ha:=g3M (n:=30) ha (by omega) h
 obtain ⟨l,p,hs,hR⟩:=g6Z a true (by omega)
 refine Wp.optF hs ?_
 have hlen:=hR.len
 have hpl:p.2.length = 8 + a.length:=by rw [hR.run,c7E,hR.len]
 have hmr:∀ x ∈ p.2,(b3R x).length ≤ 1000:=fun x hx=>by have:=hR.msgs x hx; omega
 obtain ⟨g1,g2,g3⟩:=g5C (by omega) hR
 have hkind:∀ i,i < l.length→d8N l p.2 i:=by
  have h2:=(e2Q l.length l rfl (by omega) (fun s hs=>(hR.good s hs).dep rfl)).2
  rw [← hR.run] at h2
  exact h2
 generalize hr:p.2 = r at *
 obtain ⟨z,hz1,hz2⟩:∃ z:List (b2B × Rcp),z.map Prod.fst = l∧z.map Prod.snd = r:=⟨l.zip r,List.map_fst_zip (by omega),List.map_snd_zip (by omega)⟩
 have hzl:z.length = l.length:=by rw [← hz1,List.length_map]
 have hn:z.length ≤ 38:=by omega
 have hkz:∀ q ∈ z,g5V q:=by
  intro q hq
  obtain ⟨i,hi,rfl⟩:=List.mem_iff_getElem.1 hq
  have:=hkind i (by omega)
  unfold d8N at this
  rw [← hz1,← hz2,e0Q hi,e1C hi] at this
  exact this
 have hT:c5V l r l.length = c9W z:=by
  have:=f2L z z.length (by omega)
  rw [List.take_length,hz1,hz2,hzl] at this
  exact this
 rw [hT] at g3
 have hmz:∀ q ∈ z,(b3R q.2).length ≤ 1000:=fun q hq=>hmr _ (by rw [← hz2]; exact List.mem_map_of_mem hq)
 have tot:∀ (z2:List (b2B × Rcp)) (l2:List b2B) (r2:List Rcp),z2.map Prod.fst = l2→z2.map Prod.snd = r2→z2.length ≤ 38→(∀ q ∈ z2,q ∈ z)→c9W z2 = c9W z→b2P K0 ((l2,(r2,())),()) = some ((g1E (c9W z),(I.of .i64 0,())),()):=by
  rintro z2 l2 r2 rfl rfl h1 h2 h3
  have:=e9J (z2.map Prod.fst) (z2.map Prod.snd) (by rw [List.length_map]; omega) (by rw [List.length_map]; omega) (fun x hx=>by
   obtain ⟨q,hq,rfl⟩:=List.mem_map.1 hx
   exact hmz q (h2 q hq))
  rw [g4Z (fun q hq=>hkz q (h2 q hq)) h3 g3] at this
  exact this
 have ht1:=tot z l r hz1 hz2 (by omega) (fun q hq=>hq) rfl
 have ht2:=tot (z.filter okQ) _ _ rfl rfl (Nat.le_trans (List.length_filter_le _ _) hn) (fun q hq=>(List.mem_filter.1 hq).1) (funext (e5N z))
 have ht3:=tot z.reverse _ _ rfl rfl (by rw [List.length_reverse]; omega) (fun q hq=>List.mem_reverse.1 hq) (funext (e4O z))
 refine Wp.iter (fun x=>∃ i,i ≤ z.length∧x = ((i6 i,()),(l,(r,(((z.take i).filter okQ).map Prod.fst,([],(((z.take i).filter okQ).map Prod.snd,([],())))))))) (fun x=>z.length - x.1.1.val.toNat) ?_ ⟨0,by omega,by rw [← hr]; rfl⟩ (by rw [a7S]; show z.length - 0 < _; omega)
 rintro x ⟨i,hi,rfl⟩
 have hn1:I.add (i6 i) (I.of .i64 1) = i6 (i + 1):=a4C (m:=1) (by omega)
 have e2:I.ltb (i6 i) (I.ofNat .i64 (a0I l)) = decide (i < l.length):=a3A (m:=l.length) (by omega) (by omega)
 refine Wp.brn (fun hk=>?_) (fun hk=>?_)
 ·
  have hk:I.ltb (i6 i) (I.ofNat .i64 (a0I l)) = true:=hk
  rw [e2] at hk
  have hk:=of_decide_eq_true hk
  have hiz:i < z.length:=by omega
  have bl:inB (i6 i) l.length = true:=a3S hk (by omega)
  have br:inB (i6 i) r.length = true:=a3S (by omega) (by omega)
  have rs:∀ d:b2B,rdL d l (I.nat (i6 i)) = z[i].1:=fun d=>by rw [a3N (by omega),← hz1,e0Q hiz]
  have rr:∀ d:Rcp,rdL d r (I.nat (i6 i)) = z[i].2:=fun d=>by rw [a3N (by omega),← hz2,e1C hiz]
  have hmu:z.length - (I.add (i6 i) (I.of .i64 1)).val.toNat < z.length - (i6 i).val.toNat:=by rw [hn1,a0V (by omega),a0V (by omega)]; omega
  have hfl:((z.take i).filter okQ).length ≤ 38:=Nat.le_trans (List.length_filter_le _ _) (by rw [List.length_take]; omega)
  refine Wp.brnT br ?_
  have hts:z.take (i + 1) = z.take i ++ [z[i]]:=by rw [List.take_add_one,List.getElem?_eq_getElem hiz]; rfl
  refine Wp.brn (fun g=>?_) (fun g=>?_)
  ·
   have g:I.eqb (rdL zR r (I.nat (i6 i))).2.1 (I.of .i64 0) = true:=g
   rw [rr] at g
   have hf:(z.take (i + 1)).filter okQ = (z.take i).filter okQ ++ [z[i]]:=by
    rw [hts,List.filter_append,List.filter_cons_of_pos (show okQ z[i] = true from g)]; rfl
   refine Wp.brnT bl (Wp.brnT (b0J (by show (((z.take i).filter okQ).map Prod.fst ++ [_]).length ≤ _; simp only [List.length_append,List.length_map]; show _ + 1 ≤ _; omega)) (Wp.brnT br (Wp.brnT (b0J (by show (((z.take i).filter okQ).map Prod.snd ++ [_]).length ≤ _; simp only [List.length_append,List.length_map]; show _ + 1 ≤ _; omega)) ?_)))
   refine Wp.again ⟨i + 1,by omega,?_⟩ hmu
   show ((I.add (i6 i) (I.of .i64 1),()),(l,(r,(((z.take i).filter okQ).map Prod.fst ++ [rdL dS l (I.nat (i6 i))],([],(((z.take i).filter okQ).map Prod.snd ++ [rdL dR r (I.nat (i6 i))],([],()))))))) = _
   rw [hn1,rs,rr,hf,List.map_append,List.map_append]
   rfl
  ·
   have g:I.eqb (rdL zR r (I.nat (i6 i))).2.1 (I.of .i64 0) = false:=g
   rw [rr] at g
   have hf:(z.take (i + 1)).filter okQ = (z.take i).filter okQ:=by
    rw [hts,List.filter_append,List.filter_cons_of_neg (show ¬ okQ z[i] = true by unfold okQ; rw [show I.eqb (b8Z z[i].2) (I.of .i64 0) = false from g]; simp)]
    simp
   refine Wp.again ⟨i + 1,by omega,?_⟩ hmu
   show ((I.add (i6 i) (I.of .i64 1),()),(l,(r,(((z.take i).filter okQ).map Prod.fst,([],(((z.take i).filter okQ).map Prod.snd,([],()))))))) = _
   rw [hn1,hf]
 have hk:I.ltb (i6 i) (I.ofNat .i64 (a0I l)) = false:=hk
 rw [e2] at hk
 have hk:i = z.length:=by have:=of_decide_eq_false hk; omega
 subst hk
 rw [List.take_length]
 refine Wp.done ?_
 refine Wp.iter (fun x=>∃ j,j ≤ z.length∧x = ((I.sub (i6 j) (I.of .i64 1),()),(l,(r,((z.filter okQ).map Prod.fst,((z.drop j).reverse.map Prod.fst,((z.filter okQ).map Prod.snd,((z.drop j).reverse.map Prod.snd,())))))))) (fun x=>(x.1.1.val + 1).toNat) ?_ ⟨z.length,by omega,?_⟩ ?_
 ·
  rintro x ⟨j,hj,rfl⟩
  have hv:(I.sub (i6 j) (I.of .i64 1)).val = (j:Int) - 1:=by
   have c1:(I.of .i64 1).val = 1:=rfl
   rw [a8B (by rw [a0V (by omega),c1]; omega),a0V (by omega),c1]
  refine Wp.brn (fun hk=>?_) (fun hk=>?_)
  ·
   have hk:=iff_leb.1 hk
   have hk:(I.of .i64 0).val ≤ (I.sub (i6 j) (I.of .i64 1)).val:=hk
   rw [hv,show (I.of .i64 0).val = 0 from rfl] at hk
   obtain ⟨i,rfl⟩:∃ i,j = i + 1:=⟨j - 1,by omega⟩
   have hiz:i < z.length:=by omega
   have es:I.sub (i6 (i + 1)) (I.of .i64 1) = i6 i:=c0A (m:=1) (by omega) (by omega)
   rw [es] at hv ⊢
   have bl:inB (i6 i) l.length = true:=a3S (by omega) (by omega)
   have br:inB (i6 i) r.length = true:=a3S (by omega) (by omega)
   have rs:∀ d:b2B,rdL d l (I.nat (i6 i)) = z[i].1:=fun d=>by rw [a3N (by omega),← hz1,e0Q hiz]
   have rr:∀ d:Rcp,rdL d r (I.nat (i6 i)) = z[i].2:=fun d=>by rw [a3N (by omega),← hz2,e1C hiz]
   have hd:(z.drop i).reverse = (z.drop (i + 1)).reverse ++ [z[i]]:=by rw [List.drop_eq_getElem_cons hiz,List.reverse_cons]
   have hdl:(z.drop (i + 1)).reverse.length ≤ 38:=by rw [List.length_reverse,List.length_drop]; omega
   refine Wp.brnT bl (Wp.brnT (b0J (by show ((z.drop (i + 1)).reverse.map Prod.fst ++ [_]).length ≤ _; simp only [List.length_append,List.length_map]; show _ + 1 ≤ _; omega)) (Wp.brnT br (Wp.brnT (b0J (by show ((z.drop (i + 1)).reverse.map Prod.snd ++ [_]).length ≤ _; simp only [List.length_append,List.length_map]; show _ + 1 ≤ _; omega)) ?_)))
   refine Wp.again ⟨i,by omega,?_⟩ ?_
   ·
    show ((I.sub (i6 i) (I.of .i64 1),()),(l,(r,((z.filter okQ).map Prod.fst,((z.drop (i + 1)).reverse.map Prod.fst ++ [rdL dS l (I.nat (i6 i))],((z.filter okQ).map Prod.snd,((z.drop (i + 1)).reverse.map Prod.snd ++ [rdL dR r (I.nat (i6 i))],()))))))) = _
    rw [rs,rr,hd,List.map_append,List.map_append]
    rfl
   ·
    show ((I.sub (i6 i) (I.of .i64 1)).val + 1).toNat < ((i6 i).val + 1).toNat
    have c1:(I.of .i64 1).val = 1:=rfl
    rw [a8B (by rw [a0V (by omega),c1]; omega),a0V (by omega),c1]
    omega
  ·
   have hk:=niff_leb.1 hk
   have hk:(I.sub (i6 j) (I.of .i64 1)).val < (I.of .i64 0).val:=hk
   rw [hv,show (I.of .i64 0).val = 0 from rfl] at hk
   have:j = 0:=by omega
   subst this
   rw [List.drop_zero]
   refine Wp.done (Wp.optF ht1 (Wp.optF ht2 (Wp.optF ht3 ?_)))
   exact Wp.brnT rfl (Wp.brnT rfl (Wp.brnT rfl (Wp.brnT (g7A _) (Wp.brnT (g7A _) (Wp.optF e9F rfl)))))
 ·
  show ((I.sub (I.ofNat .i64 (a0I l)) (I.of .i64 1),()),_) = _
  rw [List.drop_length,b0T,← hzl]
  rfl
 ·
  rw [a7S]
  show ((I.sub (i6 l.length) (I.of .i64 1)).val + 1).toNat < _
  have c1:(I.of .i64 1).val = 1:=rfl
  rw [a8B (by rw [a0V (by omega),c1]; omega),a0V (by omega),c1]
  omega
end Sym
