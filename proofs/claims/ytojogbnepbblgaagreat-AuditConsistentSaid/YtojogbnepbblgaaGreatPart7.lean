/- Audit: totals. -/
import Derived.Carry
import Derived.SizedLaws
import Derived.ChangeOld
import Derived.OpenShut
import Derived.Test.YtojogbnepbblgaaGreatPart6
import Derived.Test.YtojogbnepbblgaaGreatPart3
namespace Sym
open Go
abbrev c9T:Type:=b4S
def e9A (r:Rcp):I .i64:=r.1
def c2S (r:Rcp):I .i64:=r.2.1
def c3U (r:Rcp):Chg:=r.2.2.1
def f2R (r:Rcp):U:=r.2.2.2.2.2.2.2.1
def up (T:Nat→Nat) (j n:Nat):Nat→Nat:=fun i=>if i = j then T i + n else T i
theorem a9P (T:Nat→Nat) (j n:Nat):up T j n j = T j + n:=if_pos rfl
theorem a3U (T:Nat→Nat) {j i:Nat} (n:Nat) (h:i ≠ j):up T j n i = T i:=if_neg h
def Ovr (T:Nat→Nat):Prop:=∃ j,j < 8∧U.top ≤ T j
theorem Ovr.up {T:Nat→Nat} (h:Ovr T) (j n:Nat):Ovr (up T j n):=by
 obtain ⟨i,hi,h⟩:=h
 refine ⟨i,hi,?_⟩
 by_cases e:i = j
 ·
  subst e; rw [a9P]; omega
 ·
  rw [a3U T n e]; exact h
def PAcc (ov:Bool) (u:c9T) (T:Nat→Nat):Prop :=
 if ov = true then Ovr T else u.1.val = T 0∧u.2.1.val = T 1∧u.2.2.1.val = T 2∧u.2.2.2.1.val = T 3∧u.2.2.2.2.1.val = T 4∧u.2.2.2.2.2.1.val = T 5∧u.2.2.2.2.2.2.1.val = T 6∧u.2.2.2.2.2.2.2.1.val = T 7
def c5K (a n:U):Bool:=I.neb (e0X a n).2 (I.of .i64 0)
theorem c9P {a n:U} (h:c5K a n = true):U.top ≤ a.val + n.val:=by
 unfold c5K e0X at h
 by_cases c:a.val + n.val < U.top
 ·
  rw [if_pos c] at h
  have h:I.neb (I.of .i64 0) (I.of .i64 0) = true:=h
  exact absurd h (by decide)
 ·
  omega
theorem c9I {a n:U} (h:c5K a n = false):(e0X a n).1.val = a.val + n.val:=by
 unfold c5K at h
 unfold e0X at h ⊢
 by_cases c:a.val + n.val < U.top
 ·
  rw [if_pos c]; exact U.val_of c
 ·
  rw [if_neg c] at h
  have h:I.neb (I.of .i64 4) (I.of .i64 0) = false:=h
  exact absurd h (by decide)
theorem h0F {ov:Bool} {u:c9T} {T:Nat→Nat} (h:PAcc ov u T) (n:U):PAcc (ov || c5K u.1 n) (((e0X u.1 n).1,u.2)) (up T 0 n.val):=by
 cases ov with
 | true =>
  have h:Ovr T:=h
  exact h.up 0 n.val
 | false =>
  have h:_∧_:=h
  obtain ⟨h0,h1,h2,h3,h4,h5,h6,h7⟩:=h
  cases he:c5K u.1 n with
  | true=>exact ⟨0,by decide,by rw [a9P,← h0]; exact c9P he⟩
  | false =>
   refine ⟨by rw [a9P,← h0]; exact c9I he,by rw [a3U T n.val (by decide)]; exact h1,by rw [a3U T n.val (by decide)]; exact h2,by rw [a3U T n.val (by decide)]; exact h3,by rw [a3U T n.val (by decide)]; exact h4,by rw [a3U T n.val (by decide)]; exact h5,by rw [a3U T n.val (by decide)]; exact h6,by rw [a3U T n.val (by decide)]; exact h7⟩
theorem g8Y {ov:Bool} {u:c9T} {T:Nat→Nat} (h:PAcc ov u T) (n:U):PAcc (ov || c5K u.2.1 n) ((u.1,((e0X u.2.1 n).1,u.2.2))) (up T 1 n.val):=by
 cases ov with
 | true =>
  have h:Ovr T:=h
  exact h.up 1 n.val
 | false =>
  have h:_∧_:=h
  obtain ⟨h0,h1,h2,h3,h4,h5,h6,h7⟩:=h
  cases he:c5K u.2.1 n with
  | true=>exact ⟨1,by decide,by rw [a9P,← h1]; exact c9P he⟩
  | false =>
   refine ⟨by rw [a3U T n.val (by decide)]; exact h0,by rw [a9P,← h1]; exact c9I he,by rw [a3U T n.val (by decide)]; exact h2,by rw [a3U T n.val (by decide)]; exact h3,by rw [a3U T n.val (by decide)]; exact h4,by rw [a3U T n.val (by decide)]; exact h5,by rw [a3U T n.val (by decide)]; exact h6,by rw [a3U T n.val (by decide)]; exact h7⟩
theorem g8P {ov:Bool} {u:c9T} {T:Nat→Nat} (h:PAcc ov u T) (n:U):PAcc (ov || c5K u.2.2.1 n) ((u.1,(u.2.1,((e0X u.2.2.1 n).1,u.2.2.2)))) (up T 2 n.val):=by
 cases ov with
 | true =>
  have h:Ovr T:=h
  exact h.up 2 n.val
 | false =>
  have h:_∧_:=h
  obtain ⟨h0,h1,h2,h3,h4,h5,h6,h7⟩:=h
  cases he:c5K u.2.2.1 n with
  | true=>exact ⟨2,by decide,by rw [a9P,← h2]; exact c9P he⟩
  | false =>
   refine ⟨by rw [a3U T n.val (by decide)]; exact h0,by rw [a3U T n.val (by decide)]; exact h1,by rw [a9P,← h2]; exact c9I he,by rw [a3U T n.val (by decide)]; exact h3,by rw [a3U T n.val (by decide)]; exact h4,by rw [a3U T n.val (by decide)]; exact h5,by rw [a3U T n.val (by decide)]; exact h6,by rw [a3U T n.val (by decide)]; exact h7⟩
theorem h0P {ov:Bool} {u:c9T} {T:Nat→Nat} (h:PAcc ov u T) (n:U):PAcc (ov || c5K u.2.2.2.1 n) ((u.1,(u.2.1,(u.2.2.1,((e0X u.2.2.2.1 n).1,u.2.2.2.2))))) (up T 3 n.val):=by
 cases ov with
 | true =>
  have h:Ovr T:=h
  exact h.up 3 n.val
 | false =>
  have h:_∧_:=h
  obtain ⟨h0,h1,h2,h3,h4,h5,h6,h7⟩:=h
  cases he:c5K u.2.2.2.1 n with
  | true=>exact ⟨3,by decide,by rw [a9P,← h3]; exact c9P he⟩
  | false =>
   refine ⟨by rw [a3U T n.val (by decide)]; exact h0,by rw [a3U T n.val (by decide)]; exact h1,by rw [a3U T n.val (by decide)]; exact h2,by rw [a9P,← h3]; exact c9I he,by rw [a3U T n.val (by decide)]; exact h4,by rw [a3U T n.val (by decide)]; exact h5,by rw [a3U T n.val (by decide)]; exact h6,by rw [a3U T n.val (by decide)]; exact h7⟩
theorem h1B {ov:Bool} {u:c9T} {T:Nat→Nat} (h:PAcc ov u T) (n:U):PAcc (ov || c5K u.2.2.2.2.1 n) ((u.1,(u.2.1,(u.2.2.1,(u.2.2.2.1,((e0X u.2.2.2.2.1 n).1,u.2.2.2.2.2)))))) (up T 4 n.val):=by
 cases ov with
 | true =>
  have h:Ovr T:=h
  exact h.up 4 n.val
 | false =>
  have h:_∧_:=h
  obtain ⟨h0,h1,h2,h3,h4,h5,h6,h7⟩:=h
  cases he:c5K u.2.2.2.2.1 n with
  | true=>exact ⟨4,by decide,by rw [a9P,← h4]; exact c9P he⟩
  | false =>
   refine ⟨by rw [a3U T n.val (by decide)]; exact h0,by rw [a3U T n.val (by decide)]; exact h1,by rw [a3U T n.val (by decide)]; exact h2,by rw [a3U T n.val (by decide)]; exact h3,by rw [a9P,← h4]; exact c9I he,by rw [a3U T n.val (by decide)]; exact h5,by rw [a3U T n.val (by decide)]; exact h6,by rw [a3U T n.val (by decide)]; exact h7⟩
theorem h0M {ov:Bool} {u:c9T} {T:Nat→Nat} (h:PAcc ov u T) (n:U):PAcc (ov || c5K u.2.2.2.2.2.1 n) ((u.1,(u.2.1,(u.2.2.1,(u.2.2.2.1,(u.2.2.2.2.1,((e0X u.2.2.2.2.2.1 n).1,u.2.2.2.2.2.2))))))) (up T 5 n.val):=by
 cases ov with
 | true =>
  have h:Ovr T:=h
  exact h.up 5 n.val
 | false =>
  have h:_∧_:=h
  obtain ⟨h0,h1,h2,h3,h4,h5,h6,h7⟩:=h
  cases he:c5K u.2.2.2.2.2.1 n with
  | true=>exact ⟨5,by decide,by rw [a9P,← h5]; exact c9P he⟩
  | false =>
   refine ⟨by rw [a3U T n.val (by decide)]; exact h0,by rw [a3U T n.val (by decide)]; exact h1,by rw [a3U T n.val (by decide)]; exact h2,by rw [a3U T n.val (by decide)]; exact h3,by rw [a3U T n.val (by decide)]; exact h4,by rw [a9P,← h5]; exact c9I he,by rw [a3U T n.val (by decide)]; exact h6,by rw [a3U T n.val (by decide)]; exact h7⟩
theorem g8J {ov:Bool} {u:c9T} {T:Nat→Nat} (h:PAcc ov u T) (n:U):PAcc (ov || c5K u.2.2.2.2.2.2.1 n) ((u.1,(u.2.1,(u.2.2.1,(u.2.2.2.1,(u.2.2.2.2.1,(u.2.2.2.2.2.1,((e0X u.2.2.2.2.2.2.1 n).1,u.2.2.2.2.2.2.2)))))))) (up T 6 n.val):=by
 cases ov with
 | true =>
  have h:Ovr T:=h
  exact h.up 6 n.val
 | false =>
  have h:_∧_:=h
  obtain ⟨h0,h1,h2,h3,h4,h5,h6,h7⟩:=h
  cases he:c5K u.2.2.2.2.2.2.1 n with
  | true=>exact ⟨6,by decide,by rw [a9P,← h6]; exact c9P he⟩
  | false =>
   refine ⟨by rw [a3U T n.val (by decide)]; exact h0,by rw [a3U T n.val (by decide)]; exact h1,by rw [a3U T n.val (by decide)]; exact h2,by rw [a3U T n.val (by decide)]; exact h3,by rw [a3U T n.val (by decide)]; exact h4,by rw [a3U T n.val (by decide)]; exact h5,by rw [a9P,← h6]; exact c9I he,by rw [a3U T n.val (by decide)]; exact h7⟩
theorem h0K {ov:Bool} {u:c9T} {T:Nat→Nat} (h:PAcc ov u T) (n:U):PAcc (ov || c5K u.2.2.2.2.2.2.2.1 n) ((u.1,(u.2.1,(u.2.2.1,(u.2.2.2.1,(u.2.2.2.2.1,(u.2.2.2.2.2.1,(u.2.2.2.2.2.2.1,((e0X u.2.2.2.2.2.2.2.1 n).1,u.2.2.2.2.2.2.2.2))))))))) (up T 7 n.val):=by
 cases ov with
 | true =>
  have h:Ovr T:=h
  exact h.up 7 n.val
 | false =>
  have h:_∧_:=h
  obtain ⟨h0,h1,h2,h3,h4,h5,h6,h7⟩:=h
  cases he:c5K u.2.2.2.2.2.2.2.1 n with
  | true=>exact ⟨7,by decide,by rw [a9P,← h7]; exact c9P he⟩
  | false =>
   refine ⟨by rw [a3U T n.val (by decide)]; exact h0,by rw [a3U T n.val (by decide)]; exact h1,by rw [a3U T n.val (by decide)]; exact h2,by rw [a3U T n.val (by decide)]; exact h3,by rw [a3U T n.val (by decide)]; exact h4,by rw [a3U T n.val (by decide)]; exact h5,by rw [a3U T n.val (by decide)]; exact h6,by rw [a9P,← h7]; exact c9I he⟩
def g6R (m:Msg):U:=m.2.2.1
noncomputable def f7S (r:Rcp) (i:Nat):Nat:=(((b4I r).take i).map fun m=>(g6R m).val).sum
theorem e9Y {r:Rcp} {i:Nat} (h:i < (b4I r).length):f7S r (i + 1) = f7S r i + (g6R (rdL a0O (b4I r) i)).val:=by
 unfold f7S
 rw [List.take_add_one,List.getElem?_eq_getElem h,a4G _ _ _ h,List.map_append,List.sum_append]
 simp
noncomputable def e3S (r:Rcp):Nat:=f7S r (b4I r).length
def f4G (k:I .i64) (s:b6Q) (r:Rcp) (T:Nat→Nat):Nat→Nat :=
 if k.val = 1 then up (up (up (up T 3 (b5C (c3U r)).val) 4 (a9Q (c3U r)).val) 5 (c9K (c3U r)).val) 6 (c1H (c3U r)).val
 else if k.val = 2 then up T 7 (f2R r).val
 else if k.val = 6 then up T 0 (c1J s).val
 else if k.val = 7 then up T 2 (c6S (d3J s)).val
 else T
noncomputable def d5A (s:b6Q) (r:Rcp) (T:Nat→Nat):Nat→Nat:=if (c2S r).val = 0 then f4G (e9A r) s r (up T 1 (e3S r)) else T
noncomputable def dS:b6Q:=((I.of .i64 0),(zTx,(a0O,((I.of .u64 0),((I.of .i64 0),(Z_U,((I.of .u64 0),(g5L,()))))))))
noncomputable def dR:Rcp:=d4C (I.of .i64 0)
noncomputable def c6U (l:List b6Q) (r:List Rcp):Nat→(Nat→Nat)
 | 0=>fun _=>0
 | i + 1=>d5A (rdL dS l i) (rdL dR r i) (c6U l r i)
def e8Y (l:List b6Q) (r:List Rcp) (i:Nat):Prop:=(c2S (rdL dR r i)).val = 0→(e9A (rdL dR r i)).val = (a2P (rdL dS l i)).val
noncomputable def e9E (T:Nat→Nat):c9T:=(U.of (T 0),(U.of (T 1),(U.of (T 2),(U.of (T 3),(U.of (T 4),(U.of (T 5),(U.of (T 6),(U.of (T 7),()))))))))
open Classical in
noncomputable def g7T (T:Nat→Nat):c9T × I .i64:=if Ovr T then (a2Z,I.of .i64 4) else (e9E T,I.of .i64 0)
theorem g5C {T:Nat→Nat} (h:Ovr T):g7T T = (a2Z,I.of .i64 4):=if_pos h
theorem f8Y {T:Nat→Nat} (h:¬ Ovr T):g7T T = (e9E T,I.of .i64 0):=if_neg h
open Classical in
noncomputable def e7A (l:List b6Q) (r:List Rcp):c9T × I .i64 :=
 if l.length ≠ r.length then (a2Z,I.of .i64 2)
 else if ∀ i,i < l.length→e8Y l r i then g7T (c6U l r l.length)
 else (a2Z,I.of .i64 2)
theorem PAcc.of {ov ov':Bool} {u:c9T} {T:Nat→Nat} (h:PAcc ov u T) (e:ov = ov'):PAcc ov' u T:=e ▸ h
end Sym

/- Audit: the program's totals. -/
namespace Sym
open Go
theorem f2U {l:List b6Q} {r:List Rcp} {i:Nat} (hl:l.length = r.length) (hi:i < l.length) (hc:(c2S (rdL dR r i)).val = 0) (hk:(e9A (rdL dR r i)).val ≠ (a2P (rdL dS l i)).val):e7A l r = (a2Z,I.of .i64 2):=by
 unfold e7A
 rw [if_neg (by simp [hl]),if_neg (fun h=>hk (h i hi hc))]
noncomputable abbrev zR:Rcp:=((I.of .i64 0),((I.of .i64 0),(a2F,(Z_U,(Z_U,((I.of .u64 0),(Z_U,(Z_U,([],())))))))))
theorem f2E (l:List b6Q) (r:List Rcp) (hl:l.length ≤ 1000) (hr:r.length ≤ 1073741824) (hm:∀ x ∈ r,(b4I x).length ≤ 1000):b9H K0 ((l,(r,())),()) = some (((e7A l r).1,((e7A l r).2,())),()):=by
 refine Wp.out (T:=fun o=>o = some (((e7A l r).1,((e7A l r).2,())),())) ?_
 unfold b9H
 have e:I.neb (I.ofNat .i64 (a0I l)) (I.ofNat .i64 (a0I r)) = decide (l.length ≠ r.length):=i6_neb' (n:=l.length) (m:=r.length) (by omega) (by omega)
 refine Wp.brn (fun h=>?_) (fun h=>?_)
 ·
  have h:I.neb (I.ofNat .i64 (a0I l)) (I.ofNat .i64 (a0I r)) = true:=h
  rw [e] at h
  unfold e7A
  rw [if_pos (of_decide_eq_true h)]
  rfl
 have h:I.neb (I.ofNat .i64 (a0I l)) (I.ofNat .i64 (a0I r)) = false:=h
 rw [e] at h
 have hlr:l.length = r.length:=by have:=of_decide_eq_false h; omega
 refine Wp.iter (fun x=>∃ i,i ≤ l.length∧x = ((l,(r,(r,(i6 r.length,(i6 i,()))))),(a2Z,()))∧∀ k,k < i→e8Y l r k) (fun x=>l.length - x.1.2.2.2.2.1.val.toNat) ?_ ⟨0,by omega,rfl,fun k hk=>by omega⟩ (by rw [a6Y]; show l.length - 0 < _; omega)
 rintro x ⟨i,hi,rfl,hk⟩
 have hn:I.add (i6 i) (I.of .i64 1) = i6 (i + 1):=a3S (m:=1) (by omega)
 have hmu:l.length - (I.add (i6 i) (I.of .i64 1)).val.toNat < l.length - (i6 i).val.toNat ∨ l.length ≤ i:=by rw [hn,a0V (by omega),a0V (by omega)]; omega
 have e2:I.ltb (i6 i) (i6 r.length) = decide (i < r.length):=a2T (by omega) (by omega)
 refine Wp.brn (fun hc=>?_) (fun hc=>?_)
 ·
  have hc:I.ltb (i6 i) (i6 r.length) = true:=hc
  rw [e2] at hc
  have hc:=of_decide_eq_true hc
  have hrd:rdL zR r (I.nat (i6 i)) = rdL dR r i:=by rw [a3G (by omega)]; rfl
  have hls:rdL dS l (I.nat (i6 i)) = rdL dS l i:=by rw [a3G (by omega)]
  refine Wp.brnT (a3T (by show i < r.length; omega) (by omega)) ?_
  refine Wp.brn (fun g=>?_) (fun g=>?_)
  ·
   have g:(c2S (rdL zR r (I.nat (i6 i)))).val = 0:=iff_eqb.1 g
   rw [hrd] at g
   refine Wp.brnT (a3T (by show i < l.length; omega) (by omega)) ?_
   refine Wp.brn (fun q=>?_) (fun q=>?_)
   ·
    have q:(e9A (rdL zR r (I.nat (i6 i)))).val ≠ (a2P (rdL dS l (I.nat (i6 i)))).val:=iff_neb.1 q
    rw [hrd,hls] at q
    refine Wp.done ?_
    rw [f2U hlr (by omega) g q]
    rfl
   ·
    have q:(e9A (rdL zR r (I.nat (i6 i)))).val = (a2P (rdL dS l (I.nat (i6 i)))).val:=niff_neb.1 q
    rw [hrd,hls] at q
    refine Wp.again ⟨i + 1,by omega,by show ((l,(r,(r,(i6 r.length,(I.add (i6 i) (I.of .i64 1),()))))),_) = _; rw [hn],fun k hk'=>?_⟩ (hmu.resolve_right (by omega))
    rcases (by omega:k < i ∨ k = i) with h3 | rfl
    ·
     exact hk k h3
    ·
     exact fun _=>q
  ·
   have g:(c2S (rdL zR r (I.nat (i6 i)))).val ≠ 0:=niff_eqb.1 g
   rw [hrd] at g
   refine Wp.again ⟨i + 1,by omega,by show ((l,(r,(r,(i6 r.length,(I.add (i6 i) (I.of .i64 1),()))))),_) = _; rw [hn],fun k hk'=>?_⟩ (hmu.resolve_right (by omega))
   rcases (by omega:k < i ∨ k = i) with h3 | rfl
   ·
    exact hk k h3
   ·
    exact fun h0=>absurd h0 g
 have hc:I.ltb (i6 i) (i6 r.length) = false:=hc
 rw [e2] at hc
 have hc:i = l.length:=by have:=of_decide_eq_false hc; omega
 subst hc
 have hF:e7A l r = g7T (c6U l r l.length):=by
  unfold e7A
  rw [if_neg (by simp [hlr]),if_pos hk]
 clear hmu hn e2 hi
 refine Wp.done ?_
 refine Wp.iter (fun x=>∃ (i:Nat) (u:c9T) (ov:Bool),i ≤ l.length∧x = ((l,(r,(i6 r.length,(i6 i,())))),(a2Z,(u,((ov,()),()))))∧PAcc ov u (c6U l r i)) (fun x=>l.length - x.1.2.2.2.1.val.toNat) ?_ ⟨0,_,_,by omega,rfl,rfl,rfl,rfl,rfl,rfl,rfl,rfl,rfl⟩ (by rw [a6Y]; show l.length - 0 < _; omega)
 rintro x ⟨i,u,ov,hi,rfl,hP⟩
 have hn:I.add (i6 i) (I.of .i64 1) = i6 (i + 1):=a3S (m:=1) (by omega)
 have hmu:l.length - (I.add (i6 i) (I.of .i64 1)).val.toNat < l.length - (i6 i).val.toNat ∨ l.length ≤ i:=by rw [hn,a0V (by omega),a0V (by omega)]; omega
 have e2:I.ltb (i6 i) (i6 r.length) = decide (i < r.length):=a2T (by omega) (by omega)
 refine Wp.brn (fun hc=>?_) (fun hc=>?_)
 case refine_2 =>
  have hc:I.ltb (i6 i) (i6 r.length) = false:=hc
  rw [e2] at hc
  have hc:i = l.length:=by have:=of_decide_eq_false hc; omega
  subst hc
  refine Wp.done (Wp.brn (fun ho=>?_) (fun ho=>?_))
  ·
   have ho:ov = true:=ho
   subst ho
   have hP:Ovr (c6U l r l.length):=hP
   rw [hF,g5C hP]
   rfl
  ·
   have ho:ov = false:=ho
   subst ho
   have hP:_∧_:=hP
   obtain ⟨h0,h1,h2,h3,h4,h5,h6,h7⟩:=hP
   have hno:¬ Ovr (c6U l r l.length):=by
    rintro ⟨j,hj,h⟩
    have t0:=U.lt u.1; have t1:=U.lt u.2.1; have t2:=U.lt u.2.2.1; have t3:=U.lt u.2.2.2.1
    have t4:=U.lt u.2.2.2.2.1; have t5:=U.lt u.2.2.2.2.2.1; have t6:=U.lt u.2.2.2.2.2.2.1; have t7:=U.lt u.2.2.2.2.2.2.2.1
    rcases (by omega:j = 0 ∨ j = 1 ∨ j = 2 ∨ j = 3 ∨ j = 4 ∨ j = 5 ∨ j = 6 ∨ j = 7) with rfl | rfl | rfl | rfl | rfl | rfl | rfl | rfl <;> omega
   rw [hF,f8Y hno]
   have hV:e9E (c6U l r l.length) = u:=by
    unfold e9E
    rw [← h0,← h1,← h2,← h3,← h4,← h5,← h6,← h7]
    simp only [U.of_val]
   rw [hV]
   rfl
 have hc:I.ltb (i6 i) (i6 r.length) = true:=hc
 rw [e2] at hc
 have hc:=of_decide_eq_true hc
 have hrd:rdL zR r (I.nat (i6 i)) = rdL dR r i:=by rw [a3G (by omega)]; rfl
 have hls:rdL dS l (I.nat (i6 i)) = rdL dS l i:=by rw [a3G (by omega)]
 refine Wp.brnT (a3T (by show i < r.length; omega) (by omega)) ?_
 refine Wp.brn (fun g=>?_) (fun g=>?_)
 case refine_2 =>
  have g:(c2S (rdL zR r (I.nat (i6 i)))).val ≠ 0:=niff_eqb.1 g
  rw [hrd] at g
  refine Wp.again ⟨i + 1,u,ov,by omega,by show ((l,(r,(i6 r.length,(I.add (i6 i) (I.of .i64 1),())))),_) = _; rw [hn]; rfl,?_⟩ (hmu.resolve_right (by omega))
  have:c6U l r (i + 1) = c6U l r i:=by
   show d5A _ _ _ = _
   unfold d5A
   rw [if_neg g]
  rw [this]
  exact hP
 have g:(c2S (rdL zR r (I.nat (i6 i)))).val = 0:=iff_eqb.1 g
 rw [hrd] at g
 have hkk:=hk i (by omega) g
 refine Wp.brnT (a3T (by show i < l.length; omega) (by omega)) ?_
 have hS:c6U l r (i + 1) = f4G (a2P (rdL dS l i)) (rdL dS l i) (rdL dR r i) (up (c6U l r i) 1 (e3S (rdL dR r i))):=by
  show d5A _ _ _ = _
  unfold d5A
  rw [if_pos g]
  unfold f4G
  rw [hkk]
 have hML:=hm (rdL dR r i) (b7N _ _ _ hc)
 have hfin:∀ (ov':Bool) (u':c9T),PAcc ov' u' (c6U l r (i + 1))→Wp (Rnd (fun o:Option _=>o = some (((e7A l r).1,((e7A l r).2,())),())) (fun x=>∃ (i:Nat) (u:c9T) (ov:Bool),i ≤ l.length∧x = ((l,(r,(i6 r.length,(i6 i,())))),(a2Z,(u,((ov,()),()))))∧PAcc ov u (c6U l r i)) (fun x=>l.length - x.1.2.2.2.1.val.toNat) (l.length - (i6 i).val.toNat)) (.again ((l,(r,(i6 r.length,(I.add (i6 i) (I.of .i64 1),())))),(a2Z,(u',((ov',()),()))))):=by
  intro ov' u' h'
  exact Wp.again ⟨i + 1,u',ov',by omega,by rw [hn],h'⟩ (hmu.resolve_right (by omega))
 have hms:b4I (rdL zR r (I.nat (i6 i))) = b4I (rdL dR r i):=by rw [hrd]
 refine Wp.iter (fun x=>∃ (q:Nat) (u':c9T) (ov':Bool),q ≤ (b4I (rdL zR r (I.nat (i6 i)))).length∧x = ((b4I (rdL zR r (I.nat (i6 i))),(I.ofNat .i64 (a0I (b4I (rdL zR r (I.nat (i6 i))))),(i6 q,(l,(r,(i6 r.length,(i6 i,()))))))),((ov',()),(u',(rdL dS l (I.nat (i6 i)),(rdL zR r (I.nat (i6 i)),(a2Z,()))))))∧PAcc ov' u' (up (c6U l r i) 1 (f7S (rdL dR r i) q))) (fun x=>(b4I (rdL zR r (I.nat (i6 i)))).length - x.1.2.2.1.val.toNat) ?_ ⟨0,u,ov,by omega,rfl,?_⟩ (by rw [a6Y,hms]; show _ - 0 < _; omega)
 case refine_2 =>
  have:up (c6U l r i) 1 (f7S (rdL dR r i) 0) = c6U l r i:=by
   funext j
   unfold up
   split
   ·
    exact Nat.add_zero _
   ·
    rfl
  rw [this]
  exact hP
 rintro x ⟨q,v,w,hq,rfl,hQ⟩
 have hql:q ≤ 1000:=by rw [hms] at hq; omega
 have hn2:I.add (i6 q) (I.of .i64 1) = i6 (q + 1):=a3S (m:=1) (by omega)
 have e3:I.ltb (i6 q) (I.ofNat .i64 (a0I (b4I (rdL zR r (I.nat (i6 i)))))) = decide (q < (b4I (rdL zR r (I.nat (i6 i)))).length):=a2T (n:=q) (by omega) (by show (b4I (rdL zR r (I.nat (i6 i)))).length < _; rw [hms]; omega)
 refine Wp.brn (fun hc2=>?_) (fun hc2=>?_)
 ·
  have hc2:I.ltb (i6 q) (I.ofNat .i64 (a0I (b4I (rdL zR r (I.nat (i6 i)))))) = true:=hc2
  rw [e3] at hc2
  have hc2:=of_decide_eq_true hc2
  refine Wp.brnT (by show inB (i6 q) (b4I (rdL zR r (I.nat (i6 i)))).length = true; exact a3T hc2 (by omega)) ?_
  refine Wp.optF (a3P v.2.1 (g6R (rdL a0O (b4I (rdL zR r (I.nat (i6 i)))) (I.nat (i6 q))))) ?_
  have hA:=g8Y hQ (g6R (rdL a0O (b4I (rdL zR r (I.nat (i6 i)))) (I.nat (i6 q))))
  have hT:up (up (c6U l r i) 1 (f7S (rdL dR r i) q)) 1 (g6R (rdL a0O (b4I (rdL zR r (I.nat (i6 i)))) (I.nat (i6 q)))).val = up (c6U l r i) 1 (f7S (rdL dR r i) (q + 1)):=by
   rw [hms,a3G (by omega),e9Y (by rw [← hms]; exact hc2)]
   funext j
   unfold up
   split
   ·
    omega
   ·
    rfl
  rw [hT] at hA
  have hmu2:(b4I (rdL zR r (I.nat (i6 i)))).length - (I.add (i6 q) (I.of .i64 1)).val.toNat < (b4I (rdL zR r (I.nat (i6 i)))).length - (i6 q).val.toNat:=by rw [hn2,a0V (by omega),a0V (by omega)]; omega
  refine Wp.brn (fun ho=>?_) (fun ho=>?_)
  ·
   have ho:w = true:=ho
   exact Wp.again ⟨q + 1,_,true,by omega,by rw [← hn2],hA.of (by rw [ho]; rfl)⟩ hmu2
  ·
   have ho:w = false:=ho
   exact Wp.again ⟨q + 1,_,_,by omega,by rw [← hn2],hA.of (by rw [ho]; rfl)⟩ hmu2
 ·
  have hc2:I.ltb (i6 q) (I.ofNat .i64 (a0I (b4I (rdL zR r (I.nat (i6 i)))))) = false:=hc2
  rw [e3] at hc2
  have hq2:q = (b4I (rdL dR r i)).length:=by have:=of_decide_eq_false hc2; rw [hms] at this hq; omega
  have hQ:PAcc w v (up (c6U l r i) 1 (e3S (rdL dR r i))):=by rw [hq2] at hQ; exact hQ
  clear hms hc2 e3 hq
  have hsk:a2P (rdL dS l (I.nat (i6 i))) = a2P (rdL dS l i):=by rw [hls]
  unfold f4G at hS
  refine Wp.done ?_
  refine Wp.brn (fun k1=>?_) (fun k1=>?_)
  ·
   have k1:(a2P (rdL dS l (I.nat (i6 i)))).val = 1:=iff_eqb.1 k1
   rw [hsk] at k1
   rw [if_pos k1] at hS
   have h3:=h0P hQ (b5C (c3U (rdL dR r i)))
   have h4:=h1B h3 (a9Q (c3U (rdL dR r i)))
   have h5:=h0M h4 (c9K (c3U (rdL dR r i)))
   have h6:=g8J h5 (c1H (c3U (rdL dR r i)))
   rw [← hS,← hrd] at h6
   clear h3 h4 h5
   refine Wp.optF (a3P v.2.2.2.1 (b5C (c3U (rdL zR r (I.nat (i6 i)))))) ?_
   refine Wp.brn (fun ho=>?_) (fun ho=>?_)
   ·
    have ho:w = true:=ho
    refine Wp.optF (a3P v.2.2.2.2.1 (a9Q (c3U (rdL zR r (I.nat (i6 i)))))) (Wp.optF (a3P v.2.2.2.2.2.1 (c9K (c3U (rdL zR r (I.nat (i6 i)))))) (Wp.optF (a3P v.2.2.2.2.2.2.1 (c1H (c3U (rdL zR r (I.nat (i6 i)))))) (hfin _ _ (h6.of ?_))))
    rw [ho]; rfl
   have ho:w = false:=ho
   subst ho
   refine Wp.optF (a3P v.2.2.2.2.1 (a9Q (c3U (rdL zR r (I.nat (i6 i)))))) ?_
   refine Wp.brn (fun o3=>?_) (fun o3=>?_)
   ·
    have o3:c5K v.2.2.2.1 (b5C (c3U (rdL zR r (I.nat (i6 i))))) = true:=o3
    refine Wp.optF (a3P v.2.2.2.2.2.1 (c9K (c3U (rdL zR r (I.nat (i6 i)))))) (Wp.optF (a3P v.2.2.2.2.2.2.1 (c1H (c3U (rdL zR r (I.nat (i6 i)))))) (hfin _ _ (h6.of ?_)))
    rw [o3]; rfl
   have o3:c5K v.2.2.2.1 (b5C (c3U (rdL zR r (I.nat (i6 i))))) = false:=o3
   refine Wp.optF (a3P v.2.2.2.2.2.1 (c9K (c3U (rdL zR r (I.nat (i6 i)))))) ?_
   refine Wp.brn (fun o4=>?_) (fun o4=>?_)
   ·
    have o4:c5K v.2.2.2.2.1 (a9Q (c3U (rdL zR r (I.nat (i6 i))))) = true:=o4
    refine Wp.optF (a3P v.2.2.2.2.2.2.1 (c1H (c3U (rdL zR r (I.nat (i6 i)))))) (hfin _ _ (h6.of ?_))
    have o4:c5K ((v.1,(v.2.1,(v.2.2.1,((e0X v.2.2.2.1 (b5C (c3U (rdL zR r (I.nat (i6 i)))))).1,v.2.2.2.2)))):c9T).2.2.2.2.1 (a9Q (c3U (rdL zR r (I.nat (i6 i))))) = true:=o4
    rw [o3,o4]; rfl
   have o4:c5K ((v.1,(v.2.1,(v.2.2.1,((e0X v.2.2.2.1 (b5C (c3U (rdL zR r (I.nat (i6 i)))))).1,v.2.2.2.2)))):c9T).2.2.2.2.1 (a9Q (c3U (rdL zR r (I.nat (i6 i))))) = false:=o4
   refine Wp.optF (a3P v.2.2.2.2.2.2.1 (c1H (c3U (rdL zR r (I.nat (i6 i)))))) ?_
   refine Wp.brn (fun o5=>?_) (fun o5=>?_)
   ·
    have o5:c5K v.2.2.2.2.2.1 (c9K (c3U (rdL zR r (I.nat (i6 i))))) = true:=o5
    refine hfin _ _ (h6.of ?_)
    show ((((false || c5K _ _) || c5K _ _) || c5K v.2.2.2.2.2.1 (c9K (c3U (rdL zR r (I.nat (i6 i)))))) || _) = true
    rw [o5]
    simp
   have o5:c5K v.2.2.2.2.2.1 (c9K (c3U (rdL zR r (I.nat (i6 i))))) = false:=o5
   refine hfin _ _ (h6.of ?_)
   show ((((false || c5K v.2.2.2.1 (b5C (c3U (rdL zR r (I.nat (i6 i)))))) || c5K v.2.2.2.2.1 (a9Q (c3U (rdL zR r (I.nat (i6 i)))))) || c5K v.2.2.2.2.2.1 (c9K (c3U (rdL zR r (I.nat (i6 i)))))) || _) = _
   have o4:c5K v.2.2.2.2.1 (a9Q (c3U (rdL zR r (I.nat (i6 i))))) = false:=o4
   rw [o3,o4,o5]
   rfl
  have k1:(a2P (rdL dS l (I.nat (i6 i)))).val ≠ 1:=niff_eqb.1 k1
  rw [hsk] at k1
  rw [if_neg k1] at hS
  refine Wp.brn (fun k2=>?_) (fun k2=>?_)
  ·
   have k2:(a2P (rdL dS l (I.nat (i6 i)))).val = 2:=iff_eqb.1 k2
   rw [hsk] at k2
   rw [if_pos k2] at hS
   have h7:=h0K hQ (f2R (rdL dR r i))
   rw [← hS,← hrd] at h7
   refine Wp.optF (a3P v.2.2.2.2.2.2.2.1 (f2R (rdL zR r (I.nat (i6 i))))) (Wp.brn (fun ho=>?_) (fun ho=>?_))
   ·
    have ho:w = true:=ho
    exact hfin _ _ (h7.of (by rw [ho]; rfl))
   ·
    have ho:w = false:=ho
    exact hfin _ _ (h7.of (by rw [ho]; rfl))
  have k2:(a2P (rdL dS l (I.nat (i6 i)))).val ≠ 2:=niff_eqb.1 k2
  rw [hsk] at k2
  rw [if_neg k2] at hS
  refine Wp.brn (fun k6=>?_) (fun k6=>?_)
  ·
   have k6:(a2P (rdL dS l (I.nat (i6 i)))).val = 6:=iff_eqb.1 k6
   rw [hsk] at k6
   rw [if_pos k6] at hS
   have h0:=h0F hQ (c1J (rdL dS l i))
   rw [← hS,← hls] at h0
   refine Wp.optF (a3P v.1 (c1J (rdL dS l (I.nat (i6 i))))) (Wp.brn (fun ho=>?_) (fun ho=>?_))
   ·
    have ho:w = true:=ho
    exact hfin _ _ (h0.of (by rw [ho]; rfl))
   ·
    have ho:w = false:=ho
    exact hfin _ _ (h0.of (by rw [ho]; rfl))
  have k6:(a2P (rdL dS l (I.nat (i6 i)))).val ≠ 6:=niff_eqb.1 k6
  rw [hsk] at k6
  rw [if_neg k6] at hS
  refine Wp.brn (fun k7=>?_) (fun k7=>?_)
  ·
   have k7:(a2P (rdL dS l (I.nat (i6 i)))).val = 7:=iff_eqb.1 k7
   rw [hsk] at k7
   rw [if_pos k7] at hS
   have h2:=g8P hQ (c6S (d3J (rdL dS l i)))
   rw [← hS,← hls] at h2
   refine Wp.optF (a3P v.2.2.1 (c6S (d3J (rdL dS l (I.nat (i6 i)))))) (Wp.brn (fun ho=>?_) (fun ho=>?_))
   ·
    have ho:w = true:=ho
    exact hfin _ _ (h2.of (by rw [ho]; rfl))
   ·
    have ho:w = false:=ho
    exact hfin _ _ (h2.of (by rw [ho]; rfl))
  have k7:(a2P (rdL dS l (I.nat (i6 i)))).val ≠ 7:=niff_eqb.1 k7
  rw [hsk] at k7
  rw [if_neg k7] at hS
  rw [← hS] at hQ
  exact hfin _ _ hQ
end Sym

/- Audit: the reference's totals. -/
namespace Sym
open Go
end Sym

/- Audit: the reference's totals, told as the program's. -/
namespace Sym
open Go
end Sym

/- From what a row reads of the arguments to plain values, and from a contract to the row's answer. -/
namespace Sym
open Go
mutual
def f3X (P:Program):Ty→TypeId→Bool
 | .cons a b,id=>match P.underlying id with
  | some (.struct fs)=>(match fs.toList with
   | f :: r=>f3X P a f.type && f7T P b r
   | []=>false)
  | _=>false
 | .arr _ t,id=>match P.underlying id with
  | some (.array _ e)=>f3X P t e
  | _=>false
 | .sl t,id=>match P.underlying id with
  | some (.slice e)=>Nat.ble 1 t.sz && (Nat.ble 1 (P.bytesOf e) && f3X P t e)
  | _=>false
 | .opq,_=>false
 | _,_=>true
def f7T (P:Program):Ty→List Field→Bool
 | .cons a b,f :: r=>f3X P a f.type && f7T P b r
 | _,_=>true
end
theorem mapM_some {X Y:Type} {f:X→Option Y}:∀ {l:List X} {r:List Y},l.mapM f = some r→r.length = l.length∧∀ (i:Nat) (a:X),l[i]? = some a→∃ b,r[i]? = some b∧f a = some b
 | [],r,h=>by
  simp only [List.mapM_nil,Option.pure_def,Option.some.injEq] at h
  subst h
  exact ⟨rfl,fun i a h=>by simp at h⟩
 | a :: l,r,h=>by
  simp only [List.mapM_cons,Option.bind_eq_bind,Option.bind_eq_some_iff,Option.pure_def,Option.some.injEq] at h
  obtain ⟨b,hb,s,hs,rfl⟩:=h
  obtain ⟨h1,h2⟩:=mapM_some hs
  refine ⟨by simp [h1],fun i x hx=>?_⟩
  cases i with
  | zero =>
   simp only [List.getElem?_cons_zero,Option.some.injEq] at hx
   subst hx
   exact ⟨b,by simp,hb⟩
  | succ i =>
   simp only [List.getElem?_cons_succ] at hx
   obtain ⟨y,h3,h4⟩:=h2 i x hx
   exact ⟨y,by simp [h3],h4⟩
theorem e8M {Y:Type} {f:Nat→Option Y} {n:Nat} {r:List Y} (h:(List.range n).mapM f = some r):r.length = n∧∀ i,i < n→∃ b,r[i]? = some b∧f i = some b:=by
 obtain ⟨h1,h2⟩:=mapM_some h
 refine ⟨by simpa using h1,fun i hi=>h2 i i (by simp [hi])⟩
theorem d1S {X:Type}:∀ (n:Nat) (R:Nat→X→Prop),(∀ i,i < n→∃ x,R i x)→∃ l:List X,l.length = n∧∀ i x,l[i]? = some x→R i x
 | 0,_,_=>⟨[],rfl,fun i x h=>by simp at h⟩
 | n + 1,R,h=>by
  obtain ⟨x,hx⟩:=h 0 (by omega)
  obtain ⟨l,h1,h2⟩:=d1S n (fun i x=>R (i + 1) x) fun i hi=>h (i + 1) (by omega)
  refine ⟨x :: l,by simp [h1],fun i y hy=>?_⟩
  cases i with
  | zero=>simp only [List.getElem?_cons_zero,Option.some.injEq] at hy; subst hy; exact hx
  | succ i=>exact h2 i y (by simpa using hy)
theorem d5E {X:Type} {E:X→List Value→Prop} {s:Nat}:∀ (n:Nat) (cs:List Value),cs.length = n * s→(∀ i,i < n→∃ x,E x ((cs.drop (i * s)).take s))→∃ x,b3W E n x cs
 | 0,cs,hl,_=>⟨(),by simp at hl; exact hl⟩
 | n + 1,cs,hl,h=>by
  obtain ⟨x,hx⟩:=h 0 (by omega)
  simp only [Nat.zero_mul,List.drop_zero] at hx
  obtain ⟨y,hy⟩:=d5E (E:=E) (s:=s) n (cs.drop s) (by rw [List.length_drop,hl,Nat.succ_mul]; omega) fun i hi=>by
   obtain ⟨z,hz⟩:=h (i + 1) (by omega)
   refine ⟨z,?_⟩
   rw [List.drop_drop,show s + i * s = (i + 1) * s by rw [Nat.succ_mul]; omega]
   exact hz
  exact ⟨(x,y),cs.take s,cs.drop s,(List.take_append_drop s cs).symm,hx,hy⟩
theorem c1G {H:Type} {P:Program} {e:TypeId}:∀ {ds:List (DataW H)} {i:Nat} {d:DataW H},ds[i]? = some d→∀ n ∈ d.weights P e,n ∈ DataW.weightsAll P e ds
 | d0 :: ds,0,d,hd,n,hn=>by
  simp only [List.getElem?_cons_zero,Option.some.injEq] at hd
  subst hd
  simp only [DataW.weightsAll,List.mem_append]
  exact .inl hn
 | d0 :: ds,i + 1,d,hd,n,hn=>by
  simp only [List.getElem?_cons_succ] at hd
  simp only [DataW.weightsAll,List.mem_append]
  exact .inr (c1G hd n hn)
def strOf (s:ByteArray):List (I .u8):=s.data.toList.map fun b=>I.of .u8 b.toNat
theorem d6D (s:ByteArray):bytesOf (strOf s) = s:=by
 unfold bytesOf strOf
 cases s with | mk a =>
 congr 1
 rw [List.map_map]
 have:((fun c:I .u8=>UInt8.ofNat c.val.toNat) ∘ fun b:UInt8=>I.of .u8 b.toNat) = id:=by
  funext b
  simp only [Function.comp,id,I.of,IntKind.wrap,IntKind.bits,IntKind.signed,Bool.false_and,Bool.false_eq_true,if_false]
  have:=b.toNat_lt
  rw [show ((b.toNat:Int) % 2 ^ 8) = (b.toNat:Int) by omega,Int.toNat_natCast]
  exact UInt8.ofNat_toNat
 rw [this,List.map_id,Array.toArray_toList]
section
variable {H:Type} {enc:TypeId × Value→H} {P:Program} {W:World} {base:Nat} {spare:Nat→Bool} {held:Bool}
abbrev GW (W:World):Nat→Prop:=fun r=>r < W.heap.size
theorem g2F {a:Addr} {v:Value} (h:W.cell? a = some v):a.spot = none∧a.block < W.heap.size:=by
 unfold World.cell? at h
 split at h
 ·
  rename_i c _ _ hc
  split at h
  ·
   cases h
  ·
   rename_i hs
   refine ⟨by simpa using hs,?_⟩
   rw [Array.getElem?_eq_some_iff] at hc
   exact hc.1
 ·
  cases h
theorem f1S {base:Nat} {a:Addr} {n:Nat} {ds:List Value} (h:W.cells? base a n = some ds):ds.length = n∧∀ j d,ds[j]? = some d→W.cell? (a.add j) = some d:=by
 unfold World.cells? at h
 split at h
 ·
  obtain ⟨h1,h2⟩:=e8M h
  refine ⟨h1,fun j d hd=>?_⟩
  obtain ⟨b,h3,h4⟩:=h2 j (by rw [← h1]; exact (List.getElem?_eq_some_iff.1 hd).1)
  rw [h3] at hd
  rw [h4,hd]
 ·
  cases h
theorem addr_add {a:Addr} (hs:a.spot = none) (n:Nat):a.add n = ⟨a.block,a.off + n,none⟩:=by
 unfold Addr.add
 cases a
 simp only at hs
 subst hs
 split
 ·
  rename_i h; subst h; rfl
 ·
  rfl
theorem e3E:∀ (t:Ty),
  (∀ fuel id cs (d:DataW H) (p:List MemPlace),TOk P t id→f3X P t id = true→DataW.trod enc P W base spare held fuel id cs = some (d,p)→(∀ n ∈ d.weights P id,n ≤ reachBytes)→∃ x,Enc W (GW W) t x cs) ∧
  (∀ fuel (r:List Field) (o:Nat) (cs:List Value) (xs:List (DataW H × List MemPlace)),FOk P t r o→f7T P t r = true→xs.length = r.length →
   (∀ (i:Nat) (f:Field),r[i]? = some f→DataW.trod enc P W base spare held fuel f.type ((cs.drop f.offset).take (P.cellsOf f.type)) = xs[i]?) →
   (∀ n ∈ DataW.weightsEach P (r.map (·.type)) (xs.map (·.1)),n ≤ reachBytes)→cs.length = o + t.sz→∃ x,Enc W (GW W) t x (cs.drop o)):=by
 intro t
 have nofld:∀ t,(∀ a b,t ≠ .cons a b)→t ≠ .nil→∀ (r:List Field) (o:Nat),¬ FOk P t r o:=by
  intro t h1 h2 r o h
  cases t <;> first | exact h1 _ _ rfl | exact h2 rfl | (cases r <;> exact h.elim)
 induction t with
 | int k =>
  refine ⟨fun fuel id cs d p hT _ h _=>?_,fun fuel r o cs xs h=>(nofld _ (by simp) (by simp) _ _ h).elim⟩
  obtain ⟨n,hcs,_,hw⟩:=DataW.trod_int hT.2 h
  simp only [Lit.wf,Bool.and_eq_true,decide_eq_true_eq] at hw
  exact ⟨(⟨n,a7O hw⟩:I k),hcs⟩
 | bool =>
  refine ⟨fun fuel id cs d p hT _ h _=>?_,fun fuel r o cs xs h=>(nofld _ (by simp) (by simp) _ _ h).elim⟩
  obtain ⟨n,hcs,_⟩:=DataW.trod_bool hT.2 h
  exact ⟨n,hcs⟩
 | str =>
  refine ⟨fun fuel id cs d p hT _ h hw=>?_,fun fuel r o cs xs h=>(nofld _ (by simp) (by simp) _ _ h).elim⟩
  obtain ⟨s,hcs,hx,_⟩:=DataW.trod_string hT.2 h
  simp only [Prod.mk.injEq] at hx
  obtain ⟨rfl,rfl⟩:=hx
  refine ⟨strOf s,?_,?_⟩
  ·
   rw [d6D]; exact hcs
  ·
   have:=hw s.data.toList.length (by simp [DataW.weights])
   have h2:(strOf s).length = s.data.toList.length:=List.length_map _
   show (strOf s).length ≤ LIM
   rw [h2]
   simp only [reachBytes,LIM] at *
   omega
 | nil =>
  refine ⟨fun fuel id cs d p hT _ h hw=>?_,fun fuel r o cs xs h _ _ _ _ hl=>⟨(),?_⟩⟩
  ·
   obtain ⟨xs,n,_,_,hl,_⟩:=DataW.trod_struct hT.2 h
   rw [hT.1] at hl
   exact ⟨(),List.eq_nil_of_length_eq_zero hl⟩
  ·
   show cs.drop o = []
   simp only [Ty.sz,Nat.add_zero] at hl
   rw [List.drop_eq_nil_iff]; omega
 | cons a b iha ihb =>
  refine ⟨fun fuel id cs d p hT hA h hw=>?_,fun fuel r o cs xs hF hA hlen hf hw hl=>?_⟩
  ·
   obtain ⟨hsz,fs,f,r,hu,hfs,hf0,hTa,hFb⟩:=hT
   obtain ⟨xs,n,_,hx,hl,hlen,hfx⟩:=DataW.trod_struct hu h
   simp only [Prod.mk.injEq] at hx
   obtain ⟨rfl,rfl⟩:=hx
   simp only [f3X,hu,hfs,Bool.and_eq_true] at hA
   have hfl:∀ (i:Nat) (g:Field),(f :: r)[i]? = some g→DataW.trod enc P W base spare held n g.type ((cs.drop g.offset).take (P.cellsOf g.type)) = xs[i]?:=by
    intro i g hg
    refine hfx i g ?_
    rw [← Array.getElem?_toList,hfs]
    exact hg
   have hlen':xs.length = r.length + 1:=by rw [hlen,← Array.length_toList,hfs]; rfl
   match xs,hlen' with
   | y :: ys,hlen' =>
    simp only [DataW.weights,hu,hfs,List.map_cons,DataW.weightsEach,List.mem_append] at hw
    have h0:=hfl 0 f rfl
    simp only [List.getElem?_cons_zero] at h0
    rw [hf0,hTa.size,List.drop_zero] at h0
    obtain ⟨x,hx⟩:=iha.1 n f.type _ y.1 y.2 hTa hA.1 h0 (fun m hm=>hw m (.inl hm))
    obtain ⟨z,hz⟩:=ihb.2 n r a.sz cs ys hFb hA.2 (by simpa using hlen') (fun i g hg=>by simpa using hfl (i + 1) g hg) (fun m hm=>hw m (.inr hm)) (by rw [hl,hsz])
    exact ⟨(x,z),_,_,(List.take_append_drop a.sz cs).symm,hx,hz⟩
  ·
   cases r with
   | nil=>exact hF.elim
   | cons f r =>
    obtain ⟨hf0,hTa,hFb⟩:=hF
    simp only [f7T,Bool.and_eq_true] at hA
    match xs,hlen with
    | y :: ys,hlen =>
     simp only [List.map_cons,DataW.weightsEach,List.mem_append] at hw
     have h0:=hf 0 f rfl
     simp only [List.getElem?_cons_zero] at h0
     rw [hf0,hTa.size] at h0
     simp only [Ty.sz] at hl
     obtain ⟨x,hx⟩:=iha.1 fuel f.type _ y.1 y.2 hTa hA.1 h0 (fun m hm=>hw m (.inl hm))
     obtain ⟨z,hz⟩:=ihb.2 fuel r (o + a.sz) cs ys hFb hA.2 (by simpa using hlen) (fun i g hg=>by simpa using hf (i + 1) g hg) (fun m hm=>hw m (.inr hm)) (by omega)
     refine ⟨(x,z),_,_,(List.take_append_drop a.sz (cs.drop o)).symm,hx,?_⟩
     rw [List.drop_drop]
     exact hz
 | arr n t ih =>
  refine ⟨fun fuel id cs d p hT hA h hw=>?_,fun fuel r o cs xs h=>(nofld _ (by simp) (by simp) _ _ h).elim⟩
  obtain ⟨hsz,e,hu,hTe⟩:=hT
  obtain ⟨xs,m,_,hx,hl,hlen,hfx⟩:=DataW.trod_array hu h
  simp only [Prod.mk.injEq] at hx
  obtain ⟨rfl,rfl⟩:=hx
  simp only [f3X,hu] at hA
  simp only [DataW.weights,hu] at hw
  refine d5E n cs (by rw [hl,hsz]) fun i hi=>?_
  have h0:=hfx i hi
  rw [hTe.size,List.getElem?_eq_getElem (by omega)] at h0
  refine ih.1 m e _ (xs[i]'(by omega)).1 (xs[i]'(by omega)).2 hTe hA h0 fun k hk=>hw k (c1G (i:=i) ?_ k hk)
  rw [List.getElem?_map,List.getElem?_eq_getElem (by omega)]; rfl
 | sl t ih =>
  refine ⟨fun fuel id cs d p hT hA h hw=>?_,fun fuel r o cs xs h=>(nofld _ (by simp) (by simp) _ _ h).elim⟩
  obtain ⟨hsz,e,hu,hTe⟩:=hT
  simp only [f3X,hu,Bool.and_eq_true] at hA
  obtain ⟨hA1,hA2,hA⟩:=hA
  have hA1:=Nat.le_of_ble_eq_true hA1
  have hA2:=Nat.le_of_ble_eq_true hA2
  rcases DataW.trod_slice hu h with ⟨rfl,_⟩ | ⟨a,len,cap,elems,rest,m,_,rfl,hx,_,hlc,_,hel,hfx,_,_⟩
  ·
   refine ⟨([]:List t.D),none,0,rfl,Nat.le_refl _,by simp,.inl rfl⟩
  ·
   simp only [Prod.mk.injEq] at hx
   obtain ⟨rfl,rfl⟩:=hx
   simp only [DataW.weights,hu,List.mem_cons,List.mem_append] at hw
   have hb:=hw _ (.inl rfl)
   have hlim:len ≤ LIM:=by
    have h1:len ≤ (elems.length + rest.length) * P.bytesOf e:=by
     rw [← hel]
     refine Nat.le_trans ?_ (Nat.mul_le_mul_left _ hA2)
     omega
    simp only [List.length_map] at hb
    simp only [reachBytes,LIM] at *
    omega
   have key:∀ i,i < len→a.spot = none∧a.block < W.heap.size∧∃ x ds,Enc W (GW W) t x ds∧c1C W a.block (a.off + i * t.sz) ds:=by
    have one:∀ i,i < len→∃ (ds:List Value) (x:t.D),ds.length = t.sz∧Enc W (GW W) t x ds∧∀ j d,ds[j]? = some d→W.cell? ((a.add (i * t.sz)).add j) = some d:=by
     intro i hi
     have h0:=hfx i hi
     rw [List.getElem?_eq_getElem (by omega)] at h0
     simp only [Option.bind_eq_some_iff] at h0
     obtain ⟨ds,h1,h2⟩:=h0
     obtain ⟨h3,h4⟩:=f1S h1
     rw [hTe.size] at h3 h4
     obtain ⟨x,hx⟩:=ih.1 m e ds (elems[i]'(by omega)).1 (elems[i]'(by omega)).2 hTe hA h2 fun k hk=>hw k (.inr (.inl (c1G (i:=i) (by rw [List.getElem?_map,List.getElem?_eq_getElem (by omega)]; rfl) k hk)))
     exact ⟨ds,x,h3,hx,h4⟩
    intro i hi
    obtain ⟨ds,x,h1,h2,h3⟩:=one i hi
    obtain ⟨ds0,_,g1,_,g3⟩:=one 0 (by omega)
    have c0:=g3 0 (ds0[0]'(by omega)) (List.getElem?_eq_getElem _)
    simp only [Nat.zero_mul] at c0
    have e0:(a.add 0).add 0 = a:=by simp [Addr.add]
    rw [e0] at c0
    obtain ⟨hs,hlt⟩:=g2F c0
    refine ⟨hs,hlt,x,ds,h2,fun j d hd=>?_⟩
    have:=h3 j d hd
    rw [addr_add hs,addr_add rfl] at this
    exact this
   obtain ⟨l,hl1,hl2⟩:=d1S len (fun i x=>∃ ds,Enc W (GW W) t x ds∧c1C W a.block (a.off + i * t.sz) ds) fun i hi=>(key i hi).2.2
   refine ⟨l,some a,cap,?_,?_,?_,?_⟩
   ·
    show [Value.slice (some a) len cap] = [Value.slice (some a) l.length cap]; rw [hl1]
   ·
    show l.length ≤ cap; omega
   ·
    show l.length ≤ LIM; omega
   ·
    by_cases h0:len = 0
    ·
     left; show l = []; exact List.eq_nil_of_length_eq_zero (by omega)
    ·
     obtain ⟨h1,h2,_⟩:=key 0 (by omega)
     exact .inr ⟨a,rfl,h1,h2,hl2⟩
 | opq=>exact ⟨fun fuel id cs d p hT hA=>by simp [f3X] at hA,fun fuel r o cs xs h=>(nofld _ (by simp) (by simp) _ _ h).elim⟩
end
theorem e9R {P:Program} {W:World} {rr:Reach} {base:Nat} {id:TypeId} {v:Value} {t:Ty} (hT:TOk P t id) (hne:t ≠ .opq) (h:Value.okWide P W rr base id v):v = mkV t.isAgg v.cells.toList:=by
 have agg:(∃ cs,v = .agg cs)→v = mkV true v.cells.toList:=by
  rintro ⟨cs,rfl⟩
  show Value.agg cs = .agg _
  congr 1
 cases t with
 | int k=>obtain ⟨n,rfl⟩:=Go.WideShapes.okWide_int hT.2 h; rfl
 | bool=>obtain ⟨n,rfl⟩:=Go.WideShapes.okWide_bool hT.2 h; rfl
 | str=>obtain ⟨n,rfl⟩:=Go.WideShapes.okWide_string hT.2 h; rfl
 | sl t=>obtain ⟨_,e,hu,_⟩:=hT; obtain ⟨a,l,c,rfl⟩:=Go.WideShapes.okWide_slice hu h; rfl
 | opq=>exact (hne rfl).elim
 | nil=>obtain ⟨_,hu⟩:=hT; simp only [Value.okWide,hu] at h; exact agg ⟨_,h.choose_spec.1⟩
 | cons a b=>obtain ⟨_,fs,f,r,hu,_⟩:=hT; simp only [Value.okWide,hu] at h; exact agg ⟨_,h.choose_spec.1⟩
 | arr n t=>obtain ⟨_,e,hu,_⟩:=hT; simp only [Value.okWide,hu] at h; exact agg ⟨_,h.choose_spec.1⟩
def Arr.all {X:Type} (p:X→Prop):(n:Nat)→Arr X n→Prop
 | 0,_=>True
 | n + 1,x=>p x.1∧Arr.all p n x.2
def Ty.bd:(t:Ty)→t.D→Prop
 | .str,x=>(show List (I .u8) from x).length ≤ LIM
 | .cons a b,x=>a.bd x.1∧b.bd x.2
 | .arr n t,x=>Arr.all t.bd n x
 | .sl t,x=>(show List t.D from x).length ≤ LIM∧∀ (i:Nat) (y:t.D),(show List t.D from x)[i]? = some y→t.bd y
 | .int _,_=>True
 | .bool,_=>True
 | .nil,_=>True
 | .opq,_=>True
theorem d5D {X:Type} {E:X→List Value→Prop} {p:X→Prop} (h:∀ x cs,E x cs→p x):∀ (n:Nat) (x:Arr X n) (cs:List Value),b3W E n x cs→Arr.all p n x
 | 0,_,_,_=>trivial
 | n + 1,x,cs,he=>by
  obtain ⟨c1,c2,_,h1,h2⟩:=he
  exact ⟨h _ _ h1,d5D h n x.2 c2 h2⟩
theorem g7N {W:World} {G:Nat→Prop}:∀ (t:Ty) (x:t.D) (cs:List Value),Enc W G t x cs→t.bd x:=by
 intro t
 induction t with
 | int k=>intro x cs _; trivial
 | bool=>intro x cs _; trivial
 | nil=>intro x cs _; trivial
 | opq=>intro x cs _; trivial
 | str=>intro x cs h; exact h.2
 | cons a b iha ihb=>intro x cs h; obtain ⟨c1,c2,_,h1,h2⟩:=h; exact ⟨iha _ _ h1,ihb _ _ h2⟩
 | arr n t ih=>intro x cs h; exact d5D (fun x cs=>ih x cs) n x cs h
 | sl t ih =>
  intro x cs h
  obtain ⟨a,c,_,_,hl,hx⟩:=h
  refine ⟨hl,fun i y hy=>?_⟩
  rcases hx with hx | ⟨ad,_,_,_,hr⟩
  ·
   rw [hx] at hy; simp at hy
  ·
   obtain ⟨ds,h1,_⟩:=hr i y hy
   exact ih y ds h1
def g0S:(ts:List Ty)→ShD (ts.map .pl)→Prop
 | [],_=>True
 | t :: ts,x=>t.bd x.1∧g0S ts x.2
def e7N (P:Program):List Ty→List TypeId→Bool
 | [],[]=>true
 | t :: ts,id :: ids=>e3N P t id && (f3X P t id && (P.readableRec id && (Nat.blt id P.types.size && e7N P ts ids)))
 | _,_=>false
section
variable {H:Type} {enc:TypeId × Value→H} {P:Program} {W:World}
def cx0 (W:World):Cx:=⟨W,GW W,fun _=>.bool false,[]⟩
theorem e4D {rr:Reach} {base:Nat}:∀ (ts:List Ty) (ids:List TypeId) (vs:List Value) (ds:List (DataW H)) (ps:List MemPlace),e7N P ts ids = true →
  DataW.TrodAll enc P W 0 (fun _=>true) true ids vs ds ps→(∀ (j:Nat) t v,ids[j]? = some t→vs[j]? = some v→Value.okWide P W rr base t v) →
  (∀ n ∈ DataW.weightsEach P ids ds,n ≤ reachBytes)→ds.length = ts.length∧∃ x:ShD (ts.map .pl),g0S ts x∧All2 (VOk (cx0 W)) (a1T (ts.map .pl) x) vs
 | [],[],vs,ds,ps,_,hA,_,_=>by
  obtain ⟨rfl,rfl,rfl⟩:=Go.ChangeShapes.trodAll_nil hA
  exact ⟨rfl,(),trivial,trivial⟩
 | [],_ :: _,_,_,_,h,_,_,_=>by cases h
 | _ :: _,[],_,_,_,h,_,_,_=>by cases h
 | t :: ts,id :: ids,vs,ds,ps,h,hA,hv,hw=>by
  simp only [e7N,Bool.and_eq_true] at h
  obtain ⟨h1,h2,_,_,h5⟩:=h
  obtain ⟨v,vs',d,ds',p,q,rfl,rfl,rfl,⟨fuel,hd⟩,hrest⟩:=Go.ChangeShapes.trodAll_cons hA
  simp only [DataW.weightsEach,List.mem_append] at hw
  have hT:=(e4P P t).1 id h1
  obtain ⟨x,hx⟩:=(e3E t).1 fuel id _ d p hT h2 hd fun n hn=>hw n (.inl hn)
  obtain ⟨hl,y,hbd,hy⟩:=e4D ts ids vs' ds' q h5 hrest (fun j t v ht hv'=>hv (j + 1) t v (by simpa using ht) (by simpa using hv')) fun n hn=>hw n (.inr hn)
  refine ⟨by simp [hl],(x,y),⟨g7N t x _ hx,hbd⟩,?_,hy⟩
  refine ⟨_,hx,?_⟩
  exact e9R hT (by rintro rfl; simp [f3X] at h2) (hv 0 id v rfl rfl)
theorem c7C (hl:laidOutB P = true) {W':World} (hb:Go.RowKit.Below W.heap.size W W'):∀ (ts:List Ty) (ids:List TypeId) (vs:List Value) (ds:List (DataW H)) (ps:List MemPlace),e7N P ts ids = true →
  DataW.TrodAll enc P W 0 (fun _=>true) true ids vs ds ps→(∀ x ∈ ps,x.block < W.heap.size)→DataW.TrodAll enc P W' 0 (fun b=>decide (b < W.heap.size)) true ids vs ds ps
 | [],[],vs,ds,ps,_,hA,_=>by
  obtain ⟨rfl,rfl,rfl⟩:=Go.ChangeShapes.trodAll_nil hA
  exact Go.ChangeShapes.trodAll_mk0
 | [],_ :: _,_,_,_,h,_,_=>by cases h
 | _ :: _,[],_,_,_,h,_,_=>by cases h
 | t :: ts,id :: ids,vs,ds,ps,h,hA,hlt=>by
  simp only [e7N,Bool.and_eq_true] at h
  obtain ⟨_,_,h3,h4,h5⟩:=h
  obtain ⟨v,vs',d,ds',p,q,rfl,rfl,rfl,hd,hrest⟩:=Go.ChangeShapes.trodAll_cons hA
  refine ⟨p,q,Go.RowKit.Below.trod hl h3 (Nat.lt_of_succ_le (Nat.le_of_ble_eq_true h4)) hd hb fun x hx=>hlt x (by simp [hx]),?_,rfl⟩
  exact c7C hl hb ts ids vs' ds' q h5 hrest fun x hx=>hlt x (by simp [hx])
theorem g4Q:Start (cx0 W):=by
 have hu:∀ b,a0J (cx0 W).H b = .unborn:=fun b=>by simp [cx0,a0J]
 refine ⟨fun b=>?_,fun b b' r h=>?_,fun r hr=>⟨hr,fun b h=>?_⟩⟩
 ·
  unfold BlkOk; rw [hu]; trivial
 ·
  rw [hu] at h; cases h
 ·
  rw [hu] at h; cases h
theorem e8J {C:Checked} {f:FuncId} {fn:Func} {s:ChangeSpec} {ts:List Ty} {bt:TypeId} {F:(⟨ts.map .pl,[]⟩:Tm).D→Option (⟨[.pl .bool],[]⟩:Tm).D}
  (hl : laidOutB C.prog = true) (hfn : C.prog.funcs[f]? = some fn) (hbody : fn.body.isSome = true) (hname : (fn.name == "runtime.NumGoroutine") = false)
  (hargs:e7N C.prog ts fn.params.toList = true) (hres:fn.resultTypes = #[bt]) (hbt:C.prog.underlying bt = some .bool) (hvars:s.vars = [])
  (hs:∀ ds:List (DataW H),ds.length = ts.length→s.fn H ds = { results:=[.lit (.bool true)],args:=ds })
  (hcon:a1K C.prog f ⟨⟨ts.map .pl,[]⟩,⟨[.pl .bool],[]⟩,F⟩) (hF:∀ x,g0S ts x→F (x,()) = some ((true,()),()))
  (base:Nat) (args:Array Value) (ds gs:List (DataW H)) (before:List MemPlace)
  (hval:∀ (j:Nat) t v,fn.params[j]? = some t→args[j]? = some v→Value.okWide C.prog W .any base t v)
  (hW:DataW.Whole enc C.prog fn.params.toList s.vars false W args.toList ds gs before)
  (hsz:(DataW.weightsEach C.prog (fn.params.toList ++ s.plain.varTypes C.prog) (ds ++ gs)).all (· ≤ reachBytes) = true) :
  Calls C.prog f args W fun e W'=>∃ v,e = .returned v∧s.post enc C.prog fn false true false false W args v W':=by
 have hW':=hW
 obtain ⟨p,q,hA,hV,rfl,hfz,hnd⟩:=hW
 rw [hvars] at hV
 obtain ⟨rfl,rfl⟩:=Go.ChangeShapes.trodVars_none hV
 have hvt:s.plain.varTypes C.prog = []:=by simp [DataSpec.varTypes,ChangeSpec.plain,hvars]
 rw [hvt,List.append_nil,List.append_nil,List.all_eq_true] at hsz
 obtain ⟨hlen,x,hbd,hx⟩:=e4D (P:=C.prog) ts fn.params.toList args.toList ds p hargs hA
  (fun j t v h1 h2=>hval j t v (by rw [← Array.getElem?_toList]; exact h1) (by rw [← Array.getElem?_toList]; exact h2)) fun n hn=>of_decide_eq_true (hsz n hn)
 have key:=hcon (x,()) ((true,()),()) (hF x hbd) (cx0 W) args.toList g4Q rfl hx
 rw [Array.toArray_toList] at key
 obtain ⟨b,hb⟩:=Option.isSome_iff_exists.1 hbody
 have hent:=b7F (args:=args) (w:=W) hfn hb hname
 rcases key with ⟨v,w',h1,_⟩ | ⟨_,h⟩
 ·
  change (callFunc f args).run C.prog W = _ at h1
  rw [hent] at h1
  cases h1
 ·
  refine h.mono fun e w' hr=>?_
  obtain ⟨v,he,c',hw,hH,hv,hM,_⟩:=hr
  subst he hw
  refine ⟨v,rfl,?_⟩
  have hown:∀ r,¬ c7A (cx0 W) r:=by
   rintro r ⟨b,hb,_⟩
   simp [cx0,a0J,live] at hb
  have bel:Go.RowKit.Below W.heap.size W c'.w:=⟨hM.os,hM.tape,hM.output,hM.size,fun k hk=>hM.frame k hk (hown k)⟩
  obtain ⟨cs,hcs,hv⟩:=hv
  have hcs:cs = [.bool true]:=hcs
  subst hcs
  have hv:v = .bool true:=hv
  subst hv
  have hfnH:=hs ds hlen
  refine ⟨ds,[],_,[],p,[],hW',?_,?_,?_,bel.frame _,fun h=>by cases h⟩
  ·
   rw [List.append_nil,hfnH,hres]
   exact Go.ChangeShapes.trodAll_mk1 (Go.RowKit.shut_bool hbt _)
  ·
   rw [List.append_nil,hfnH]
   refine c7C hl bel ts _ _ _ _ hargs hA fun x hx=>?_
   exact DataW.TrodAll.lt hA x hx
  ·
   rw [List.append_nil,hfnH,hvars]
   rfl
end
end Sym

/- Audit: Total agrees with the reference. -/
namespace Sym
open Go
end Sym

/- Audit: sums in five words and big sums. -/
namespace Sym
open Go
abbrev S5:Type:=(I .u64) × U
def v5 (a:S5):Nat:=a.1.nat + 18446744073709551616 * U.val a.2
noncomputable abbrev Z5:S5:=((I.of .u64 0),Z_U)
def B5:Nat:=1099511627776 * U.top
theorem Wp.unrollK {X R:Type} {T:R→Prop} {fail:R} {f:X→Stp X R} {x:X} (j:Nat) (hj:j < 1000) (h:Wp (Nxt T fail f (K0 - (j + 1))) (f x)):Wp T (Sym.iter fail f (K0 - j) x):=by
 have e:K0 - j = (K0 - (j + 1)) + 1:=by rw [a6Y]; omega
 rw [e]
 exact Wp.unroll h
theorem f3U {a b:I .u64} (h:a.nat + b.nat < 18446744073709551616):(I.add a b).nat = a.nat + b.nat:=by
 have h1:=a1Y a
 have h2:=a1Y b
 have h3:=a1Y (I.add a b)
 have h4:(I.add a b).val = a.val + b.val:=e2Q (by omega)
 omega
theorem g5F {a b:S5} (h:v5 a = v5 b):a = b:=by
 have h1:=a3E a.1
 have h2:=a3E b.1
 unfold v5 at h
 have e1:a.1.nat = b.1.nat:=by omega
 have e2:U.val a.2 = U.val b.2:=by omega
 have e3:a.1 = b.1:=by rw [← e4H a.1,← e4H b.1,e1]
 exact Prod.ext e3 (U.ext e2)
theorem eq5 (a b:S5):Ty.eqb (.arr 5 (.int .u64)) a b = decide (v5 a = v5 b):=by
 by_cases h:v5 a = v5 b
 ·
  rw [decide_eq_true h]
  have:=g5F h
  subst this
  exact eqb_self' (t:=.arr 5 (.int .u64)) rfl a
 ·
  rw [decide_eq_false h]
  cases e:Ty.eqb (.arr 5 (.int .u64)) a b with
  | false=>rfl
  | true=>exact absurd (congrArg v5 ((e2Z (.arr 5 (.int .u64)) rfl a b).1 e)) h
set_option maxHeartbeats 1000000 in
theorem e0A (a:S5) (b:U) (h:v5 a ≤ B5):∃ r:S5,a6V K0 ((a,(b,())),()) = some ((r,()),())∧v5 r = v5 a + b.val:=by
 obtain ⟨a0,a1,a2,a3,a4,⟨⟩⟩:=a
 obtain ⟨b0,b1,b2,b3,⟨⟩⟩:=b
 obtain ⟨z0,q0,h0,e0,l0⟩:=b6V a0 b0 (I.of .u64 0) (by decide)
 obtain ⟨z1,q1,h1,e1,l1⟩:=b6V a1 b1 q0 l0
 obtain ⟨z2,q2,h2,e2,l2⟩:=b6V a2 b2 q1 l1
 obtain ⟨z3,q3,h3,e3,l3⟩:=b6V a3 b3 q2 l2
 refine ⟨(z0,z1,z2,z3,I.add a4 q3,()),?_,?_⟩
 ·
  refine Wp.out (T:=fun o=>o = some (((z0,z1,z2,z3,I.add a4 q3,()),()),())) ?_
  unfold a6V
  refine Wp.unrollK 0 (by omega) (Wp.brnT rfl (Wp.brnT rfl (Wp.brnT rfl (Wp.optF h0 (Wp.brnT rfl (Wp.next ?_))))))
  refine Wp.unrollK 1 (by omega) (Wp.brnT rfl (Wp.brnT rfl (Wp.brnT rfl (Wp.optF h1 (Wp.brnT rfl (Wp.next ?_))))))
  refine Wp.unrollK 2 (by omega) (Wp.brnT rfl (Wp.brnT rfl (Wp.brnT rfl (Wp.optF h2 (Wp.brnT rfl (Wp.next ?_))))))
  refine Wp.unrollK 3 (by omega) (Wp.brnT rfl (Wp.brnT rfl (Wp.brnT rfl (Wp.optF h3 (Wp.brnT rfl (Wp.next ?_))))))
  refine Wp.unrollK 4 (by omega) (Wp.brnF rfl (Wp.stop rfl))
 ·
  have c0:(I.of .u64 0).nat = 0:=rfl
  unfold v5 U.val B5 U.top at h
  simp only at h
  have hadd:(I.add a4 q3).nat = a4.nat + q3.nat:=f3U (by omega)
  unfold v5 U.val
  simp only
  rw [hadd]
  omega
def tot {X:Type} (f:X→U) (l:List X):Nat:=(l.map (fun x=>(f x).val)).sum
theorem c7K {X:Type} (f:X→U) (d:X) {l:List X} {i:Nat} (h:i < l.length):tot f (l.take (i + 1)) = tot f (l.take i) + (f (rdL d l i)).val:=by
 unfold tot
 rw [List.take_add_one,List.getElem?_eq_getElem h,a4G _ _ _ h,List.map_append,List.sum_append]
 simp
theorem e9X {X:Type} (f:X→U):∀ l:List X,tot f l ≤ l.length * U.top
 | []=>by simp [tot]
 | x :: l=>by
  have h1:=e9X f l
  have h2:=U.lt (f x)
  show (f x).val + tot f l ≤ (l.length + 1) * U.top
  rw [Nat.add_mul]
  omega
theorem e1X {X:Type} (f:X→U) (l:List X) (i:Nat) (n:Nat) (hn:l.length ≤ n):tot f (l.take i) ≤ n * U.top:=by
 have h1:=e9X f (l.take i)
 have h2:(l.take i).length ≤ n:=by rw [List.length_take]; omega
 exact Nat.le_trans h1 (Nat.mul_le_mul_right _ h2)
theorem d7A {X:Type} (d:X) (f:X→U) (l:List X) (z a0:S5) (hl:l.length ≤ 1073741824) (h0:v5 a0 ≤ 4 * U.top) :
  ∃ r:S5,Sym.iter (none) (fun (x0:((List X) × ((I .i64) × ((I .i64) × Unit))) × (S5 × (S5 × Unit))) =>
  brn (@I.ltb .i64 x0.1.2.2.1 x0.1.2.1)
  (brn (@inB .i64 x0.1.2.2.1 (@a0I X x0.1.1))
   (optF (.done (none)) (a6V K0 ((x0.2.2.1,(f (@rdL X d x0.1.1 (@I.nat .i64 x0.1.2.2.1)),())),())) fun y1 =>
   .again ((x0.1.1,(x0.1.2.1,((@I.add .i64 x0.1.2.2.1 (I.of .i64 1)),()))),(x0.2.1,(y1.1.1,()))))
   (.done (none)))
  (.done (some ((x0.2.2.1,()),()))))
  K0 ((l,((I.ofNat .i64 (@a0I X l)),((I.of .i64 0),()))),(z,(a0,()))) = some ((r,()),())∧v5 r = v5 a0 + tot f l:=by
 refine Wp.out (T:=fun o=>∃ r:S5,o = some ((r,()),())∧v5 r = v5 a0 + tot f l) ?_
 refine Wp.iter (fun x=>∃ (i:Nat) (c:S5),i ≤ l.length∧x = ((l,(i6 l.length,(i6 i,()))),(z,(c,())))∧v5 c = v5 a0 + tot f (l.take i)) (fun x=>l.length - x.1.2.2.1.val.toNat) ?_ ⟨0,a0,by omega,rfl,by simp [tot]⟩ (by rw [a6Y]; show l.length - 0 < _; omega)
 rintro x ⟨i,c,hi,rfl,hc⟩
 have hn:I.add (i6 i) (I.of .i64 1) = i6 (i + 1):=a3S (m:=1) (by omega)
 have e2:I.ltb (i6 i) (i6 l.length) = decide (i < l.length):=a2T (by omega) (by omega)
 refine Wp.brn (fun hk=>?_) (fun hk=>?_)
 ·
  have hk:I.ltb (i6 i) (i6 l.length) = true:=hk
  rw [e2] at hk
  have hk:=of_decide_eq_true hk
  refine Wp.brnT (a3T (by show i < l.length; omega) (by omega)) ?_
  have hb:=e1X f l i 1073741824 hl
  have hB:B5 = 1099511627776 * U.top:=rfl
  obtain ⟨r,hr,hv⟩:=e0A c (f (rdL d l (I.nat (i6 i)))) (by rw [hc,hB]; have:=Nat.mul_le_mul_right U.top (show 4 + 1073741824 ≤ 1099511627776 by omega); rw [Nat.add_mul] at this; omega)
  refine Wp.optF hr ?_
  refine Wp.again ⟨i + 1,r,by omega,by show ((l,(i6 l.length,(I.add (i6 i) (I.of .i64 1),()))),_) = _; rw [hn],?_⟩ (by show l.length - (I.add (i6 i) (I.of .i64 1)).val.toNat < l.length - (i6 i).val.toNat; rw [hn,a0V (by omega),a0V (by omega)]; omega)
  rw [hv,hc,c7K f d hk,a3G (by omega)]
  omega
 ·
  have hk:I.ltb (i6 i) (i6 l.length) = false:=hk
  rw [e2] at hk
  have hk:i = l.length:=by have:=of_decide_eq_false hk; omega
  subst hk
  refine Wp.done ⟨c,rfl,?_⟩
  rw [hc,List.take_length]
theorem g4F:v5 Z5 = 0:=rfl
theorem d8A (l:List U) (hl:l.length ≤ 1073741824):∃ r:S5,a9L K0 ((l,()),()) = some ((r,()),())∧v5 r = tot id l:=by
 obtain ⟨r,hr,hv⟩:=d7A Z_U id l Z5 Z5 hl (by rw [g4F]; omega)
 exact ⟨r,hr,by rw [hv,g4F]; omega⟩
theorem e4A (a:U):∃ r:S5,a9L K0 (((a :: []),()),()) = some ((r,()),())∧v5 r = a.val:=by
 obtain ⟨r,hr,hv⟩:=d8A [a] (by show 1 ≤ _; omega)
 exact ⟨r,hr,by rw [hv]; simp [tot]⟩
theorem e6R (a b:U):∃ r:S5,a9L K0 (((a :: (b :: [])),()),()) = some ((r,()),())∧v5 r = a.val + b.val:=by
 obtain ⟨r,hr,hv⟩:=d8A [a,b] (by show 2 ≤ _; omega)
 exact ⟨r,hr,by rw [hv]; simp [tot]⟩
end Sym

/- Audit: Check agrees with the reference. -/
namespace Sym
open Go
abbrev Sta:Type:=b9I
abbrev f8I (s:Sta):List a0E:=s.2.2.2.2.2.1
abbrev d1E (s:Sta):c0Q:=s.2.2.2.2.2.2.1
abbrev g4C (s:Sta):List a0B:=s.2.2.2.2.2.2.2.1
abbrev g8C (s:Sta):U:=s.2.2.2.2.2.2.2.2.2.1
abbrev f8J (s:Sta):List a0A:=s.2.2.2.2.1.2.2.2.2.2.1
abbrev d3H (x:a0E):U:=x.2.1
abbrev mAm (x:a0B):U:=x.2.2.1
abbrev b5B (x:a0A):U:=x.2.2.2.2.1
def f5R (v:c0Q):Nat:=v.1.val + v.2.1.val + v.2.2.1.val + v.2.2.2.1.val
def okP (p:a0A):Prop:=p.2.1.val + p.2.2.2.2.1.val = p.2.2.1.val + p.2.2.2.1.val
instance (p:a0A):Decidable (okP p):=by unfold okP; exact inferInstance
def h0O (s:Sta) (t:c9T):Bool:=decide (tot d3H (f8I s) + f5R (d1E s) + t.2.1.val = t.1.val)
def e9F (s:Sta) (t:c9T):Bool :=
 a4S (Ty.eqb a1Q (d1E s).1 t.2.2.2.2.2.1) || (a4S (Ty.eqb a1Q (d1E s).2.1 t.2.2.2.2.1) || (a4S (Ty.eqb a1Q (d1E s).2.2.2.1 t.2.2.2.2.2.2.1) || a4S (decide ((d1E s).2.2.1.val + t.2.2.2.2.2.2.2.1.val = t.2.2.2.1.val))))
def g7X (s:Sta) (t:c9T):Bool:=decide ((g8C s).val + t.2.2.1.val = t.1.val)
def g8D (s:Sta) (t:c9T):Bool:=decide (tot mAm (g4C s) = t.2.1.val)
noncomputable def g6V (s:Sta):Bool:=decide (∀ i,i < (f8J s).length→okP (rdL dP (f8J s) i))
def g7W (s:Sta) (t:c9T):Bool:=decide (tot b5B (f8J s) = t.2.2.2.2.2.2.2.1.val)
noncomputable def g5P (s:Sta) (t:c9T):I .i64 :=
 if h0O s t = false then I.of .i64 1 else if e9F s t = true then I.of .i64 2 else if g7X s t = false then I.of .i64 3 else if g8D s t = false then I.of .i64 4 else if g6V s = false then I.of .i64 5 else if g7W s t = false then I.of .i64 6 else I.of .i64 0
structure Few (s:Sta):Prop where
 ac:(f8I s).length ≤ 1073741824
 ms:(g4C s).length ≤ 1073741824
 po:(f8J s).length ≤ 1073741824
theorem f2F (v:c0Q):f5R v ≤ 4 * U.top:=by
 have h1:=U.lt v.1
 have h2:=U.lt v.2.1
 have h3:=U.lt v.2.2.1
 have h4:=U.lt v.2.2.2.1
 unfold f5R
 omega
theorem e7S (s:Sta) (h:Few s):∃ r:S5,c0M K0 ((s,()),()) = some ((r,()),())∧v5 r = tot d3H (f8I s) + f5R (d1E s):=by
 refine Wp.out (T:=fun o=>∃ r:S5,o = some ((r,()),())∧v5 r = tot d3H (f8I s) + f5R (d1E s)) ?_
 unfold c0M
 obtain ⟨r0,h0,e0⟩:=d8A [(d1E s).1,(d1E s).2.1,(d1E s).2.2.1,(d1E s).2.2.2.1] (by show 4 ≤ _; omega)
 have e0:v5 r0 = f5R (d1E s):=by rw [e0]; simp [tot,f5R]; omega
 refine Wp.optF h0 ?_
 obtain ⟨r,hr,hv⟩:=d7A a1G d3H (f8I s) Z5 r0 h.ac (by rw [e0]; exact f2F _)
 exact ⟨r,hr,by rw [hv,e0]; omega⟩
theorem g2G (s:Sta) (h:Few s):∃ r:S5,b4K K0 ((s,()),()) = some ((r,()),())∧v5 r = tot mAm (g4C s):=by
 obtain ⟨r,hr,hv⟩:=d7A a0O mAm (g4C s) Z5 Z5 h.ms (by rw [g4F]; omega)
 exact ⟨r,hr,by rw [hv,g4F]; omega⟩
theorem g3N (l:List a0A) (h:l.length ≤ 1073741824):∃ r:S5,b9S K0 ((l,()),()) = some ((r,()),())∧v5 r = tot b5B l:=by
 obtain ⟨r,hr,hv⟩:=d7A a0N b5B l Z5 Z5 h (by rw [g4F]; omega)
 exact ⟨r,hr,by rw [hv,g4F]; omega⟩
theorem f7P (l:List a0A) (h:l.length ≤ 1073741824):b0U K0 ((l,()),()) = some ((decide (∀ i,i < l.length→okP (rdL dP l i)),()),()):=by
 refine Wp.out (T:=fun o=>o = some ((decide (∀ i,i < l.length→okP (rdL dP l i)),()),())) ?_
 unfold b0U
 refine Wp.iter (fun x=>∃ i,i ≤ l.length∧x = ((l,(i6 l.length,(i6 i,()))),())∧∀ k,k < i→okP (rdL dP l k)) (fun x=>l.length - x.1.2.2.1.val.toNat) ?_ ⟨0,by omega,rfl,fun k hk=>by omega⟩ (by rw [a6Y]; show l.length - 0 < _; omega)
 rintro x ⟨i,hi,rfl,hc⟩
 have hn:I.add (i6 i) (I.of .i64 1) = i6 (i + 1):=a3S (m:=1) (by omega)
 have e2:I.ltb (i6 i) (i6 l.length) = decide (i < l.length):=a2T (by omega) (by omega)
 refine Wp.brn (fun hk=>?_) (fun hk=>?_)
 ·
  have hk:I.ltb (i6 i) (i6 l.length) = true:=hk
  rw [e2] at hk
  have hk:=of_decide_eq_true hk
  refine Wp.brnT (a3T (by show i < l.length; omega) (by omega)) ?_
  have hrd:rdL a0N l (I.nat (i6 i)) = rdL dP l i:=by rw [a3G (by omega)]
  obtain ⟨r1,h1,v1⟩:=e6R (rdL a0N l (I.nat (i6 i))).2.1 (rdL a0N l (I.nat (i6 i))).2.2.2.2.1
  obtain ⟨r2,h2,v2⟩:=e6R (rdL a0N l (I.nat (i6 i))).2.2.1 (rdL a0N l (I.nat (i6 i))).2.2.2.1
  refine Wp.optF h1 (Wp.optF h2 ?_)
  rw [hrd] at v1 v2
  refine Wp.brn (fun g=>?_) (fun g=>?_)
  ·
   have g:a4S (Ty.eqb (.arr 5 (.int .u64)) r1 r2) = true:=g
   rw [eq5] at g
   have g:=of_decide_eq_false (g7U g)
   refine Wp.done ?_
   rw [decide_eq_false (fun hh=>g (by rw [v1,v2]; exact hh i hk))]
   rfl
  ·
   have g:a4S (Ty.eqb (.arr 5 (.int .u64)) r1 r2) = false:=g
   rw [eq5] at g
   have g:v5 r1 = v5 r2:=by
    by_cases hx:v5 r1 = v5 r2
    ·
     exact hx
    ·
     rw [decide_eq_false hx] at g; cases g
   rw [v1,v2] at g
   refine Wp.again ⟨i + 1,by omega,by show ((l,(i6 l.length,(I.add (i6 i) (I.of .i64 1),()))),_) = _; rw [hn],fun k hk'=>?_⟩ (by show l.length - (I.add (i6 i) (I.of .i64 1)).val.toNat < l.length - (i6 i).val.toNat; rw [hn,a0V (by omega),a0V (by omega)]; omega)
   rcases (by omega:k < i ∨ k = i) with h3 | rfl
   ·
    exact hc k h3
   ·
    exact g
 ·
  have hk:I.ltb (i6 i) (i6 l.length) = false:=hk
  rw [e2] at hk
  have hk:i = l.length:=by have:=of_decide_eq_false hk; omega
  subst hk
  refine Wp.done ?_
  rw [decide_eq_true hc]
  rfl
theorem bnF {b:Bool} (h:a4S b = false):b = true:=by cases b <;> simp_all [a4S]
theorem bnT {b:Bool} (h:a4S b = true):b = false:=by cases b <;> simp_all [a4S]
theorem f1K (s:Sta) (t:c9T) (h:Few s):b4J K0 ((s,(t,())),()) = some ((g5P s t,()),()):=by
 refine Wp.out (T:=fun o=>o = some ((g5P s t,()),())) ?_
 unfold b4J
 obtain ⟨y0,h0,v0⟩:=e7S s h
 have hB:B5 = 1099511627776 * U.top:=rfl
 have hy0:v5 y0 ≤ B5:=by
  have h1:=e9X d3H (f8I s)
  have h2:=Nat.mul_le_mul_right U.top h.ac
  have h3:=f2F (d1E s)
  have h4:=Nat.mul_le_mul_right U.top (show 4 + 1073741824 ≤ 1099511627776 by omega)
  rw [Nat.add_mul] at h4
  rw [v0,hB]; omega
 obtain ⟨y1,h1,v1⟩:=e0A y0 t.2.1 hy0
 obtain ⟨y2,h2,v2⟩:=e4A t.1
 have e1:Ty.eqb (.arr 5 (.int .u64)) y1 y2 = h0O s t:=by rw [eq5,v1,v2,v0]; rfl
 refine Wp.optF h0 (Wp.optF h1 (Wp.optF h2 ?_))
 unfold g5P
 refine Wp.brn (fun g=>?_) (fun g=>?_)
 ·
  have g:=bnT g
  rw [← e1,if_pos g]
  rfl
 have g:=bnF g
 rw [← e1,if_neg (by rw [g]; simp)]
 obtain ⟨y4,h4,v4⟩:=e6R (d1E s).2.2.1 t.2.2.2.2.2.2.2.1
 obtain ⟨y5,h5,v5e⟩:=e4A t.2.2.2.1
 have e2:Ty.eqb (.arr 5 (.int .u64)) y4 y5 = decide ((d1E s).2.2.1.val + t.2.2.2.2.2.2.2.1.val = t.2.2.2.1.val):=by rw [eq5,v4,v5e]
 refine Wp.jn (fun x=>x = ((e9F s t,()),(s,(t,())))) ?_ ?_
 ·
  rintro x rfl
  refine Wp.brn (fun g=>?_) (fun g=>?_)
  ·
   have g:e9F s t = true:=g
   rw [if_pos g]
   rfl
  have g:e9F s t = false:=g
  rw [if_neg (by rw [g]; simp)]
  obtain ⟨y6,h6,v6⟩:=e6R (g8C s) t.2.2.1
  have e3:Ty.eqb (.arr 5 (.int .u64)) y6 y2 = g7X s t:=by rw [eq5,v6,v2]; rfl
  refine Wp.optF h6 (Wp.optF h2 ?_)
  refine Wp.brn (fun g=>?_) (fun g=>?_)
  ·
   have g:=bnT g
   rw [← e3,if_pos g]
   rfl
  have g:=bnF g
  rw [← e3,if_neg (by rw [g]; simp)]
  obtain ⟨y7,h7,v7⟩:=g2G s h
  obtain ⟨y8,h8,v8⟩:=e4A t.2.1
  have e4:Ty.eqb (.arr 5 (.int .u64)) y7 y8 = g8D s t:=by rw [eq5,v7,v8]; rfl
  refine Wp.optF h7 (Wp.optF h8 ?_)
  refine Wp.brn (fun g=>?_) (fun g=>?_)
  ·
   have g:=bnT g
   rw [← e4,if_pos g]
   rfl
  have g:=bnF g
  rw [← e4,if_neg (by rw [g]; simp)]
  refine Wp.optF (f7P (f8J s) h.po) ?_
  refine Wp.brn (fun g=>?_) (fun g=>?_)
  ·
   have g:g6V s = false:=bnT g
   rw [if_pos g]
   rfl
  have g:g6V s = true:=bnF g
  rw [if_neg (by rw [g]; simp)]
  obtain ⟨y9,h9,v9⟩:=g3N (f8J s) h.po
  obtain ⟨y10,h10,v10⟩:=e4A t.2.2.2.2.2.2.2.1
  have e6:Ty.eqb (.arr 5 (.int .u64)) y9 y10 = g7W s t:=by rw [eq5,v9,v10]; rfl
  refine Wp.optF h9 (Wp.optF h10 ?_)
  refine Wp.brn (fun g=>?_) (fun g=>?_)
  ·
   have g:=bnT g
   rw [← e6,if_pos g]
   rfl
  ·
   have g:=bnF g
   rw [← e6,if_neg (by rw [g]; simp)]
   rfl
 ·
  intro j hj
  have hj:∀ b:Bool,e9F s t = b→Wp (fun o=>o = some ((if e9F s t = true then I.of IntKind.i64 2 else if g7X s t = false then I.of IntKind.i64 3 else if g8D s t = false then I.of IntKind.i64 4 else if g6V s = false then I.of IntKind.i64 5 else if g7W s t = false then I.of IntKind.i64 6 else I.of IntKind.i64 0,()),())) (j ((b,()),(s,(t,())))):=by
   rintro b rfl
   exact hj _ rfl
  refine Wp.brn (fun g=>hj true ?_) (fun g=>?_)
  ·
   unfold e9F
   rw [show a4S (Ty.eqb a1Q (d1E s).1 t.2.2.2.2.2.1) = true from g]; rfl
  have g1:a4S (Ty.eqb a1Q (d1E s).1 t.2.2.2.2.2.1) = false:=g
  refine Wp.brn (fun g=>hj true ?_) (fun g=>?_)
  ·
   unfold e9F
   rw [g1,show a4S (Ty.eqb a1Q (d1E s).2.1 t.2.2.2.2.1) = true from g]; rfl
  have g2:a4S (Ty.eqb a1Q (d1E s).2.1 t.2.2.2.2.1) = false:=g
  refine Wp.brn (fun g=>hj true ?_) (fun g=>?_)
  ·
   unfold e9F
   rw [g1,g2,show a4S (Ty.eqb a1Q (d1E s).2.2.2.1 t.2.2.2.2.2.2.1) = true from g]; rfl
  have g3:a4S (Ty.eqb a1Q (d1E s).2.2.2.1 t.2.2.2.2.2.2.1) = false:=g
  refine Wp.optF h4 (Wp.optF h5 (hj (a4S (Ty.eqb (.arr 5 (.int .u64)) y4 y5)) ?_))
  unfold e9F
  rw [g1,g2,g3,e2]
  rfl
end Sym

/- Audit: the reference's Check. -/
namespace Sym
open Go
end Sym

/- Audit: the state of the reference machine. -/
namespace Sym
open Go
theorem c8Y {X:Type} (f:X→U) (a b:List X):tot f (a ++ b) = tot f a + tot f b:=by simp [tot]
theorem c0E {X:Type} (f:X→U) (x:X) (l:List X):tot f (x :: l) = (f x).val + tot f l:=by simp [tot]
theorem g0B {X:Type} (f:X→U) (x:X) (l:List X) (j:Nat):tot f (l.take j ++ (x :: l.drop j)) = tot f l + (f x).val:=by
 have h:=c8Y f (l.take j) (l.drop j)
 rw [List.take_append_drop] at h
 rw [c8Y,c0E,h]
 omega
theorem d6M {X:Type} (x:X) (l:List X) (j:Nat):(l.take j ++ (x :: l.drop j)).length = l.length + 1:=by
 simp only [List.length_append,List.length_take,List.length_cons,List.length_drop]
 omega
set_option maxHeartbeats 1000000 in
theorem e1Z (l:List Ac) (v:V4) (hl:l.length ≤ 1073741823):∃ out:List Ac,a5S K0 (((l,(v,())),()),()) = some ((),(out,()))∧out.length ≤ l.length∧tot d3H out = tot d3H l:=by
 refine Wp.out (T:=fun o=>∃ out:List Ac,o = some ((),(out,()))∧out.length ≤ l.length∧tot d3H out = tot d3H l) ?_
 unfold a5S
 refine Wp.iter (fun x=>∃ (i:Nat) (out:List Ac),i ≤ l.length∧x = (((l,(v,())),(i6 i,())),(out,()))∧out.length ≤ i∧tot d3H out = tot d3H (l.take i)) (fun x=>l.length - x.1.2.1.val.toNat) ?_ ⟨0,[],by omega,rfl,by show 0 ≤ _; omega,rfl⟩ (by rw [a6Y]; show l.length - 0 < _; omega)
 rintro x ⟨i,out,hi,rfl,ho,hs⟩
 have hn:I.add (i6 i) (I.of .i64 1) = i6 (i + 1):=a3S (m:=1) (by omega)
 have e2:I.ltb (i6 i) (I.ofNat .i64 (a0I l)) = decide (i < l.length):=a2T (m:=l.length) (by omega) (by omega)
 refine Wp.brn (fun hk=>?_) (fun hk=>?_)
 ·
  have hk:I.ltb (i6 i) (I.ofNat .i64 (a0I l)) = true:=hk
  rw [e2] at hk
  have hk:=of_decide_eq_true hk
  have hmu:l.length - (I.add (i6 i) (I.of .i64 1)).val.toNat < l.length - (i6 i).val.toNat:=by rw [hn,a0V (by omega),a0V (by omega)]; omega
  have hrd:rdL a1G l (I.nat (i6 i)) = rdL a1G l i:=by rw [a3G (by omega)]
  have hsc:=c7K d3H a1G hk
  refine Wp.brnT (a3T (by show i < l.length; omega) (by omega)) ?_
  refine Wp.jn (fun x=>x = (((l,(v,())),(i6 i,())),(out,(rdL a1G l i,())))) ?_ ?_
  ·
   rintro x rfl
   refine Wp.jn (fun x=>∃ j,j ≤ out.length∧x = (((l,(v,())),(i6 i,(i6 j,()))),(out,(rdL a1G l i,())))) ?_ ?_
   ·
    rintro x ⟨j,hj,rfl⟩
    have b1:inB' (i6 j) out.length = true:=i6_inB' hj (by omega)
    have ej:I.nat (i6 j) = j:=a3G (by omega)
    have en:a2A (a3W out 0 (I.nat (i6 j))) (a2A (rdL a1G l i :: []) (a3W out (I.nat (i6 j)) (a0I out - I.nat (i6 j)))) = out.take j ++ (rdL a1G l i :: out.drop j):=by
     rw [ej,b9K,a7C,b3U]; rfl
    have el1:a0I (a2A (rdL a1G l i :: []) (a3W out (I.nat (i6 j)) (a0I out - I.nat (i6 j)))) = out.length - j + 1:=by
     rw [ej,a7C,a7C,b3U]
     show (_ :: out.drop j).length = _
     simp
    refine Wp.brnT b1 (Wp.brnT (decide_eq_true rfl) (Wp.brnT b1 (Wp.brnT (by show a1E (a0I (a2A (rdL a1G l i :: []) (a3W out (I.nat (i6 j)) (a0I out - I.nat (i6 j))))) = true; rw [el1]; exact a8P (by omega)) (Wp.brnT (by show a1E (a0I (a2A (a3W out 0 (I.nat (i6 j))) (a2A (rdL a1G l i :: []) (a3W out (I.nat (i6 j)) (a0I out - I.nat (i6 j)))))) = true; rw [en,a7C,d6M]; exact a8P (by omega)) (Wp.brnF (by show c6A (a0I (a2A (rdL a1G l i :: []) (a3W out (I.nat (i6 j)) (a0I out - I.nat (i6 j))))) = false; rw [el1]; rfl) ?_)))))
    refine Wp.again ⟨i + 1,out.take j ++ (rdL a1G l i :: out.drop j),by omega,?_,by rw [d6M]; omega,by rw [g0B,hs,hsc]⟩ hmu
    show (((l,(v,())),(I.add (i6 i) (I.of .i64 1),())),(a2A (a3W out 0 (I.nat (i6 j))) (a2A (rdL a1G l i :: []) (a3W out (I.nat (i6 j)) (a0I out - I.nat (i6 j)))),())) = _
    rw [hn,en]
   ·
    intro j2 hj2
    refine Wp.iter (fun x=>∃ j,j ≤ out.length∧x = (((l,(v,())),(i6 i,(i6 j,()))),(out,(rdL a1G l i,())))) (fun x=>x.1.2.2.1.val.toNat) ?_ ⟨out.length,by omega,rfl⟩ (by rw [a6Y]; show (i6 out.length).val.toNat < _; rw [a0V (by omega)]; omega)
    rintro x ⟨j,hj,rfl⟩
    have e3:I.ltb (I.of .i64 0) (i6 j) = decide (0 < j):=a2T (n:=0) (by omega) (by omega)
    refine Wp.brn (fun g=>?_) (fun g=>Wp.done (hj2 _ ⟨j,hj,rfl⟩))
    have g:I.ltb (I.of .i64 0) (i6 j) = true:=g
    rw [e3] at g
    have g:=of_decide_eq_true g
    have hsub:I.sub (i6 j) (I.of .i64 1) = i6 (j - 1):=b9U (m:=1) (by omega) (by omega)
    refine Wp.brnT (by show inB (I.sub (i6 j) (I.of .i64 1)) out.length = true; rw [hsub]; exact a3T (by omega) (by omega)) ?_
    refine Wp.brn (fun _=>?_) (fun _=>Wp.done (hj2 _ ⟨j,hj,rfl⟩))
    exact Wp.again ⟨j - 1,by omega,by show (((l,(v,())),(i6 i,(I.sub (i6 j) (I.of .i64 1),()))),_) = _; rw [hsub]⟩ (by show (I.sub (i6 j) (I.of .i64 1)).val.toNat < (i6 j).val.toNat; rw [hsub,a0V (by omega),a0V (by omega)]; omega)
  ·
   intro j1 hj1
   refine Wp.optF (c5I _) ?_
   have hgo:Wp (Rnd (fun o=>∃ out:List Ac,o = some ((),(out,()))∧out.length ≤ l.length∧tot d3H out = tot d3H l) (fun x=>∃ (i:Nat) (out:List Ac),i ≤ l.length∧x = (((l,(v,())),(i6 i,())),(out,()))∧out.length ≤ i∧tot d3H out = tot d3H (l.take i)) (fun x=>l.length - x.1.2.1.val.toNat) (l.length - (i6 i).val.toNat)) (j1 (((l,(v,())),(i6 i,())),(out,(rdL a1G l (I.nat (i6 i)),())))):=hj1 _ (by rw [hrd])
   refine Wp.brn (fun z=>?_) (fun z=>hgo)
   refine Wp.brn (fun z2=>?_) (fun z2=>hgo)
   have z:decide ((rdL a1G l (I.nat (i6 i))).2.1.val = 0) = true:=z
   rw [hrd] at z
   have z:=of_decide_eq_true z
   refine Wp.again ⟨i + 1,out,by omega,by show (((l,(v,())),(I.add (i6 i) (I.of .i64 1),())),_) = _; rw [hn],by omega,?_⟩ hmu
   rw [hsc,hs]
   show _ = _ + (rdL a1G l i).2.1.val
   rw [z]
   rfl
 ·
  have hk:I.ltb (i6 i) (I.ofNat .i64 (a0I l)) = false:=hk
  rw [e2] at hk
  have hk:i = l.length:=by have:=of_decide_eq_false hk; omega
  subst hk
  rw [List.take_length] at hs
  exact Wp.done ⟨out,rfl,ho,hs⟩
set_option maxHeartbeats 1000000 in
theorem f4Y (b:U) (r:List Hs) (cl:List (I .u64)) (l:List Pay) (hl:l.length ≤ 1073741823):∃ out:List Pay,a4X K0 (((b,(r,(cl,(l,())))),()),()) = some ((),(out,()))∧out.length ≤ l.length:=by
 refine Wp.out (T:=fun o=>∃ out:List Pay,o = some ((),(out,()))∧out.length ≤ l.length) ?_
 unfold a4X
 refine Wp.iter (fun x=>∃ (i:Nat) (out:List Pay),i ≤ l.length∧x = (((b,(r,(cl,(l,())))),(i6 i,())),(out,()))∧out.length ≤ i) (fun x=>l.length - x.1.2.1.val.toNat) ?_ ⟨0,[],by omega,rfl,by show 0 ≤ _; omega⟩ (by rw [a6Y]; show l.length - 0 < _; omega)
 rintro x ⟨i,out,hi,rfl,ho⟩
 have hn:I.add (i6 i) (I.of .i64 1) = i6 (i + 1):=a3S (m:=1) (by omega)
 have e2:I.ltb (i6 i) (I.ofNat .i64 (a0I l)) = decide (i < l.length):=a2T (m:=l.length) (by omega) (by omega)
 refine Wp.brn (fun hk=>?_) (fun hk=>?_)
 ·
  have hk:I.ltb (i6 i) (I.ofNat .i64 (a0I l)) = true:=hk
  rw [e2] at hk
  have hk:=of_decide_eq_true hk
  have hmu:l.length - (I.add (i6 i) (I.of .i64 1)).val.toNat < l.length - (i6 i).val.toNat:=by rw [hn,a0V (by omega),a0V (by omega)]; omega
  have hrd:rdL a1D l (I.nat (i6 i)) = rdL a1D l i:=by rw [a3G (by omega)]
  have bi:inB (i6 i) l.length = true:=a3T hk (by omega)
  refine Wp.jn (fun x=>∃ j,j ≤ out.length∧x = (((b,(r,(cl,(l,())))),(i6 i,(i6 j,()))),(out,()))) ?_ ?_
  ·
   rintro x ⟨j,hj,rfl⟩
   have b1:inB' (i6 j) out.length = true:=i6_inB' hj (by omega)
   have ej:I.nat (i6 j) = j:=a3G (by omega)
   have en:a2A (a3W out 0 (I.nat (i6 j))) (a2A (rdL a1D l (I.nat (i6 i)) :: []) (a3W out (I.nat (i6 j)) (a0I out - I.nat (i6 j)))) = out.take j ++ (rdL a1D l i :: out.drop j):=by
    rw [ej,hrd,b9K,a7C,b3U]; rfl
   have el1:a0I (a2A (rdL a1D l (I.nat (i6 i)) :: []) (a3W out (I.nat (i6 j)) (a0I out - I.nat (i6 j)))) = out.length - j + 1:=by
    rw [ej,a7C,a7C,b3U]
    show (_ :: out.drop j).length = _
    simp
   refine Wp.brnT b1 (Wp.brnT (decide_eq_true rfl) (Wp.brnT bi (Wp.brnT b1 (Wp.brnT (by show a1E (a0I (a2A (rdL a1D l (I.nat (i6 i)) :: []) (a3W out (I.nat (i6 j)) (a0I out - I.nat (i6 j))))) = true; rw [el1]; exact a8P (by omega)) (Wp.brnT (by show a1E (a0I (a2A (a3W out 0 (I.nat (i6 j))) (a2A (rdL a1D l (I.nat (i6 i)) :: []) (a3W out (I.nat (i6 j)) (a0I out - I.nat (i6 j)))))) = true; rw [en,a7C,d6M]; exact a8P (by omega)) (Wp.brnF (by show c6A (a0I (a2A (rdL a1D l (I.nat (i6 i)) :: []) (a3W out (I.nat (i6 j)) (a0I out - I.nat (i6 j))))) = false; rw [el1]; rfl) ?_))))))
   refine Wp.again ⟨i + 1,out.take j ++ (rdL a1D l i :: out.drop j),by omega,?_,by rw [d6M]; omega⟩ hmu
   show (((b,(r,(cl,(l,())))),(I.add (i6 i) (I.of .i64 1),())),(a2A (a3W out 0 (I.nat (i6 j))) (a2A (rdL a1D l (I.nat (i6 i)) :: []) (a3W out (I.nat (i6 j)) (a0I out - I.nat (i6 j)))),())) = _
   rw [hn,en]
  ·
   intro j2 hj2
   refine Wp.iter (fun x=>∃ j,j ≤ out.length∧x = (((b,(r,(cl,(l,())))),(i6 i,(i6 j,()))),(out,()))) (fun x=>x.1.2.2.1.val.toNat) ?_ ⟨out.length,by omega,rfl⟩ (by rw [a6Y]; show (i6 out.length).val.toNat < _; rw [a0V (by omega)]; omega)
   rintro x ⟨j,hj,rfl⟩
   have e3:I.ltb (I.of .i64 0) (i6 j) = decide (0 < j):=a2T (n:=0) (by omega) (by omega)
   refine Wp.brn (fun g=>?_) (fun g=>Wp.done (hj2 _ ⟨j,hj,rfl⟩))
   have g:I.ltb (I.of .i64 0) (i6 j) = true:=g
   rw [e3] at g
   have g:=of_decide_eq_true g
   have hsub:I.sub (i6 j) (I.of .i64 1) = i6 (j - 1):=b9U (m:=1) (by omega) (by omega)
   refine Wp.brnT (by show inB (I.sub (i6 j) (I.of .i64 1)) out.length = true; rw [hsub]; exact a3T (by omega) (by omega)) (Wp.brnT bi ?_)
   refine Wp.brn (fun _=>?_) (fun _=>Wp.done (hj2 _ ⟨j,hj,rfl⟩))
   exact Wp.again ⟨j - 1,by omega,by show (((b,(r,(cl,(l,())))),(i6 i,(I.sub (i6 j) (I.of .i64 1),()))),_) = _; rw [hsub]⟩ (by show (I.sub (i6 j) (I.of .i64 1)).val.toNat < (i6 j).val.toNat; rw [hsub,a0V (by omega),a0V (by omega)]; omega)
 ·
  have hk:I.ltb (i6 i) (I.ofNat .i64 (a0I l)) = false:=hk
  rw [e2] at hk
  have hk:i = l.length:=by have:=of_decide_eq_false hk; omega
  subst hk
  exact Wp.done ⟨out,rfl,ho⟩
noncomputable def stO (m:MS):((I .u64) × (a2X × (a7N × ((I .u64) × ((U × ((I .u64) × ((I .u64) × ((I .u64) × (b4U × (Unit × Unit)))))) × (Unit × (c0Q × (Unit × (Unit × (U × (Unit × Unit))))))))))) :=
 (m.steps,(m.pm,(m.bk,(m.bl,((m.pr.1,(m.pr.2.1,(m.pr.2.2.1,(m.pr.2.2.2.1,(m.pr.2.2.2.2.1,((),())))))),((),(m.v,((),((),(m.bal,((),())))))))))))
noncomputable def stZ:((I .u64) × (a2X × (a7N × ((I .u64) × ((U × ((I .u64) × ((I .u64) × ((I .u64) × (b4U × (Unit × Unit)))))) × (Unit × (c0Q × (Unit × (Unit × (U × (Unit × Unit))))))))))) :=
 ((I.of .u64 0),(a5D,(a4A,((I.of .u64 0),((Z_U,((I.of .u64 0),((I.of .u64 0),((I.of .u64 0),(a2Q,((),())))))),((),(c3E,((),((),(Z_U,((),())))))))))))
noncomputable def g9O (m:MS) (acc:List Ac) (bs:List Bool) (ba:List Pay) :=
 ((stO m,()),(m.j,(lgH m.v,(esH m.bal,(m.ms,(m.ac,(m.rt,(m.cl,(m.ba,(m.pr.posters,(acc,(m.ms,(bs,(ba,()))))))))))))))
theorem f5X (m:MS) (h:Sz 1073741822 m):∃ (acc:List Ac) (bs:List Bool) (ba:List Pay),a2M K0 ((),m.h) = some (g9O m acc bs ba)∧acc.length ≤ m.ac.length∧tot d3H acc = tot d3H m.ac∧bs.length = m.ms.length∧ba.length ≤ m.ba.length:=by
 obtain ⟨acc,ha,hal,has⟩:=e1Z m.ac m.v (by have:=h.ac; omega)
 obtain ⟨ba,hb,hbl⟩:=f4Y m.bal m.rt m.cl m.ba (by have:=h.ba; omega)
 have hms:=h.ms
 have hcl:=h.cl
 have hpr:=h.pr
 suffices hh:∃ bs:List Bool,a2M K0 ((),m.h) = some (g9O m acc bs ba)∧bs.length = m.ms.length by
  obtain ⟨bs,h1,h2⟩:=hh
  exact ⟨acc,bs,ba,h1,hal,has,h2,hbl⟩
 refine Wp.out (T:=fun o=>∃ bs:List Bool,o = some (g9O m acc bs ba)∧bs.length = m.ms.length) ?_
 unfold a2M
 refine Wp.optF ha (Wp.brnT (a8P (by show m.ms.length ≤ _; omega)) (Wp.optF hb (Wp.brnT (a8P (by show m.pr.posters.length ≤ _; omega)) ?_)))
 refine Wp.iter (fun x=>∃ (i:Nat) (bs:List Bool),i ≤ m.ms.length∧bs.length = i∧x = ((i6 i,()),(m.j,(lgH m.v,(m.ac,(m.ms,(esH m.bal,(m.rt,(m.cl,(m.ba,(stZ,([],([],([],([],([],(stO m,(m.pr.posters,(acc,(m.ms,(bs,(ba,())))))))))))))))))))))) (fun x=>m.ms.length - x.1.1.val.toNat) ?_ ⟨0,[],by omega,rfl,rfl⟩ (by rw [a6Y]; show m.ms.length - 0 < _; omega)
 rintro x ⟨i,bs,hi,hbs,rfl⟩
 have hn:I.add (i6 i) (I.of .i64 1) = i6 (i + 1):=a3S (m:=1) (by omega)
 have e2:I.ltb (i6 i) (I.ofNat .i64 (a0I m.ms)) = decide (i < m.ms.length):=a2T (m:=m.ms.length) (by omega) (by omega)
 refine Wp.brn (fun hk=>?_) (fun hk=>?_)
 ·
  have hk:I.ltb (i6 i) (I.ofNat .i64 (a0I m.ms)) = true:=hk
  rw [e2] at hk
  have hk:=of_decide_eq_true hk
  have hcd:=d5Q m.bal m.rt m.cl m.ba (I.conv (k:=.i64) .u64 (i6 i)) (by omega)
  refine Wp.optF hcd ?_
  refine Wp.brnT (a8P (by show (bs ++ [_]).length ≤ _; rw [List.length_append]; show bs.length + 1 ≤ _; omega)) ?_
  refine Wp.again ⟨i + 1,bs ++ [clB m.cl (I.conv (k:=.i64) .u64 (i6 i))],by omega,by rw [List.length_append]; show bs.length + 1 = _; omega,?_⟩ (by show m.ms.length - (I.add (i6 i) (I.of .i64 1)).val.toNat < m.ms.length - (i6 i).val.toNat; rw [hn,a0V (by omega),a0V (by omega)]; omega)
  show ((I.add (i6 i) (I.of .i64 1),()),_) = _
  rw [hn]
 ·
  have hk:I.ltb (i6 i) (I.ofNat .i64 (a0I m.ms)) = false:=hk
  rw [e2] at hk
  have hk:i = m.ms.length:=by have:=of_decide_eq_false hk; omega
  exact Wp.done ⟨bs,rfl,by omega⟩
end Sym

/- Audit: Check, the plain law. -/
namespace Sym
open Go
end Sym

/- Audit: what the ledger's and the pricer's steps do to the sums. -/
namespace Sym
open Go
theorem g1A {l:List Ac} {a:I .u64} (h:aAt l a < l.length):I.eqb (rdL dA l (aAt l a)).1 a = true:=by
 rw [a4G dA l _ h]
 exact List.findIdx_getElem (w:=h)
theorem e6B {l:List Ac} {a:I .u64} {k:Nat} (h:k < aAt l a) (hk:k < l.length):I.eqb (rdL dA l k).1 a = false:=by
 rw [a4G dA l _ hk]
 have:=List.not_of_lt_findIdx (p:=fun p:Ac=>I.eqb p.1 a) (xs:=l) h
 simpa using this
theorem c7E (l:List Ac) (a:I .u64):(a8M l a).1 = a:=by
 unfold a8M
 split
 ·
  rename_i h
  exact I.eq_of (g1A h)
 ·
  rfl
theorem get_put {l:List Ac} {a:I .u64} {x:Ac} (hx:x.1 = a):a8M (e1O l x) a = x:=by
 subst hx
 have he:I.eqb x.1 x.1 = true:=iff_eqb.2 rfl
 unfold e1O
 split
 ·
  rename_i h
  have hl:(c2C l (aAt l x.1) x).length = l.length:=d6O _ _ _
  have e:aAt (c2C l (aAt l x.1) x) x.1 = aAt l x.1:=by
   refine f3C (by omega) ?_ fun k hk=>?_
   ·
    rw [c2C,b5H,if_pos ⟨rfl,h⟩]; exact he
   ·
    rw [c2C,b5H,if_neg (by omega)]; exact e6B hk (by omega)
  unfold a8M
  rw [e,if_pos (by omega),c2C,b5H,if_pos ⟨rfl,h⟩]
 ·
  rename_i h
  have e:aAt (l ++ [x]) x.1 = l.length:=by
   refine f3C (by simp) ?_ fun k hk=>?_
   ·
    rw [c3B,if_neg (by omega),Nat.sub_self]; exact he
   ·
    rw [c3B,if_pos hk]; exact e6B (by omega) hk
  unfold a8M
  rw [e,if_pos (by simp),c3B,if_neg (by omega),Nat.sub_self]
  rfl
theorem d6A {X:Type} (f:X→U) (d:X):∀ (l:List X) (i:Nat) (x:X),i < l.length→tot f (setAt l i x) + (f (rdL d l i)).val = tot f l + (f x).val
 | [],_,_,h=>absurd h (Nat.not_lt_zero _)
 | y :: l,0,x,_=>by
  show tot f (x :: l) + (f y).val = tot f (y :: l) + (f x).val
  rw [c0E,c0E]; omega
 | y :: l,i + 1,x,h=>by
  have ih:=d6A f d l i x (Nat.lt_of_succ_lt_succ h)
  show tot f (y :: setAt l i x) + (f (rdL d l i)).val = tot f (y :: l) + (f x).val
  rw [c0E,c0E]; omega
theorem e6A (l:List Ac):c0O l = tot d3H l:=rfl
theorem d5Y (l:List Ac) (a:I .u64) (x:Ac) (hx:x.1 = a):c0O (e1O l x) + (a8M l a).2.1.val = c0O l + x.2.1.val:=by
 subst hx
 unfold e1O a8M
 by_cases h:aAt l x.1 < l.length
 ·
  rw [if_pos h,if_pos h]
  exact d6A d3H dA l _ x h
 ·
  rw [if_neg h,if_neg h,e6A,e6A,c8Y]
  show tot d3H l + (x.2.1.val + 0) + 0 = _
  omega
theorem e1K (l:List Ac) (a:I .u64):(a8M l a).2.1.val ≤ c0O l:=by
 have h:=d5Y l a (a,(Z_U,((I.of .u64 0),()))) rfl
 have:(Z_U:U).val = 0:=rfl
 have h2:((a,(Z_U,((I.of .u64 0),()))):Ac).2.1.val = 0:=this
 omega
theorem d5O {l:List Ac} {a:I .u64} {n:U} (h:c0O l + n.val < U.top):c0O (b7H l a n) = c0O l + n.val:=by
 have h1:=e1K l a
 have h2:=d5Y l a (c7U (a8M l a) (U.of ((a8M l a).2.1.val + n.val))) (c7E l a)
 have h3:(c7U (a8M l a) (U.of ((a8M l a).2.1.val + n.val))).2.1.val = (a8M l a).2.1.val + n.val:=U.val_of (by omega)
 unfold b7H
 omega
theorem c1X {l:List Ac} {a:I .u64} {n:U} (h:n.val ≤ (a8M l a).2.1.val):c0O (a4T l a n) + n.val = c0O l∧(a8M (a4T l a n) a).2.1.val + n.val = (a8M l a).2.1.val:=by
 have h1:=e1K l a
 have h2:=d5Y l a (c7U (a8M l a) (U.of ((a8M l a).2.1.val - n.val))) (c7E l a)
 have h3:(c7U (a8M l a) (U.of ((a8M l a).2.1.val - n.val))).2.1.val = (a8M l a).2.1.val - n.val:=U.val_of (by have:=U.lt (a8M l a).2.1; omega)
 unfold a4T
 rw [if_pos h]
 refine ⟨by omega,?_⟩
 rw [get_put (x:=c7U (a8M l a) (U.of ((a8M l a).2.1.val - n.val))) (c7E l a)]
 omega
theorem g2N (l:List Ac) (a:I .u64):c0O (e9D l a).2 = c0O l∧(a8M (e9D l a).2 a).2.1.val = (a8M l a).2.1.val:=by
 unfold e9D
 split
 ·
  exact ⟨rfl,rfl⟩
 ·
  split
  ·
   exact ⟨rfl,rfl⟩
  ·
   have h2:=d5Y l a ((a8M l a).1,((a8M l a).2.1,(I.add (a8M l a).2.2.1 (I.of .u64 1),(a8M l a).2.2.2))) (c7E l a)
   have h2:c0O (e1O l ((a8M l a).1,((a8M l a).2.1,(I.add (a8M l a).2.2.1 (I.of .u64 1),(a8M l a).2.2.2)))) + (a8M l a).2.1.val = c0O l + (a8M l a).2.1.val:=h2
   refine ⟨by show c0O (e1O l _) = _; omega,?_⟩
   show (a8M (e1O l ((a8M l a).1,((a8M l a).2.1,(I.add (a8M l a).2.2.1 (I.of .u64 1),(a8M l a).2.2.2)))) a).2.1.val = _
   rw [get_put (x:=((a8M l a).1,((a8M l a).2.1,(I.add (a8M l a).2.2.1 (I.of .u64 1),(a8M l a).2.2.2)))) (c7E l a)]
theorem e4S {v:V4} {l:List Ac} {a:I .u64} {k:Nat} {n:U} (ha:a.val ≠ 0) (h:n.val ≤ (a8M l a).2.1.val):c6D v l a k n = (I.of .i64 0,f9M v k (U.of ((d4W v k).val + n.val)),a4T l a n):=by
 unfold c6D
 rw [if_neg ha,if_pos (show b0G l a n = true from decide_eq_true h)]
theorem c7Z (q:Pay) (ps:List Pay):a9O ((q :: ps).map amt) = q.2.1.val + a9O (ps.map amt):=by simp [a9O,amt]
theorem e1T {l:List Post} {a:I .u64} {n:U} (h:(b2G l a n).2.val = 0):tot b5B (b2G l a n).1 = tot b5B l + n.val:=by
 unfold b2G at h ⊢
 by_cases h1:c5C l = true
 case neg=>rw [if_neg h1] at h; exact absurd h (by decide)
 rw [if_pos h1] at h ⊢
 by_cases h2:atN l a < l.length
 case neg=>rw [if_neg h2] at h; exact absurd h (by decide)
 rw [if_pos h2] at h ⊢
 by_cases h3:n.val ≤ (Post.due (rdL dP l (atN l a))).val
 case neg=>rw [if_neg h3] at h; exact absurd h (by decide)
 rw [if_pos h3] at h ⊢
 by_cases h4:(Post.paid (rdL dP l (atN l a))).val + n.val < U.top
 case neg=>rw [if_neg h4] at h; exact absurd h (by decide)
 rw [if_pos h4]
 have h5:=d6A b5B dP l (atN l a) (settled (rdL dP l (atN l a)) n) h2
 have h6:(b5B (settled (rdL dP l (atN l a)) n)).val = (b5B (rdL dP l (atN l a))).val + n.val:=U.val_of h4
 show tot b5B (setAt _ _ _) = _
 omega
theorem d4Q:∀ (ps:List Pay) (l:List Post),(a2Y l ps).2.val = 0→tot b5B (a2Y l ps).1 = tot b5B l + a9O (ps.map amt)
 | [],l,_=>by simp [a2Y,a9O]
 | y :: ps,l,h=>by
  simp only [a2Y] at h ⊢
  split
  ·
   rename_i h0
   rw [if_pos h0] at h
   rw [d4Q ps _ h,e1T h0,c7Z]
   omega
  ·
   rename_i h0
   rw [if_neg h0] at h
   exact absurd h h0
theorem f4T {s:PrT} {p:Prm} {pool:U} {r:RepT} {now:I .u64} {x:PrT} {t:f4L} (h:RepOk s p pool r now x t):tot b5B x.posters = tot b5B s.posters + a9O (t.2.2.1.map amt)∧a9O (t.2.2.1.map amt) ≤ pool.val:=by
 have e:t.2.2.1 = a2C (a9R s p r now) pool:=by rw [h.out]; rfl
 rw [e]
 refine ⟨?_,by rw [d4L]; omega⟩
 rw [h.posters,d4Q _ _ h.ap]
 have h5:=d6A b5B dP s.posters (atN s.posters r.from') (b9O (rdL dP s.posters (atN s.posters r.from')) r.cost (U.of (p.rpu.val * c3W s r now)) (I.add s.reports (I.of .u64 1))) h.chk.fnd
 have h6:(b5B (b9O (rdL dP s.posters (atN s.posters r.from')) r.cost (U.of (p.rpu.val * c3W s r now)) (I.add s.reports (I.of .u64 1)))).val = (b5B (rdL dP s.posters (atN s.posters r.from'))).val:=rfl
 have h7:tot b5B (a9R s p r now) = tot b5B s.posters:=by unfold a9R; omega
 rw [h7]
theorem e6O:∀ (l:List Post) (a:I .u64),tot b5B (d0M l a) = tot b5B l
 | [],a=>rfl
 | y :: l,a=>by
  unfold d0M
  split
  ·
   rw [c0E,e6O l a,c0E]
  ·
   rw [c0E]
   have:(b5B (f8P a)).val = 0:=rfl
   omega
theorem f5E {s:PrT} {a:I .u64} (h:(a5Z s a).2.val = 0):prV (a5Z s a).1 = true∧tot b5B (a5Z s a).1.posters = tot b5B s.posters:=by
 unfold a5Z at h ⊢
 by_cases hv:prV s = true
 case neg=>rw [if_neg hv] at h; exact absurd h (by decide)
 rw [if_pos hv] at h ⊢
 by_cases hp:(c8C s.posters a).2.val = 0
 case neg=>rw [if_neg hp] at h; exact absurd h hp
 rw [if_pos hp]
 have ⟨h1,h2,h3⟩:=prV_t.1 hv
 unfold c8C at hp
 by_cases g1:c5C s.posters = true∧a.nat ≠ 0
 case neg=>rw [if_neg g1] at hp; exact absurd hp (by decide)
 rw [if_pos g1] at hp
 by_cases g2:atN s.posters a < s.posters.length
 case pos=>rw [if_pos g2] at hp; exact absurd hp (by decide)
 rw [if_neg g2] at hp
 by_cases g3:s.posters.length = 64
 case pos=>rw [if_pos g3] at hp; exact absurd hp (by decide)
 have e:c8C s.posters a = (d0M s.posters a,I.of .i64 0):=by
  unfold c8C; rw [if_pos g1,if_neg g2,if_neg g3]
 rw [e]
 refine ⟨prV_t.2 ⟨fun q hq=>?_,g0H h2 g1.2 g2 g3,h3⟩,e6O _ _⟩
 rcases d0F hq with rfl | hq
 ·
  exact Nat.zero_le _
 ·
  exact h1 q hq
theorem f7U {s:PrT} {n:I .u64} (h:(a4H s n).2.val = 0):prV (a4H s n).1 = true∧(a4H s n).1.posters = s.posters:=by
 unfold a4H at h ⊢
 by_cases hv:prV s = true
 case neg=>rw [if_neg hv] at h; exact absurd h (by decide)
 rw [if_pos hv] at h ⊢
 by_cases hp:s.units.nat + n.nat < 18446744073709551616
 ·
  rw [if_pos hp]; exact ⟨hv,rfl⟩
 ·
  rw [if_neg hp] at h; exact absurd h b6D
theorem e8S {data:List B8} {lim ex:I .u64} {cap tip base unit:U} {p:Prm} (h:I.neb (e2A data lim ex cap tip base unit p).2 (I.of .i64 0) = false):a7E p = true:=by
 cases hv:a7E p with
 | true=>rfl
 | false =>
  exfalso
  have e:d9B data lim cap base unit p = (I.of .u64 0,I.of .u64 0,I.of .i64 15):=by unfold d9B; rw [if_pos hv]
  unfold e2A at h
  rw [e] at h
  rw [if_pos (by decide)] at h
  exact absurd h (by decide)
theorem g0J {data:List B8} {lim ex:I .u64} {cap tip base unit:U} {p:Prm} (h:I.neb (e2A data lim ex cap tip base unit p).2 (I.of .i64 0) = false) :
  (b5C (e2A data lim ex cap tip base unit p).1).val + (a9Q (e2A data lim ex cap tip base unit p).1).val + (c9K (e2A data lim ex cap tip base unit p).1).val + (c1H (e2A data lim ex cap tip base unit p).1).val ≤ lim.nat * (d2A (cap,tip) base).1.val:=by
 have hv:=e8S h
 obtain ⟨u,po,E,T,h0,hc,hT,hu,hcost,hpo,hql,hE,d1,d2,d3,hf⟩:=g7S h
 rw [hf]
 have hcl:=cap.lt
 have hinf:min (U.val p.2.2.2.2.2.1) base.val * E ≤ base.val * E:=Nat.mul_le_mul_right _ (Nat.min_le_right _ _)
 have hbu:c7S base p.2.2.2.2.2.1 p.2.2.2.2.2.2.1 E ≤ e5S base p.2.2.2.2.2.1 E:=e5D _ _ (d2Q hv)
 have hnet:e5S base p.2.2.2.2.2.1 E = base.val * E - min (U.val p.2.2.2.2.2.1) base.val * E:=rfl
 have hsum:base.val * po + min (U.val p.2.2.2.2.2.1) base.val * E + (e5S base p.2.2.2.2.2.1 E - c7S base p.2.2.2.2.2.1 p.2.2.2.2.2.2.1 E + T * (po + E)) + c7S base p.2.2.2.2.2.1 p.2.2.2.2.2.2.1 E = (base.val + T) * (po + E):=by
  have e1:base.val * (po + E) = base.val * po + base.val * E:=Nat.mul_add _ _ _
  rw [Nat.add_mul,e1]
  omega
 show (U.of (base.val * po)).val + (U.of (min (U.val p.2.2.2.2.2.1) base.val * E)).val + (U.of (e5S base p.2.2.2.2.2.1 E - c7S base p.2.2.2.2.2.1 p.2.2.2.2.2.2.1 E + T * (po + E))).val + (U.of (c7S base p.2.2.2.2.2.1 p.2.2.2.2.2.2.1 E)).val ≤ _
 rw [U.val_of (n:=base.val * po) d1,U.val_of (n:=min (U.val p.2.2.2.2.2.1) base.val * E) (by omega),U.val_of d3,U.val_of (n:=c7S base p.2.2.2.2.2.1 p.2.2.2.2.2.2.1 E) (by omega),hsum]
 have hg:(d2A (cap,tip) base).1.val = base.val + T:=by
  unfold d2A
  rw [if_pos hc,hT]
  show (U.of (base.val + min tip.val (cap.val - base.val))).val = _
  exact U.val_of (by omega)
 rw [hg,Nat.mul_comm lim.nat]
 exact Nat.mul_le_mul_left _ (by omega)
end Sym

/- Audit: what a step does to the sums of a run. -/
namespace Sym
open Go
theorem b3Y (r:Rcp):e3S r = tot mAm (b4I r):=by
 unfold e3S f7S
 rw [List.take_length]
 rfl
def E60:Nat:=1152921504606846976
def E80:Nat:=1208925819614629174706176
structure RInv (n:Nat) (m:MS) (T:Nat→Nat):Prop where
 sup:c0O m.ac + e5N m.v + T 1 = T 0
 v0:m.v.1.val = T 5
 v1:m.v.2.1.val = T 4
 v2:m.v.2.2.1.val + T 7 = T 3
 v3:m.v.2.2.2.1.val = T 6
 esc:m.bal.val + T 2 = T 0
 msg:tot mAm m.ms = T 1
 prv:prV m.pr = true
 paid:tot b5B m.pr.posters = T 7
 b0:T 0 ≤ n * E60
 b3:T 3 ≤ n * E80
theorem RInv.up1 {n:Nat} {m:MS} {T:Nat→Nat} (h:RInv n m T):RInv (n + 1) m T :=
 ⟨h.sup,h.v0,h.v1,h.v2,h.v3,h.esc,h.msg,h.prv,h.paid,Nat.le_trans h.b0 (Nat.mul_le_mul_right _ (Nat.le_succ n)),Nat.le_trans h.b3 (Nat.mul_le_mul_right _ (Nat.le_succ n))⟩
theorem RInv.small {n:Nat} {m:MS} {T:Nat→Nat} (h:RInv n m T) (hn:n ≤ 1000):T 0 ≤ 1000 * E60:=Nat.le_trans h.b0 (Nat.mul_le_mul_right _ hn)
theorem g3O {m:MS} {t:Txn} (h:I.neb (b9X m t).2 (I.of .i64 0) = false):(a2I t).val ≠ 0∧(tTo t).val ≠ 0∧(e3W t).nat * (d2A (d7F t,d6V t) (d4A m.bk)).1.val + (c5F t).val ≤ (a8M m.ac (a2I t)).2.1.val:=by
 unfold b9X at h
 by_cases h1:4096 < (c3S t).length
 ·
  rw [if_pos h1] at h; exact absurd h (by decide)
 rw [if_neg h1] at h
 by_cases h2:(a2I t).val = 0 ∨ (tTo t).val = 0 ∨ (a2I t).val = 18446744073709551615
 ·
  rw [if_pos h2] at h; exact absurd h (by decide)
 rw [if_neg h2] at h
 by_cases h3:I.neb (e3T t) (a8M m.ac (a2I t)).2.2.1 = true
 ·
  rw [if_pos h3] at h; exact absurd h (by decide)
 rw [if_neg h3] at h
 by_cases h4:I.eqb (I.add (a8M m.ac (a2I t)).2.2.1 (I.of .u64 1)) (I.of .u64 0) = true
 ·
  rw [if_pos h4] at h; exact absurd h (by decide)
 rw [if_neg h4] at h
 by_cases h5:I.neb (d2A (d7F t,d6V t) (d4A m.bk)).2 (I.of .i64 0) = true
 ·
  rw [if_pos h5] at h
  have h:I.neb (d2A (d7F t,d6V t) (d4A m.bk)).2 (I.of .i64 0) = false:=h
  rw [h] at h5; cases h5
 rw [if_neg h5] at h
 by_cases h6:I.ltb (g2E m.bk m.pm) (e3W t) = true
 ·
  rw [if_pos h6] at h; exact absurd h (by decide)
 rw [if_neg h6] at h
 by_cases h7:c9H (e3W t) (d2A (d7F t,d6V t) (d4A m.bk)).1 (c5F t) (a8M m.ac (a2I t)).2.1 = false
 ·
  rw [if_pos h7] at h; exact absurd h (by decide)
 have h7:c9H (e3W t) (d2A (d7F t,d6V t) (d4A m.bk)).1 (c5F t) (a8M m.ac (a2I t)).2.1 = true:=by simpa using h7
 exact ⟨fun h=>h2 (.inl h),fun h=>h2 (.inr (.inl h)),of_decide_eq_true h7⟩
theorem f6D {m:MS} {a:I .u64} {c:Chg} (ha:a.val ≠ 0) (hS:(b5C c).val + (a9Q c).val + (c9K c).val + (c1H c).val ≤ (a8M m.ac a).2.1.val) (hsup:c0O m.ac + e5N m.v ≤ 1000 * E60) :
  (c0B m a c).2.1.1.val = m.v.1.val + (c9K c).val∧(c0B m a c).2.1.2.1.val = m.v.2.1.val + (a9Q c).val∧(c0B m a c).2.1.2.2.1.val = m.v.2.2.1.val + (b5C c).val∧(c0B m a c).2.1.2.2.2.1.val = m.v.2.2.2.1.val + (c1H c).val ∧
  c0O (c2X m a c) + ((b5C c).val + (a9Q c).val + (c9K c).val + (c1H c).val) = c0O m.ac∧(a8M (c2X m a c) a).2.1.val + ((b5C c).val + (a9Q c).val + (c9K c).val + (c1H c).val) = (a8M m.ac a).2.1.val:=by
 have hb:=e1K m.ac a
 have hE:1000 * E60 + 1000 * E60 < U.top:=by decide
 have hvn:e5N m.v = m.v.1.val + m.v.2.1.val + m.v.2.2.1.val + m.v.2.2.2.1.val:=rfl
 have e1:c9V m a c = (I.of .i64 0,f9M m.v 2 (U.of ((d4W m.v 2).val + (b5C c).val)),a4T m.ac a (b5C c)):=e4S ha (by omega)
 have d1:=c1X (l:=m.ac) (a:=a) (n:=b5C c) (by omega)
 have e2:d0D m a c = (I.of .i64 0,f9M (c9V m a c).2.1 1 (U.of ((d4W (c9V m a c).2.1 1).val + (a9Q c).val)),a4T (c9V m a c).2.2 a (a9Q c)):=e4S ha (by rw [e1]; show _ ≤ (a8M (a4T m.ac a (b5C c)) a).2.1.val; omega)
 have d2:=c1X (l:=a4T m.ac a (b5C c)) (a:=a) (n:=a9Q c) (by omega)
 rw [e1] at e2
 have e3:d0C m a c = (I.of .i64 0,f9M (d0D m a c).2.1 0 (U.of ((d4W (d0D m a c).2.1 0).val + (c9K c).val)),a4T (d0D m a c).2.2 a (c9K c)):=e4S ha (by rw [e2]; show _ ≤ (a8M (a4T (a4T m.ac a (b5C c)) a (a9Q c)) a).2.1.val; omega)
 have d3:=c1X (l:=a4T (a4T m.ac a (b5C c)) a (a9Q c)) (a:=a) (n:=c9K c) (by omega)
 rw [e2] at e3
 have e4:c0B m a c = (I.of .i64 0,f9M (d0C m a c).2.1 3 (U.of ((d4W (d0C m a c).2.1 3).val + (c1H c).val)),a4T (d0C m a c).2.2 a (c1H c)):=e4S ha (by rw [e3]; show _ ≤ (a8M (a4T (a4T (a4T m.ac a (b5C c)) a (a9Q c)) a (c9K c)) a).2.1.val; omega)
 have d4:=c1X (l:=a4T (a4T (a4T m.ac a (b5C c)) a (a9Q c)) a (c9K c)) (a:=a) (n:=c1H c) (by omega)
 rw [e3] at e4
 have e5:c2X m a c = (e9D (a4T (a4T (a4T (a4T m.ac a (b5C c)) a (a9Q c)) a (c9K c)) a (c1H c)) a).2:=by unfold c2X; rw [e4]
 have d5:=g2N (a4T (a4T (a4T (a4T m.ac a (b5C c)) a (a9Q c)) a (c9K c)) a (c1H c)) a
 rw [← e5] at d5
 have hbb:=e1K m.ac a
 refine ⟨?_,?_,?_,?_,by omega,by omega⟩
 ·
  rw [e4]
  show (U.of (m.v.1.val + (c9K c).val)).val = _
  exact U.val_of (by omega)
 ·
  rw [e4]
  show (U.of (m.v.2.1.val + (a9Q c).val)).val = _
  exact U.val_of (by omega)
 ·
  rw [e4]
  show (U.of (m.v.2.2.1.val + (b5C c).val)).val = _
  exact U.val_of (by omega)
 ·
  rw [e4]
  show (U.of (m.v.2.2.2.1.val + (c1H c).val)).val = _
  exact U.val_of (by omega)
noncomputable def f8R (r:Rcp) (T:Nat→Nat):Nat→Nat:=if (c2S r).val = 0 then up (up (up (up (up T 1 (e3S r)) 3 (b5C (c3U r)).val) 4 (a9Q (c3U r)).val) 5 (c9K (c3U r)).val) 6 (c1H (c3U r)).val else T
theorem c2A {T:Nat→Nat} (a b c d e:Nat) (i:Nat):up (up (up (up (up T 1 a) 3 b) 4 c) 5 d) 6 e i = T i + (if i = 1 then a else 0) + (if i = 3 then b else 0) + (if i = 4 then c else 0) + (if i = 5 then d else 0) + (if i = 6 then e else 0):=by
 unfold up
 repeat' split
 all_goals omega
theorem f9Y {l:List Ac} {a b:I .u64} {n:U} (ht:c0O l < U.top):c0O (e9C l a b n).2 = c0O l:=by
 unfold e9C
 split
 ·
  rfl
 ·
  by_cases h:b0G l a n = true
  ·
   rw [if_pos h]
   have d:=c1X (l:=l) (a:=a) (n:=n) (of_decide_eq_true h)
   show c0O (b7H (a4T l a n) b n) = _
   rw [d5O (by omega)]
   omega
  ·
   rw [if_neg h]
   show c0O (a4T l a n) = _
   unfold a4T
   rw [if_neg (fun hh=>h (decide_eq_true hh))]
theorem g6C {n:Nat} {m:MS} {T:Nat→Nat} (h:RInv n m T) (hn:n ≤ 1000) (t:Txn):RInv (n + 1) (txS m t).2 (f8R (txS m t).1 T):=by
 have hsm:=h.small hn
 have hE:1000 * E60 + 1000 * E60 < U.top:=by decide
 have hE8:1000 * E60 ≤ E80:=by decide
 unfold txS
 by_cases h1:I.neb (b9X m t).2 (I.of .i64 0) = true
 ·
  rw [if_pos h1]
  have:(c2S (d4C (b9X m t).2)).val ≠ 0:=iff_neb.1 h1
  unfold f8R; rw [if_neg this]; exact h.up1
 rw [if_neg h1]
 by_cases h2:I.neb (a4P m t).2 (I.of .i64 0) = true
 ·
  rw [if_pos h2]
  have:(c2S (d4C (a4P m t).2)).val ≠ 0:=iff_neb.1 h2
  unfold f8R; rw [if_neg this]; exact h.up1
 rw [if_neg h2]
 by_cases h3:I.neb (a4H m.pr (c0W (a4P m t).1)).2 (I.of .i64 0) = true
 ·
  rw [if_pos h3]
  have:(c2S (d4C (I.of .i64 4))).val ≠ 0:=by decide
  unfold f8R; rw [if_neg this]; exact h.up1
 rw [if_neg h3]
 have h1:I.neb (b9X m t).2 (I.of .i64 0) = false:=by simpa using h1
 have h2:I.neb (a4P m t).2 (I.of .i64 0) = false:=by simpa using h2
 have h3:I.neb (a4H m.pr (c0W (a4P m t).1)).2 (I.of .i64 0) = false:=by simpa using h3
 obtain ⟨ha,hb,hcov⟩:=g3O h1
 have hfs:(b5C (a4P m t).1).val + (a9Q (a4P m t).1).val + (c9K (a4P m t).1).val + (c1H (a4P m t).1).val ≤ (e3W t).nat * (d2A (d7F t,d6V t) (d4A m.bk)).1.val:=g0J h2
 obtain ⟨hpv,hpp⟩:=f7U (niff_neb.1 h3)
 generalize hq:(a4H m.pr (c0W (a4P m t).1)).1 = q at hpv hpp
 generalize hc:(a4P m t).1 = c at hfs
 have hsup:=h.sup
 have hvn:e5N m.v = m.v.1.val + m.v.2.1.val + m.v.2.2.1.val + m.v.2.2.2.1.val:=rfl
 obtain ⟨f0,f1,f2,f3,f4,f5⟩:=f6D (m:=m) (a:=a2I t) (c:=c) ha (by omega) (by omega)
 have hbl:=e1K m.ac (a2I t)
 have hvn':e5N (c0B m (a2I t) c).2.1 = (c0B m (a2I t) c).2.1.1.val + (c0B m (a2I t) c).2.1.2.1.val + (c0B m (a2I t) c).2.1.2.2.1.val + (c0B m (a2I t) c).2.1.2.2.2.1.val:=rfl
 have hn1:(n + 1) * E60 = n * E60 + E60:=Nat.succ_mul _ _
 have hn2:(n + 1) * E80 = n * E80 + E80:=Nat.succ_mul _ _
 have k0:=h.v0
 have k1:=h.v1
 have k2:=h.v2
 have k3:=h.v3
 have k4:=h.b0
 have k5:=h.b3
 have fin:∀ (x:MS) (r:Rcp),x.v = (c0B m (a2I t) c).2.1→x.bal = m.bal→x.pr = q→c2S r = I.of .i64 0→c3U r = c→c0O x.ac + e3S r = c0O (c2X m (a2I t) c)→tot mAm x.ms = tot mAm m.ms + e3S r→RInv (n + 1) x (f8R r T):=by
  intro x r hv hbal hpr hcode hchg hac hms
  unfold f8R
  rw [if_pos (by rw [hcode]; rfl),hchg]
  refine ⟨?_,?_,?_,?_,?_,?_,?_,?_,?_,?_,?_⟩
  ·
   rw [c2A,c2A,hv,hvn']; simp; omega
  ·
   rw [c2A,hv]; simp; omega
  ·
   rw [c2A,hv]; simp; omega
  ·
   rw [c2A,c2A,hv]; simp; omega
  ·
   rw [c2A,hv]; simp; omega
  ·
   rw [c2A,c2A,hbal]; simp; exact h.esc
  ·
   rw [c2A,hms,h.msg]; simp
  ·
   rw [hpr]; exact hpv
  ·
   rw [c2A,hpr,hpp]; simp; exact h.paid
  ·
   rw [c2A]; simp; omega
  ·
   rw [c2A]; simp; omega
 by_cases g1:cOut c = true
 ·
  rw [if_pos g1]
  exact fin _ _ rfl rfl rfl rfl rfl (by rw [b3Y]; rfl) (by rw [b3Y]; rfl)
 rw [if_neg g1]
 by_cases g2:I.eqb (tTo t) (a2I t) = true
 ·
  rw [if_pos g2]
  exact fin _ _ rfl rfl rfl rfl rfl (by rw [b3Y]; rfl) (by rw [b3Y]; rfl)
 rw [if_neg g2]
 unfold g4B
 by_cases g3:I.neb (tTo t) (I.of .u64 18446744073709551615) = true
 ·
  rw [if_pos g3]
  refine fin _ _ rfl rfl rfl rfl rfl ?_ (by rw [b3Y]; rfl)
  rw [b3Y]
  show c0O (e9C (c2X m (a2I t) c) (a2I t) (tTo t) (c5F t)).2 + 0 = _
  rw [f9Y (by omega)]
  rfl
 rw [if_neg g3]
 by_cases g4:(c5F t).val = 0
 ·
  rw [if_pos g4]
  exact fin _ _ rfl rfl rfl rfl rfl (by rw [b3Y]; rfl) (by rw [b3Y]; rfl)
 rw [if_neg g4]
 have hd:=c1X (l:=c2X m (a2I t) c) (a:=a2I t) (n:=c5F t) (by omega)
 refine fin _ _ rfl rfl rfl rfl rfl ?_ ?_
 ·
  rw [b3Y]
  show c0O (e1L (c2X m (a2I t) c) (a2I t) (c5F t)).2 + ((c5F t).val + 0) = _
  unfold e1L
  rw [if_neg ha]
  show c0O (a4T (c2X m (a2I t) c) (a2I t) (c5F t)) + _ = _
  omega
 ·
  rw [b3Y]
  show tot mAm (m.ms ++ [_]) = _
  rw [c8Y]
  rfl
end Sym

/- Audit: reports, deposits and claims keep the sums; so does a run. -/
namespace Sym
open Go
theorem e4V:∀ (l:List Pay) (s:MS × List Msg),a9O (l.map amt) ≤ s.1.v.2.2.1.val →
  (l.foldl b0J s).1.v.2.2.1.val + a9O (l.map amt) = s.1.v.2.2.1.val∧(l.foldl b0J s).1.v.1 = s.1.v.1∧(l.foldl b0J s).1.v.2.1 = s.1.v.2.1∧(l.foldl b0J s).1.v.2.2.2.1 = s.1.v.2.2.2.1 ∧
  (l.foldl b0J s).1.ac = s.1.ac∧(l.foldl b0J s).1.bal = s.1.bal∧(l.foldl b0J s).1.pr = s.1.pr∧tot mAm (l.foldl b0J s).1.ms = tot mAm s.1.ms + a9O (l.map amt)∧tot mAm (l.foldl b0J s).2 = tot mAm s.2 + a9O (l.map amt)
 | [],s,_=>⟨rfl,rfl,rfl,rfl,rfl,rfl,rfl,rfl,rfl⟩
 | q :: l,s,h=>by
  rw [c7Z] at h ⊢
  have hw:e1Y s.1.v 2 q.2.1 = (I.of .i64 0,f9M s.1.v 2 (U.of ((d4W s.1.v 2).val - q.2.1.val))):=by
   unfold e1Y
   exact if_pos (show q.2.1.val ≤ s.1.v.2.2.1.val by omega)
  have hv2:(b0J s q).1.v.2.2.1.val = s.1.v.2.2.1.val - q.2.1.val:=by
   show (e1Y s.1.v 2 q.2.1).2.2.2.1.val = _
   rw [hw]
   show (U.of (s.1.v.2.2.1.val - q.2.1.val)).val = _
   exact U.val_of (by have:=U.lt s.1.v.2.2.1; omega)
  have h0:(b0J s q).1.v.1 = s.1.v.1:=by show (e1Y s.1.v 2 q.2.1).2.1 = _; rw [hw]; rfl
  have h1:(b0J s q).1.v.2.1 = s.1.v.2.1:=by show (e1Y s.1.v 2 q.2.1).2.2.1 = _; rw [hw]; rfl
  have h3:(b0J s q).1.v.2.2.2.1 = s.1.v.2.2.2.1:=by show (e1Y s.1.v 2 q.2.1).2.2.2.2.1 = _; rw [hw]; rfl
  have hm:tot mAm (b0J s q).1.ms = tot mAm s.1.ms + q.2.1.val:=by
   show tot mAm (s.1.ms ++ [_]) = _
   rw [c8Y]
   rfl
  have hm2:tot mAm (b0J s q).2 = tot mAm s.2 + q.2.1.val:=by
   show tot mAm (s.2 ++ [_]) = _
   rw [c8Y]
   rfl
  obtain ⟨a1,a2,a3,a4,a5,a6,a7,a8,a9⟩:=e4V l (b0J s q) (by omega)
  rw [List.foldl_cons]
  exact ⟨by omega,a2.trans h0,a3.trans h1,a4.trans h3,a5,a6,a7,by omega,by omega⟩
noncomputable def g6G (r:Rcp) (T:Nat→Nat):Nat→Nat:=if (c2S r).val = 0 then up (up T 1 (e3S r)) 7 (f2R r).val else T
theorem c1Y {T:Nat→Nat} (a b:Nat) (i:Nat):up (up T 1 a) 7 b i = T i + (if i = 1 then a else 0) + (if i = 7 then b else 0):=by
 unfold up
 repeat' split
 all_goals omega
theorem g1R {n:Nat} {m:MS} {T:Nat→Nat} (h:RInv n m T) (hn:n ≤ 1000) (r:RepT):RInv (n + 1) (d8T m r).2 (g6G (d8T m r).1 T):=by
 unfold d8T
 by_cases h1:I.neb (c5R m r).2.2 (I.of .i64 0) = true
 ·
  rw [if_pos h1]
  have:(c2S (d4C (c5R m r).2.2)).val ≠ 0:=iff_neb.1 h1
  unfold g6G; rw [if_neg this]; exact h.up1
 rw [if_neg h1]
 have h1:I.neb (c5R m r).2.2 (I.of .i64 0) = false:=by simpa using h1
 have hR:=f8S (s:=m.pr) (p:=m.pm) (pool:=d4W m.v 2) (r:=r) (now:=m.bk.2.1) (niff_neb.1 h1)
 obtain ⟨p1,p2⟩:=f4T hR
 have hpv:=f1F hR
 have p1:tot b5B (c5R m r).1.posters = tot b5B m.pr.posters + a9O ((c0A m r).map amt):=p1
 have p2:a9O ((c0A m r).map amt) ≤ m.v.2.2.1.val:=p2
 have hpv:prV (c5R m r).1 = true:=hpv
 obtain ⟨a1,a2,a3,a4,a5,a6,a7,a8,a9⟩:=e4V (c0A m r) ({ m with pr:=(c5R m r).1 },[]) p2
 have hS:a9O ((c0A m r).map amt) < U.top:=by have:=U.lt m.v.2.2.1; omega
 generalize hSS:a9O ((c0A m r).map amt) = S at *
 have ha8:tot mAm (d3X m r).1.ms = tot mAm m.ms + S:=a8
 have ha9:tot mAm (d3X m r).2 = S:=by
  have:tot mAm (d3X m r).2 = tot mAm [] + S:=a9
  rw [this]; simp [tot]
 have ha1:(d3X m r).1.v.2.2.1.val + S = m.v.2.2.1.val:=a1
 have ha2:(d3X m r).1.v.1 = m.v.1:=a2
 have ha3:(d3X m r).1.v.2.1 = m.v.2.1:=a3
 have ha4:(d3X m r).1.v.2.2.2.1 = m.v.2.2.2.1:=a4
 have ha5:(d3X m r).1.ac = m.ac:=a5
 have ha6:(d3X m r).1.bal = m.bal:=a6
 have ha7:(d3X m r).1.pr = (c5R m r).1:=a7
 have hm:e3S (g7I (c5R m r).2.1 (c3X S).1 (d3X m r).2) = S:=by rw [b3Y]; exact ha9
 have hp:(f2R (g7I (c5R m r).2.1 (c3X S).1 (d3X m r).2)).val = S:=by
  show (c3X S).1.val = S
  rw [c3Y hS]
  exact U.val_of hS
 unfold g6G
 rw [if_pos (show (c2S (g7I (c5R m r).2.1 (c3X S).1 (d3X m r).2)).val = 0 from rfl),hm,hp]
 have hn1:(n + 1) * E60 = n * E60 + E60:=Nat.succ_mul _ _
 have hn2:(n + 1) * E80 = n * E80 + E80:=Nat.succ_mul _ _
 have hsup:=h.sup
 have hvn:e5N m.v = m.v.1.val + m.v.2.1.val + m.v.2.2.1.val + m.v.2.2.2.1.val:=rfl
 have hvn':e5N (d3X m r).1.v = (d3X m r).1.v.1.val + (d3X m r).1.v.2.1.val + (d3X m r).1.v.2.2.1.val + (d3X m r).1.v.2.2.2.1.val:=rfl
 rw [ha2,ha3,ha4] at hvn'
 have k2:=h.v2
 have k4:=h.b0
 have k5:=h.b3
 refine ⟨?_,?_,?_,?_,?_,?_,?_,?_,?_,?_,?_⟩
 ·
  rw [c1Y,c1Y,ha5]; simp; omega
 ·
  rw [c1Y,ha2]; simp; exact h.v0
 ·
  rw [c1Y,ha3]; simp; exact h.v1
 ·
  rw [c1Y,c1Y]; simp; omega
 ·
  rw [c1Y,ha4]; simp; exact h.v3
 ·
  rw [c1Y,c1Y,ha6]; simp; exact h.esc
 ·
  rw [c1Y,ha8,h.msg]; simp
 ·
  rw [ha7]; exact hpv
 ·
  rw [c1Y,ha7,p1,h.paid]; simp
 ·
  rw [c1Y]; simp; omega
 ·
  rw [c1Y]; simp; omega
theorem g3M (T:Nat→Nat) (j:Nat):up T j 0 = T:=by
 funext i
 unfold up
 split <;> rfl
theorem g1K (b:U) (r:List Hs) (cl:List (I .u64)) (ba:List Pay) (c:Clm):((c4D b r cl ba c).1.val = 0→(c4D b r cl ba c).2.1.val + (c6S c).val = b.val)∧((c4D b r cl ba c).1.val ≠ 0→(c4D b r cl ba c).2.1 = b):=by
 unfold c4D
 split
 ·
  exact ⟨fun h=>absurd (show (I.of .i64 2).val = 0 from h) (by decide),fun _=>rfl⟩
 split
 ·
  exact ⟨fun h=>absurd (show (I.of .i64 8).val = 0 from h) (by decide),fun _=>rfl⟩
 split
 ·
  exact ⟨fun h=>absurd (show (I.of .i64 9).val = 0 from h) (by decide),fun _=>rfl⟩
 split
 ·
  exact ⟨fun h=>absurd (show (I.of .i64 16).val = 0 from h) (by decide),fun _=>rfl⟩
 split
 ·
  exact ⟨fun h=>absurd (show (I.of .i64 10).val = 0 from h) (by decide),fun _=>rfl⟩
 split
 ·
  rename_i h5 h6
  refine ⟨fun _=>?_,fun h=>absurd rfl h⟩
  show (U.of (b.val - (c6S c).val)).val + _ = _
  rw [U.val_of (by have:=U.lt b; omega)]
  omega
 ·
  exact ⟨fun h=>absurd (show (I.of .i64 4).val = 0 from h) (by decide),fun _=>rfl⟩
noncomputable def e0D (s:b6Q) (e:I .i64) (T:Nat→Nat):Nat→Nat:=if e.val = 0 then (if (a2P s).val = 6 then up T 0 (c1J s).val else if (a2P s).val = 7 then up T 2 (c6S (d3J s)).val else T) else T
theorem g2V {n:Nat} {m:MS} {T:Nat→Nat} (h:RInv n m T) (hn:n ≤ 1000) (s:b6Q) (hk:3 ≤ (a2P s).val∧(a2P s).val ≤ 7) (hd:I.eqb (a2P s) (I.of .i64 6) = true→(c1J s).val < E60):RInv (n + 1) (d9S m s).2 (e0D s (d9S m s).1 T):=by
 have hu:=h.up1
 have same:∀ (x:MS) (T':Nat→Nat),x.v = m.v→x.ac = m.ac→x.bal = m.bal→x.ms = m.ms→prV x.pr = true→tot b5B x.pr.posters = tot b5B m.pr.posters→T' = T→RInv (n + 1) x T':=by
  rintro x T' e1 e2 e3 e4 e5 e6 rfl
  exact ⟨by rw [e1,e2]; exact hu.sup,by rw [e1]; exact hu.v0,by rw [e1]; exact hu.v1,by rw [e1]; exact hu.v2,by rw [e1]; exact hu.v3,by rw [e3]; exact hu.esc,by rw [e4]; exact hu.msg,e5,by rw [e6]; exact hu.paid,hu.b0,hu.b3⟩
 have c3:(I.of .i64 3).val = 3:=rfl
 have c4:(I.of .i64 4).val = 4:=rfl
 have c5:(I.of .i64 5).val = 5:=rfl
 have c6:(I.of .i64 6).val = 6:=rfl
 have aT:∀ e:I .i64,(a2P s).val ≠ 6→(a2P s).val ≠ 7→e0D s e T = T:=by
  intro e g1 g2
  unfold e0D
  rw [if_neg g1,if_neg g2]
  split <;> rfl
 unfold d9S
 by_cases k3:I.eqb (a2P s) (I.of .i64 3) = true
 ·
  have q:=iff_eqb.1 k3
  rw [if_pos k3]
  split
  ·
   exact same _ _ rfl rfl rfl rfl h.prv rfl (aT _ (by omega) (by omega))
  ·
   exact same _ _ rfl rfl rfl rfl h.prv rfl (aT _ (by omega) (by omega))
 rw [if_neg k3]
 by_cases k4:I.eqb (a2P s) (I.of .i64 4) = true
 ·
  have q:=iff_eqb.1 k4
  rw [if_pos k4]
  split
  ·
   exact same _ _ rfl rfl rfl rfl h.prv rfl (aT _ (by omega) (by omega))
  ·
   exact same _ _ rfl rfl rfl rfl h.prv rfl (aT _ (by omega) (by omega))
 rw [if_neg k4]
 by_cases k5:I.eqb (a2P s) (I.of .i64 5) = true
 ·
  have q:=iff_eqb.1 k5
  rw [if_pos k5]
  split
  ·
   rename_i g
   obtain ⟨i1,i2⟩:=f5E (s:=m.pr) (a:=c6V s) (iff_eqb.1 g)
   exact same _ _ rfl rfl rfl rfl i1 i2 (aT _ (by omega) (by omega))
  ·
   exact same _ _ rfl rfl rfl rfl h.prv rfl (aT _ (by omega) (by omega))
 rw [if_neg k5]
 by_cases k6:I.eqb (a2P s) (I.of .i64 6) = true
 ·
  have q:=iff_eqb.1 k6
  rw [if_pos k6]
  have hamt:=hd k6
  by_cases g1:(c6V s).val = 0 ∨ (c6V s).val = 18446744073709551615 ∨ (c1J s).val = 0
  ·
   rw [if_pos g1]
   have:e0D s (I.of .i64 2) T = T:=by unfold e0D; rw [if_neg (by decide)]
   show RInv (n + 1) m (e0D s (I.of .i64 2) T)
   rw [this]; exact hu
  rw [if_neg g1]
  have hsm:=h.small hn
  have hE:1000 * E60 + 1000 * E60 < U.top:=by decide
  have hE2:E60 ≤ 1000 * E60:=by decide
  have hesc:=h.esc
  have hsup:=h.sup
  rw [if_pos (show m.bal.val + (c1J s).val < U.top by omega)]
  have hmint:c6F m.v m.ac (c6V s) (c1J s) = (I.of .i64 0,m.v,b7H m.ac (c6V s) (c1J s)):=by
   unfold c6F
   rw [if_neg (fun hh=>g1 (.inl hh)),if_pos (by omega)]
  have hdep:f8X m.bal (c1J s) = (I.of .i64 0,U.of (m.bal.val + (c1J s).val)):=by
   unfold f8X
   rw [if_neg (fun hh=>g1 (.inr (.inr hh))),if_pos (by omega)]
  have hcr:=d5O (l:=m.ac) (a:=c6V s) (n:=c1J s) (by omega)
  have hn1:(n + 1) * E60 = n * E60 + E60:=Nat.succ_mul _ _
  rw [hmint,hdep]
  show RInv (n + 1) { m with bal:=U.of (m.bal.val + (c1J s).val),v:=m.v,ac:=b7H m.ac (c6V s) (c1J s) } (e0D s (I.of .i64 0) T)
  have hT:e0D s (I.of .i64 0) T = up T 0 (c1J s).val:=by
   unfold e0D
   rw [if_pos (by decide),if_pos (by omega)]
  rw [hT]
  have hv:=U.val_of (n:=m.bal.val + (c1J s).val) (by omega)
  have k4':=h.b0
  refine ⟨?_,by rw [a3U T _ (by decide)]; exact hu.v0,by rw [a3U T _ (by decide)]; exact hu.v1,by rw [a3U T _ (by decide),a3U T _ (by decide)]; exact hu.v2,by rw [a3U T _ (by decide)]; exact hu.v3,?_,by rw [a3U T _ (by decide)]; exact hu.msg,hu.prv,by rw [a3U T _ (by decide)]; exact hu.paid,?_,by rw [a3U T _ (by decide)]; exact hu.b3⟩
  ·
   rw [a3U T _ (by decide),a9P]
   show c0O (b7H m.ac (c6V s) (c1J s)) + e5N m.v + T 1 = _
   omega
  ·
   rw [a3U T _ (by decide),a9P]
   show (U.of (m.bal.val + (c1J s).val)).val + T 2 = _
   omega
  ·
   rw [a9P]; omega
 rw [if_neg k6]
 have q:(a2P s).val = 7:=by
  have:=niff_eqb.1 (Bool.eq_false_iff.2 k3)
  have:=niff_eqb.1 (Bool.eq_false_iff.2 k4)
  have:=niff_eqb.1 (Bool.eq_false_iff.2 k5)
  have:=niff_eqb.1 (Bool.eq_false_iff.2 k6)
  omega
 obtain ⟨b1,b2⟩:=g1K m.bal m.rt m.cl m.ba (d3J s)
 by_cases g:(c4D m.bal m.rt m.cl m.ba (d3J s)).1.val = 0
 ·
  have hb:=b1 g
  have hT:e0D s (c4D m.bal m.rt m.cl m.ba (d3J s)).1 T = up T 2 (c6S (d3J s)).val:=by
   unfold e0D
   rw [if_pos g,if_neg (by omega),if_pos q]
  show RInv (n + 1) _ (e0D s (c4D m.bal m.rt m.cl m.ba (d3J s)).1 T)
  rw [hT]
  have hesc:=h.esc
  refine ⟨by rw [a3U T _ (by decide),a3U T _ (by decide)]; exact hu.sup,by rw [a3U T _ (by decide)]; exact hu.v0,by rw [a3U T _ (by decide)]; exact hu.v1,by rw [a3U T _ (by decide),a3U T _ (by decide)]; exact hu.v2,by rw [a3U T _ (by decide)]; exact hu.v3,?_,by rw [a3U T _ (by decide)]; exact hu.msg,hu.prv,by rw [a3U T _ (by decide)]; exact hu.paid,by rw [a3U T _ (by decide)]; exact hu.b0,by rw [a3U T _ (by decide)]; exact hu.b3⟩
  rw [a9P,a3U T _ (by decide)]
  show (c4D m.bal m.rt m.cl m.ba (d3J s)).2.1.val + _ = _
  omega
 ·
  have hb:=b2 g
  have hT:e0D s (c4D m.bal m.rt m.cl m.ba (d3J s)).1 T = T:=by
   unfold e0D
   rw [if_neg g]
  show RInv (n + 1) _ (e0D s (c4D m.bal m.rt m.cl m.ba (d3J s)).1 T)
  exact same _ _ rfl rfl hb rfl h.prv rfl hT
end Sym

/- Audit: runs are consistent. -/
namespace Sym
open Go
theorem g0Y {n:Nat} {m:MS} {T:Nat→Nat} (h:RInv n m T):RInv n (c1K m) T:=by
 unfold c1K
 split
 ·
  exact ⟨h.sup,h.v0,h.v1,h.v2,h.v3,h.esc,h.msg,h.prv,h.paid,h.b0,h.b3⟩
 ·
  exact h
theorem g3L {n:Nat} {m:MS} {T:Nat→Nat} (h:RInv n m T) (hn:n ≤ 1000) (s:b6Q) (hd:I.eqb (a2P s) (I.of .i64 6) = true→(c1J s).val < E60):RInv (n + 1) (d0I m s).2 (d5A s (d0I m s).1 T)∧((c2S (d0I m s).1).val = 0→(e9A (d0I m s).1).val = (a2P s).val):=by
 have ht:=g0Y h
 unfold d0I
 by_cases k0:¬ (1 ≤ (a2P s).val∧(a2P s).val ≤ 7)
 ·
  rw [if_pos k0]
  have hc:(c2S (d4C (I.of .i64 17))).val ≠ 0:=by decide
  refine ⟨?_,fun g=>absurd g hc⟩
  show RInv (n + 1) (c1K m) (d5A s (d4C (I.of .i64 17)) T)
  unfold d5A
  rw [if_neg hc]
  exact ht.up1
 rw [if_neg k0]
 have k0:1 ≤ (a2P s).val∧(a2P s).val ≤ 7:=Classical.not_not.1 k0
 have c1:(I.of .i64 1).val = 1:=rfl
 have c2:(I.of .i64 2).val = 2:=rfl
 by_cases k1:I.eqb (a2P s) (I.of .i64 1) = true
 ·
  have q:=iff_eqb.1 k1
  rw [if_pos k1]
  refine ⟨?_,fun _=>rfl⟩
  have e:d5A s (c7I (a2P s) (txS (c1K m) (sTx s)).1) T = f8R (txS (c1K m) (sTx s)).1 T:=by
   generalize (txS (c1K m) (sTx s)).1 = r
   unfold d5A f8R
   show (if (c2S r).val = 0 then f4G (a2P s) s (c7I (a2P s) r) (up T 1 (e3S r)) else T) = _
   unfold f4G
   rw [if_pos (show (a2P s).val = 1 by omega)]
   rfl
  show RInv (n + 1) (txS (c1K m) (sTx s)).2 (d5A s (c7I (a2P s) (txS (c1K m) (sTx s)).1) T)
  rw [e]
  exact g6C ht hn _
 rw [if_neg k1]
 by_cases k2:I.eqb (a2P s) (I.of .i64 2) = true
 ·
  have q:=iff_eqb.1 k2
  rw [if_pos k2]
  refine ⟨?_,fun _=>rfl⟩
  have e:d5A s (c7I (a2P s) (d8T (c1K m) (f7A s)).1) T = g6G (d8T (c1K m) (f7A s)).1 T:=by
   generalize (d8T (c1K m) (f7A s)).1 = r
   unfold d5A g6G
   show (if (c2S r).val = 0 then f4G (a2P s) s (c7I (a2P s) r) (up T 1 (e3S r)) else T) = _
   unfold f4G
   rw [if_neg (show ¬ (a2P s).val = 1 by omega),if_pos (show (a2P s).val = 2 by omega)]
   rfl
  show RInv (n + 1) (d8T (c1K m) (f7A s)).2 (d5A s (c7I (a2P s) (d8T (c1K m) (f7A s)).1) T)
  rw [e]
  exact g1R ht hn _
 rw [if_neg k2]
 have n1:=niff_eqb.1 (Bool.eq_false_iff.2 k1)
 have n2:=niff_eqb.1 (Bool.eq_false_iff.2 k2)
 refine ⟨?_,fun _=>rfl⟩
 have e:d5A s (c7I (a2P s) (d4C (d9S (c1K m) s).1)) T = e0D s (d9S (c1K m) s).1 T:=by
  generalize (d9S (c1K m) s).1 = c
  have hm:e3S (c7I (a2P s) (d4C c)) = 0:=by rw [b3Y]; rfl
  unfold d5A e0D
  show (if c.val = 0 then f4G (a2P s) s (c7I (a2P s) (d4C c)) (up T 1 (e3S (c7I (a2P s) (d4C c)))) else T) = _
  rw [hm,g3M]
  unfold f4G
  rw [if_neg (show ¬ (a2P s).val = 1 by omega),if_neg (show ¬ (a2P s).val = 2 by omega)]
 show RInv (n + 1) (d9S (c1K m) s).2 (d5A s (c7I (a2P s) (d4C (d9S (c1K m) s).1)) T)
 rw [e]
 exact g2V ht hn s ⟨by omega,k0.2⟩ hd
theorem e5A (l l':List b6Q) (r r':List Rcp):∀ i,i ≤ l.length→i ≤ r.length→c6U (l ++ l') (r ++ r') i = c6U l r i
 | 0,_,_=>rfl
 | i + 1,h1,h2=>by
  show d5A _ _ (c6U _ _ i) = d5A _ _ (c6U _ _ i)
  rw [e5A l l' r r' i (by omega) (by omega),c3B,c3B,if_pos (by omega),if_pos (by omega)]
theorem f6V:RInv 0 ms0 (fun _=>0):=by
 refine ⟨rfl,rfl,rfl,rfl,rfl,rfl,rfl,?_,rfl,Nat.zero_le _,Nat.zero_le _⟩
 refine prV_t.2 ⟨fun p hp=>(by cases hp),⟨Nat.zero_le _,fun i hi=>absurd hi (Nat.not_lt_zero i)⟩,?_⟩
 rfl
theorem f1O:∀ (k:Nat) (l:List b6Q),l.length = k→k ≤ 1000→(∀ s ∈ l,I.eqb (a2P s) (I.of .i64 6) = true→(c1J s).val < E60) →
  RInv k (c6T ms0 l).1 (c6U l (c6T ms0 l).2 k)∧∀ i,i < k→e8Y l (c6T ms0 l).2 i
 | 0,l,hl,_,_=>by
  have:l = []:=List.eq_nil_of_length_eq_zero hl
  subst this
  exact ⟨f6V,fun i hi=>absurd hi (Nat.not_lt_zero i)⟩
 | k + 1,l,hl,hk,hd=>by
  obtain ⟨l',x,rfl⟩:∃ l' x,l = l' ++ [x]:=by
   rcases List.eq_nil_or_concat l with h | ⟨l',x,h⟩
   ·
    subst h; cases hl
   ·
    exact ⟨l',x,by simpa using h⟩
  have hl':l'.length = k:=by simpa using hl
  obtain ⟨ih1,ih2⟩:=f1O k l' hl' (by omega) (fun s hs=>hd s (List.mem_append_left _ hs))
  have hrl:=c7G ms0 l'
  rw [hl'] at hrl
  obtain ⟨e1,e2⟩:=g3L ih1 (by omega) x (hd x (by simp))
  rw [c7M]
  show RInv (k + 1) (d0I (c6T ms0 l').1 x).2 (c6U (l' ++ [x]) ((c6T ms0 l').2 ++ [(d0I (c6T ms0 l').1 x).1]) (k + 1))∧∀ i,i < k + 1→e8Y (l' ++ [x]) ((c6T ms0 l').2 ++ [(d0I (c6T ms0 l').1 x).1]) i
  have rx:rdL dS (l' ++ [x]) k = x:=by rw [c3B,if_neg (by omega),hl',Nat.sub_self]; rfl
  have ry:rdL dR ((c6T ms0 l').2 ++ [(d0I (c6T ms0 l').1 x).1]) k = (d0I (c6T ms0 l').1 x).1:=by rw [c3B,if_neg (by omega),hrl,Nat.sub_self]; rfl
  refine ⟨?_,fun i hi=>?_⟩
  ·
   show RInv (k + 1) _ (d5A (rdL dS (l' ++ [x]) k) (rdL dR ((c6T ms0 l').2 ++ [(d0I (c6T ms0 l').1 x).1]) k) (c6U (l' ++ [x]) ((c6T ms0 l').2 ++ [(d0I (c6T ms0 l').1 x).1]) k))
   rw [rx,ry,e5A l' [x] _ _ k (by omega) (by omega)]
   exact e1
  ·
   rcases (by omega:i < k ∨ i = k) with h | rfl
   ·
    have:=ih2 i h
    unfold e8Y at this ⊢
    rw [c3B,c3B,if_pos (by omega),if_pos (by omega)]
    exact this
   ·
    unfold e8Y
    rw [rx,ry]
    exact e2
theorem f1W {k:Nat} {m:MS} {T:Nat→Nat} (h:RInv k m T) (hk:k ≤ 1000):∀ j,j < 8→T j < U.top:=by
 have hE:1000 * E60 < U.top:=by decide
 have hE8:1000 * E80 < U.top:=by decide
 have h0:=h.small hk
 have h3:=Nat.le_trans h.b3 (Nat.mul_le_mul_right E80 hk)
 have a1:=h.sup
 have a2:=h.esc
 have a3:=h.v2
 have a4:=h.v1
 have a5:=h.v0
 have a6:=h.v3
 have b4:=U.lt m.v.2.1
 have b5:=U.lt m.v.1
 have b6:=U.lt m.v.2.2.2.1
 intro j hj
 match j,hj with
 | 0,_=>omega
 | 1,_=>omega
 | 2,_=>omega
 | 3,_=>omega
 | 4,_=>omega
 | 5,_=>omega
 | 6,_=>omega
 | 7,_=>omega
theorem g7C {a:List (I .i64)} {l:List b6Q} {p:MS × List Rcp} (ha:a.length ≤ 900) (hR:RunOk true a.length l p) :
  e7A l p.2 = (e9E (c6U l p.2 l.length),I.of .i64 0)∧RInv l.length p.1 (c6U l p.2 l.length)∧∀ j,j < 8→c6U l p.2 l.length j < U.top:=by
 have hlen:=hR.len
 obtain ⟨h1,h2⟩:=f1O l.length l rfl (by omega) (fun s hs=>(hR.good s hs).dep rfl)
 rw [← hR.run] at h1 h2
 have hs:=f1W h1 (by omega)
 have hl:l.length = p.2.length:=by rw [hR.run,c7G]
 refine ⟨?_,h1,hs⟩
 unfold e7A
 rw [if_neg (by omega),if_pos h2,f8Y]
 rintro ⟨j,hj,hh⟩
 have:=hs j hj
 omega
theorem eqU {a b:U} (h:a.val = b.val):a4S (Ty.eqb a1Q a b) = false:=by
 have:=U.ext h
 subst this
 rw [show Ty.eqb a1Q a a = true from eqb_self' (t:=a1Q) rfl a]
 rfl
theorem f5K {k:Nat} {m:MS} {T:Nat→Nat} (h:RInv k m T) (hs:∀ j,j < 8→T j < U.top) (st:Sta) (ha:tot d3H (f8I st) = c0O m.ac) (hv:d1E st = m.v) (hm:g4C st = m.ms) (he:g8C st = m.bal) (hp:f8J st = m.pr.posters):g5P st (e9E T) = I.of .i64 0:=by
 have t0:=U.val_of (hs 0 (by omega))
 have t1:=U.val_of (hs 1 (by omega))
 have t2:=U.val_of (hs 2 (by omega))
 have t3:=U.val_of (hs 3 (by omega))
 have t4:=U.val_of (hs 4 (by omega))
 have t5:=U.val_of (hs 5 (by omega))
 have t6:=U.val_of (hs 6 (by omega))
 have t7:=U.val_of (hs 7 (by omega))
 have e1:h0O st (e9E T) = true:=by
  refine decide_eq_true ?_
  rw [ha,hv]
  show c0O m.ac + f5R m.v + (U.of (T 1)).val = (U.of (T 0)).val
  have:f5R m.v = e5N m.v:=rfl
  rw [t1,t0,this]
  exact h.sup
 have e2:e9F st (e9E T) = false:=by
  unfold e9F
  rw [hv]
  refine Bool.or_eq_false_iff.2 ⟨eqU (b:=U.of (T 5)) (by rw [t5]; exact h.v0),Bool.or_eq_false_iff.2 ⟨eqU (b:=U.of (T 4)) (by rw [t4]; exact h.v1),Bool.or_eq_false_iff.2 ⟨eqU (b:=U.of (T 6)) (by rw [t6]; exact h.v3),?_⟩⟩⟩
  have hh:m.v.2.2.1.val + (U.of (T 7)).val = (U.of (T 3)).val:=by rw [t7,t3]; exact h.v2
  show a4S (decide (m.v.2.2.1.val + (U.of (T 7)).val = (U.of (T 3)).val)) = false
  rw [decide_eq_true hh]
  rfl
 have e3:g7X st (e9E T) = true:=by
  refine decide_eq_true ?_
  rw [he]
  show m.bal.val + (U.of (T 2)).val = (U.of (T 0)).val
  rw [t2,t0]
  exact h.esc
 have e4:g8D st (e9E T) = true:=by
  refine decide_eq_true ?_
  rw [hm]
  show tot mAm m.ms = (U.of (T 1)).val
  rw [t1]
  exact h.msg
 have e5:g6V st = true:=by
  refine decide_eq_true ?_
  rw [hp]
  intro i hi
  exact ((prV_t.1 h.prv).2.1.2 i hi).1.2.1
 have e6:g7W st (e9E T) = true:=by
  refine decide_eq_true ?_
  rw [hp]
  show tot b5B m.pr.posters = (U.of (T 7)).val
  rw [t7]
  exact h.paid
 unfold g5P
 rw [e1,e2,e3,e4,e5,e6]
 rfl
theorem d0A (a:List (I .i64)) (ha:a.length ≤ LIM):a5P K0 ((a,()),()) = some ((true,()),()):=by
 refine Wp.out (T:=fun o=>o = some ((true,()),())) ?_
 unfold a5P
 have hL:LIM = 140737488355328:=rfl
 refine Wp.brn (fun _=>Wp.optF f3E rfl) (fun h=>?_)
 have ha:=g0X (n:=40) ha (by omega) h
 obtain ⟨l,p,hs,hR⟩:=g4Z a true (by omega)
 refine Wp.optF hs ?_
 have hpl:p.2.length = 8 + a.length:=by rw [hR.run,c7G,hR.len]
 have hmr:∀ x ∈ p.2,(b4I x).length ≤ 1000:=fun x hx=>by have:=hR.msgs x hx; omega
 have hTot:=f2E l p.2 (by rw [hR.len]; omega) (by omega) hmr
 obtain ⟨g1,g2,g3⟩:=g7C (by omega) hR
 rw [g1] at hTot
 refine Wp.optF hTot (Wp.brnT rfl ?_)
 have hsz:=hR.sz
 obtain ⟨acc,bs,ba,hst,hacc,hsum,hbs,hba⟩:=f5X p.1 (hsz.mono (by omega))
 refine Wp.optF hst ?_
 have hac:=hsz.ac
 have hms:=hsz.ms
 have hpr:=hsz.pr
 obtain ⟨st,hstd⟩:∃ st:Sta,st = ((stO p.1).1,((stO p.1).2.1,((stO p.1).2.2.1,((stO p.1).2.2.2.1,(((stO p.1).2.2.2.2.1.1,((stO p.1).2.2.2.2.1.2.1,((stO p.1).2.2.2.2.1.2.2.1,((stO p.1).2.2.2.2.1.2.2.2.1,((stO p.1).2.2.2.2.1.2.2.2.2.1,(p.1.pr.posters,(stO p.1).2.2.2.2.1.2.2.2.2.2.2)))))),(acc,((stO p.1).2.2.2.2.2.2.1,(p.1.ms,(bs,((stO p.1).2.2.2.2.2.2.2.2.2.1,(ba,(stO p.1).2.2.2.2.2.2.2.2.2.2.2))))))))))):=⟨_,rfl⟩
 have f1:f8I st = acc:=by rw [hstd]
 have f2:g4C st = p.1.ms:=by rw [hstd]
 have f3:f8J st = p.1.pr.posters:=by rw [hstd]
 have f4:d1E st = p.1.v:=by rw [hstd]; rfl
 have f5:g8C st = p.1.bal:=by rw [hstd]; rfl
 have hf:Few st:=⟨by rw [f1]; omega,by rw [f2]; omega,by rw [f3]; omega⟩
 have hz:=f5K g2 g3 st (by rw [f1]; exact hsum) f4 f2 f5 f3
 have hC:=f1K st (e9E (c6U l p.2 l.length)) hf
 rw [hz,hstd] at hC
 exact Wp.optF hC (Wp.brnT rfl (Wp.optF f3E rfl))
end Sym
