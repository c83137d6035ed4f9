/- The base fee of the reference, blocks, parameters. -/
import Derived.Carry
import Derived.SizedLaws
import Derived.ChangeOld
import Derived.OpenShut
import Derived.Test.YtojogbnepbblgaaGreatPart6
import Derived.Test.YtojogbnepbblgaaGreatPart5
import Derived.Test.YtojogbnepbblgaaGreatPart3
namespace Sym
open Go
theorem d7U {l:List Dg} {a:I .u64} (h:IsB l a.nat):l.length ≤ 1000000:=b3R h (k:=4) (Nat.lt_of_lt_of_le (a3V a) (by decide)) (by decide)
def P40:Nat:=65536 ^ 40
theorem h1X {l:List Dg} {n:Nat} (h:IsB l n) (hn:n < P40):l.length ≤ 900000:=Nat.le_trans (h.len.2 hn) (by decide)
theorem lenK' {l:List Dg} {n:Nat} (h:IsB l n) (hn:n < P40):l.length ≤ 1000000:=Nat.le_trans (h1X h hn) (by decide)
theorem f6O (m n:Nat):I.leb (c0Z m n) (I.of .i64 0) = decide (m ≤ n):=by
 unfold c0Z
 by_cases h:m < n
 ·
  rw [if_pos h,decide_eq_true (by omega)]; rfl
 ·
  rw [if_neg h]
  by_cases h2:n < m
  ·
   rw [if_pos h2,decide_eq_false (by omega)]; rfl
  ·
   rw [if_neg h2,decide_eq_true (by omega)]; rfl
theorem c9I (a b:I .u64):a.nat * b.nat < 65536 ^ 8:=by
 have h1:=a3V a
 have h2:=a3V b
 have:a.nat * b.nat ≤ 18446744073709551616 * 18446744073709551616 - 1:=by
  have:=Nat.mul_le_mul (show a.nat ≤ 18446744073709551615 by omega) (show b.nat ≤ 18446744073709551615 by omega)
  omega
 have e:(65536 ^ 8:Nat) = 18446744073709551616 * 18446744073709551616:=by decide
 omega
theorem f1V (a b c:I .u64):b0A K0 ((a,(b,(c,()))),()) = some ((I.of .u64 ((a.nat - b.nat * c.nat:Nat):Int),()),()):=by
 refine Wp.out (T:=fun o=>o = some ((I.of .u64 ((a.nat - b.nat * c.nat:Nat):Int),()),())) ?_
 unfold b0A
 obtain ⟨r0,e0,B0⟩:=a1P a
 obtain ⟨r1,e1,B1⟩:=a1P b
 obtain ⟨r2,e2,B2⟩:=a1P c
 obtain ⟨r3,e3,B3⟩:=b2O B1 B2 (d7U B1) (d7U B2)
 have h3:=c9I b c
 have l3:=b3R B3 h3 (by decide)
 have e4:=c1M B0 B3 (d7U B0) l3
 refine Wp.optF e0 (Wp.optF e1 (Wp.optF e2 (Wp.optF e3 (Wp.optF e4 ?_))))
 have hc:=f6O a.nat (b.nat * c.nat)
 have ha:=a3V a
 refine Wp.brn (fun h=>?_) (fun h=>?_)
 ·
  have h:I.leb (c0Z a.nat (b.nat * c.nat)) (I.of .i64 0) = true:=h
  rw [hc] at h
  rw [show a.nat - b.nat * c.nat = 0 by have:=of_decide_eq_true h; omega]
  rfl
 ·
  have h:I.leb (c0Z a.nat (b.nat * c.nat)) (I.of .i64 0) = false:=h
  rw [hc] at h
  have h:=of_decide_eq_false h
  obtain ⟨r5,e5,B5⟩:=c6H B0 B3 (by omega) (d7U B0)
  have e6:=c2L B5 (b3R B5 (k:=4) (Nat.lt_of_le_of_lt (Nat.sub_le _ _) (Nat.lt_of_lt_of_le ha (by decide))) (by decide))
  refine Wp.optF e5 (Wp.optF e6 ?_)
  show some (((U.of _).1,()),()) = _
  rw [f2S (by omega)]
def g1O (p:Prm):Prop:=p.1.nat ≠ 0∧p.2.2.1.nat ≠ 0
theorem e0H {p:Prm} (h:a7R p = true):g1O p:=by
 rw [c8F] at h
 have h1:=h 1 (by omega) (by omega)
 have h3:=h 3 (by omega) (by omega)
 have h1:=of_decide_eq_true h1
 have h3:=of_decide_eq_true h3
 replace h1:(I.of .u64 1).nat ≤ (d2K p.1).val∧_:=h1
 replace h3:(I.of .u64 1).nat ≤ (d2K p.2.2.1).val∧_:=h3
 rw [c5B] at h1 h3
 have c1:(I.of .u64 1).nat = 1:=rfl
 constructor <;> omega
def c9F (b:I .u64) (p:Prm):Nat:=min ((b.nat - p.1.nat * p.2.1.nat) * 10000 / (p.2.2.1.nat * p.1.nat)) 200000
theorem e1Z (b:I .u64) (p:Prm):a9B K0 ((b,(p,())),()) = some (((if a7R p = true then I.of .u64 ((c9F b p:Nat):Int) else I.of .u64 0),((if a7R p = true then I.of .i64 0 else I.of .i64 15),())),()):=by
 refine Wp.out (T:=fun o=>o = some (((if a7R p = true then I.of .u64 ((c9F b p:Nat):Int) else I.of .u64 0),((if a7R p = true then I.of .i64 0 else I.of .i64 15),())),())) ?_
 unfold a9B
 refine Wp.optF (b6B p) ?_
 by_cases hv:a7R p = true
 ·
  rw [if_pos hv,if_pos hv]
  refine Wp.brnF (by rw [hv]; rfl) ?_
  have hex:b0Q K0 ((b,(p.1,(p.2.1,()))),()) = some ((I.of .u64 ((b.nat - p.1.nat * p.2.1.nat:Nat):Int),()),()):=by
   refine Wp.out (T:=fun o=>o = some ((I.of .u64 ((b.nat - p.1.nat * p.2.1.nat:Nat):Int),()),())) ?_
   unfold b0Q
   exact Wp.optF (f1V b p.1 p.2.1) rfl
  have hb:=a3V b
  have hxn:(I.of .u64 ((b.nat - p.1.nat * p.2.1.nat:Nat):Int)).nat = b.nat - p.1.nat * p.2.1.nat:=b9F (by omega)
  obtain ⟨r2,e2,B2⟩:=a1P (I.of .u64 ((b.nat - p.1.nat * p.2.1.nat:Nat):Int))
  obtain ⟨r3,e3,B3⟩:=a1P (I.of .u64 10000)
  obtain ⟨r4,e4,B4⟩:=b2O B2 B3 (d7U B2) (d7U B3)
  obtain ⟨r5,e5,B5⟩:=a1P p.2.2.1
  obtain ⟨r6,e6,B6⟩:=a1P p.1
  obtain ⟨r7,e7,B7⟩:=b2O B5 B6 (d7U B5) (d7U B6)
  have h4:=c9I (I.of .u64 ((b.nat - p.1.nat * p.2.1.nat:Nat):Int)) (I.of .u64 10000)
  have h7:=c9I p.2.2.1 p.1
  obtain ⟨s1,s3⟩:=e0H hv
  obtain ⟨q,rr,e8,B8,_⟩:=c4I B4 B7 (Nat.mul_ne_zero s3 s1) (b3R B4 h4 (by decide)) (Nat.le_trans (B7.len.2 h7) (by decide))
  obtain ⟨r9,e9,B9⟩:=a1P (I.of .u64 200000)
  have hq:(I.of .u64 ((b.nat - p.1.nat * p.2.1.nat:Nat):Int)).nat * (I.of .u64 10000).nat / (p.2.2.1.nat * p.1.nat) < 65536 ^ 8:=Nat.lt_of_le_of_lt (Nat.div_le_self _ _) h4
  obtain ⟨y,e10,r10,rfl,B10⟩:=e1R B8 B9 (b3R B8 hq (by decide)) (d7U B9)
  have c1:(I.of .u64 10000).nat = 10000:=rfl
  have c2:(I.of .u64 200000).nat = 200000:=rfl
  rw [hxn,c1,c2] at B10
  have hm:min ((b.nat - p.1.nat * p.2.1.nat) * 10000 / (p.2.2.1.nat * p.1.nat)) 200000 ≤ 200000:=Nat.min_le_right _ _
  have e11:=c2L B10 (b3R B10 (k:=2) (Nat.lt_of_le_of_lt hm (by decide)) (by decide))
  refine Wp.optF hex (Wp.optF e2 (Wp.optF e3 (Wp.optF e4 (Wp.optF e5 (Wp.optF e6 (Wp.optF e7 (Wp.optF e8 (Wp.optF e9 (Wp.optF e10 (Wp.optF e11 ?_))))))))))
  show some (((U.of _).1,_),()) = _
  rw [f2S (by omega)]
  rfl
 ·
  rw [if_neg hv,if_neg hv]
  have hv:a7R p = false:=by cases h:a7R p with | true=>exact absurd h hv | false=>rfl
  exact Wp.brnT (by rw [hv]; rfl) rfl
end Sym

/- The exponential, the base fee, blocks. -/
namespace Sym
open Go
def g6N (x:Nat):Nat→Nat→Nat
 | 0,y=>y
 | k + 1,y=>g6N x k (10000 + y * x / ((k + 1) * 10000))
def f2Z (x b:Nat):Nat:=g6N x b 10000
def pwE (j:Nat):Nat:=2 ^ (20 * (j + 1))
theorem e3I (j:Nat):pwE (j + 1) = pwE j * 1048576:=by
 unfold pwE
 rw [show 20 * (j + 1 + 1) = 20 * (j + 1) + 20 by omega,Nat.pow_add]
theorem f1A (j:Nat):0 < pwE j:=Nat.pow_pos (by decide)
theorem e3Q:∀ (n j:Nat),pwE j ≤ pwE (j + n)
 | 0,_=>Nat.le_refl _
 | n + 1,j=>by
  have h1:=e3Q n j
  have h2:=e3I (j + n)
  have h3:=f1A (j + n)
  rw [← Nat.add_assoc,h2]
  omega
theorem g9K:pwE 20 * 200000 < P40:=by
 decide +kernel
theorem g8B {j:Nat} (h:j ≤ 20):pwE j * 200000 < P40:=by
 have h1:=e3Q (20 - j) j
 rw [show j + (20 - j) = 20 by omega] at h1
 exact Nat.lt_of_le_of_lt (Nat.mul_le_mul_right _ h1) g9K
theorem f0O {y x k j:Nat} (hx:x ≤ 200000) (hy:y < pwE j):10000 + y * x / ((k + 1) * 10000) < pwE (j + 1):=by
 have h1:y * x / ((k + 1) * 10000) ≤ y * x:=Nat.div_le_self _ _
 have h2:y * x ≤ (pwE j - 1) * 200000:=Nat.mul_le_mul (by omega) hx
 have e:=e3I j
 have hp:=f1A j
 generalize pwE j = P at *
 omega
theorem g3X (a:I .u64) (b:Nat) (hb:1 ≤ b) (hb2:b ≤ 20):b5G K0 ((a,(i6 b,())),()) = some ((if a.nat ≤ 200000 then (U.of (f2Z a.nat b)).1 else I.of .u64 0,(if a.nat ≤ 200000 then I.of .i64 0 else I.of .i64 2,())),()):=by
 refine Wp.out (T:=fun o=>o = some ((if a.nat ≤ 200000 then (U.of (f2Z a.nat b)).1 else I.of .u64 0,(if a.nat ≤ 200000 then I.of .i64 0 else I.of .i64 2,())),())) ?_
 unfold b5G
 have c2:(I.of .u64 200000).nat = 200000:=rfl
 refine Wp.jn (fun x=>a.nat ≤ 200000∧x = ((a,(i6 b,())),())) ?_ ?_
 ·
  rintro x ⟨ha,rfl⟩
  rw [if_pos ha,if_pos ha]
  obtain ⟨r1,e1,B1⟩:=a1P (I.of .u64 10000)
  have c1:(I.of .u64 10000).nat = 10000:=rfl
  refine Wp.optF e1 ?_
  refine Wp.iter (fun s=>∃ (k j y:Nat) (r:List Dg),s = ((a,(r,(i6 k,()))),())∧k + j = b∧IsB r y∧y < pwE j∧g6N a.nat k y = f2Z a.nat b) (fun s=>s.1.2.2.1.val.toNat) ?_ ⟨b,0,_,r1,rfl,rfl,B1,by rw [c1]; decide +kernel,by rw [c1]; rfl⟩ (by rw [a6G]; show (i6 b).val.toNat < _; rw [a0V (by omega)]; omega)
  rintro s ⟨k,j,y,r,rfl,hk,hB,hy,he⟩
  have hpw:=g8B (show j ≤ 20 by omega)
  have hyx:y * a.nat < P40:=by
   have h2:y * a.nat ≤ pwE j * 200000:=Nat.mul_le_mul (Nat.le_of_lt hy) ha
   omega
  have hy40:y < P40:=by
   have:pwE j * 1 ≤ pwE j * 200000:=Nat.mul_le_mul_left _ (by decide)
   omega
  refine Wp.brn (fun hc=>?_) (fun hc=>?_)
  ·
   have hc:1 ≤ k:=by have:=iff_leb.1 hc; simp only [a0V (show k < 9223372036854775808 by omega),show (I.of .i64 1).val = 1 from rfl] at this; omega
   obtain ⟨k',rfl⟩:∃ k',k = k' + 1:=⟨k - 1,by omega⟩
   obtain ⟨r3,e3,B3⟩:=a1P a
   obtain ⟨r4,e4,B4⟩:=b2O hB B3 (lenK' hB hy40) (d7U B3)
   have hcv:I.conv .u64 (i6 (k' + 1)) = I.of .u64 ((k' + 1:Nat):Int):=by
    unfold I.conv
    rw [a0V (by omega)]
   have hkn:(I.of .u64 ((k' + 1:Nat):Int)).nat = k' + 1:=b9F (by omega)
   obtain ⟨r5,e5,B5⟩:=a1P (I.of .u64 ((k' + 1:Nat):Int))
   obtain ⟨r7,e7,B7⟩:=b2O B5 B1 (d7U B5) (d7U B1)
   have h7:=c9I (I.of .u64 ((k' + 1:Nat):Int)) (I.of .u64 10000)
   rw [hkn,c1] at B7 h7
   obtain ⟨q,rr,e8,B8,_⟩:=c4I B4 B7 (by omega) (lenK' B4 hyx) (Nat.le_trans (B7.len.2 h7) (by decide))
   have h8:y * a.nat / ((k' + 1) * 10000) < P40:=Nat.lt_of_le_of_lt (Nat.div_le_self _ _) hyx
   obtain ⟨r10,e10,B10⟩:=a9P B1 B8 (d7U B1) (lenK' B8 h8)
   rw [c1] at B10
   have e5':a0J K0 ((I.conv .u64 (i6 (k' + 1)),()),()) = some ((r5,()),()):=by rw [hcv]; exact e5
   refine Wp.optF e3 (Wp.optF e4 (Wp.optF e5' (Wp.optF e1 (Wp.optF e7 (Wp.optF e8 (Wp.optF e1 (Wp.optF e10 ?_)))))))
   have hs:I.sub (i6 (k' + 1)) (I.of .i64 1) = i6 k':=by rw [b4M,b9I (by omega) (by omega)]; rfl
   have he':g6N a.nat k' (10000 + y * a.nat / ((k' + 1) * 10000)) = f2Z a.nat b:=he
   have hst:=f0O (k:=k') ha hy
   generalize 10000 + y * a.nat / ((k' + 1) * 10000) = z at B10 he' hst
   refine Wp.again ⟨k',j + 1,z,r10,by show ((a,(r10,(I.sub (i6 (k' + 1)) (I.of .i64 1),()))),()) = _; rw [hs]; rfl,by omega,B10,hst,he'⟩ (by show (I.sub (i6 (k' + 1)) (I.of .i64 1)).val.toNat < (i6 (k' + 1)).val.toNat; rw [hs,a0V (by omega),a0V (by omega)]; omega)
  ·
   have hc:k = 0:=by have:=niff_leb.1 hc; simp only [a0V (show k < 9223372036854775808 by omega),show (I.of .i64 1).val = 1 from rfl] at this; omega
   subst hc
   have e:=c2L hB (lenK' hB hy40)
   have he:y = f2Z a.nat b:=he
   rw [he] at e
   exact Wp.done (Wp.optF e rfl)
 ·
  intro j hj
  refine Wp.brn (fun h=>?_) (fun h=>?_)
  ·
   have h:(I.of .u64 200000).val < a.val:=iff_ltb.1 h
   have h1:=a2F a
   have h2:(I.of .u64 200000).val = 200000:=rfl
   rw [if_neg (by omega),if_neg (by omega)]
   rfl
  ·
   have h:a.val ≤ (I.of .u64 200000).val:=niff_ltb.1 h
   have h1:=a2F a
   have h2:(I.of .u64 200000).val = 200000:=rfl
   refine Wp.brnF (niff_ltb.2 (by show (I.of .i64 1).val ≤ (i6 b).val; rw [a0V (by omega),show (I.of .i64 1).val = 1 from rfl]; omega)) ?_
   refine Wp.brnF (niff_ltb.2 (by show (i6 b).val ≤ (I.of .i64 20).val; rw [a0V (by omega),show (I.of .i64 20).val = 20 from rfl]; omega)) ?_
   exact hj _ ⟨by omega,rfl⟩
theorem f6L (a:U) (b:I .u64):b3C K0 ((a,(b,())),()) = some (((c5H (a.val * b.nat / 10000)).1,((c5H (a.val * b.nat / 10000)).2,())),()):=by
 refine Wp.out (T:=fun o=>o = some (((c5H (a.val * b.nat / 10000)).1,((c5H (a.val * b.nat / 10000)).2,())),())) ?_
 unfold b3C
 obtain ⟨r0,e0,B0⟩:=a0X a
 obtain ⟨r1,e1,B1⟩:=a1P b
 obtain ⟨r2,e2,B2⟩:=b2O B0 B1 (d3R B0) (d7U B1)
 obtain ⟨r3,e3,B3⟩:=a1P (I.of .u64 10000)
 have c1:(I.of .u64 10000).nat = 10000:=rfl
 have h2:a.val * b.nat < P40:=by
  have h3:a.val * b.nat ≤ U.top * 18446744073709551616:=Nat.mul_le_mul (Nat.le_of_lt (U.lt a)) (Nat.le_of_lt (a3V b))
  exact Nat.lt_of_le_of_lt h3 (by decide +kernel)
 rw [c1] at B3
 obtain ⟨q,rr,e4,B4,_⟩:=c4I B2 B3 (by decide) (lenK' B2 h2) (Nat.le_trans (B3.len.2 (show 10000 < 65536 ^ 1 by decide)) (by decide))
 have e5:=Checked_ok' B4 (lenK' B4 (Nat.lt_of_le_of_lt (Nat.div_le_self _ _) h2))
 exact Wp.optF e0 (Wp.optF e1 (Wp.optF e2 (Wp.optF e3 (Wp.optF e4 (Wp.optF e5 rfl)))))
noncomputable def d1U (b:I .u64) (p:Prm):U × I .i64 :=
 if a7R p = true then c5H (U.val p.2.2.2.1 * (U.of (f2Z (c9F b p) 10)).1.nat / 10000) else (Z_U,I.of .i64 15)
theorem d5O (b:I .u64) (p:Prm):c9F b p ≤ 200000:=Nat.min_le_right _ _
theorem g5D (b:I .u64) (p:Prm):b0Z K0 ((b,(p,())),()) = some (((d1U b p).1,((d1U b p).2,())),()):=by
 refine Wp.out (T:=fun o=>o = some (((d1U b p).1,((d1U b p).2,())),())) ?_
 unfold b0Z d1U
 refine Wp.optF (e1Z b p) ?_
 by_cases hv:a7R p = true
 ·
  rw [if_pos hv,if_pos hv,if_pos hv]
  refine Wp.brnF (show I.neb (I.of .i64 0) (I.of .i64 0) = false by decide) ?_
  have hx:(I.of .u64 ((c9F b p:Nat):Int)).nat = c9F b p:=b9F (by have:=d5O b p; omega)
  have hE:=g3X (I.of .u64 ((c9F b p:Nat):Int)) 10 (by omega) (by omega)
  rw [hx,if_pos (d5O b p),if_pos (d5O b p)] at hE
  have hS:a9S K0 ((p.2.2.2.1,(I.of .u64 ((c9F b p:Nat):Int),(I.of .i64 10,()))),()) = some (((c5H (U.val p.2.2.2.1 * (U.of (f2Z (c9F b p) 10)).1.nat / 10000)).1,((c5H (U.val p.2.2.2.1 * (U.of (f2Z (c9F b p) 10)).1.nat / 10000)).2,())),()):=by
   refine Wp.out (T:=fun o=>o = some (((c5H (U.val p.2.2.2.1 * (U.of (f2Z (c9F b p) 10)).1.nat / 10000)).1,((c5H (U.val p.2.2.2.1 * (U.of (f2Z (c9F b p) 10)).1.nat / 10000)).2,())),())) ?_
   unfold a9S
   exact Wp.optF hE (Wp.brnF (show I.neb (I.of .i64 0) (I.of .i64 0) = false by decide) (Wp.optF (f6L _ _) rfl))
  exact Wp.optF hS rfl
 ·
  rw [if_neg hv,if_neg hv,if_neg hv]
  exact Wp.brnT (show I.neb (I.of .i64 15) (I.of .i64 0) = true by decide) rfl
abbrev f7K:Type:=a5T
noncomputable def c4B (k:f7K) (sec left:I .u64) (p:Prm):f7K × I .i64 :=
 if 1 ≤ sec.val∧sec.val ≤ 1048576 then
  if (d1U left p).2.val ≠ 0 then (a4D,(d1U left p).2)
  else if (I.add k.1 (I.of .u64 1)).val = 0 then (a4D,I.of .i64 4)
  else if (I.add k.2.1 sec).val < k.2.1.val then (a4D,I.of .i64 4)
  else ((I.add k.1 (I.of .u64 1),(I.add k.2.1 sec,(I.of .u64 0,((d1U left p).1,())))),I.of .i64 0)
 else (a4D,I.of .i64 2)
theorem f6Y (k:f7K) (sec left:I .u64) (p:Prm):b2Z K0 ((k,(sec,(left,(p,())))),()) = some (((c4B k sec left p).1,((c4B k sec left p).2,())),()):=by
 refine Wp.out (T:=fun o=>o = some (((c4B k sec left p).1,((c4B k sec left p).2,())),())) ?_
 unfold b2Z c4B
 have c1:(I.of .u64 1).val = 1:=rfl
 have c2:(I.of .u64 1048576).val = 1048576:=rfl
 refine Wp.jn (fun x=>(1 ≤ sec.val∧sec.val ≤ 1048576)∧x = ((sec,(left,())),(k,(p,(a4D,()))))) ?_ ?_
 ·
  rintro x ⟨hs,rfl⟩
  rw [if_pos hs]
  refine Wp.optF (g5D left p) ?_
  refine Wp.brn (fun h=>?_) (fun h=>?_)
  ·
   have h:(d1U left p).2.val ≠ 0:=iff_neb.1 h
   simp only [if_pos h]
   rfl
  ·
   have h:¬ (d1U left p).2.val ≠ 0:=by have h:(d1U left p).2.val = 0:=niff_neb.1 h; omega
   simp only [if_neg h]
   refine Wp.brn (fun h=>?_) (fun h=>?_)
   ·
    rw [if_pos (by have:=iff_eqb.1 h; exact this)]
    rfl
   ·
    rw [if_neg (by have:=niff_eqb.1 h; exact this)]
    refine Wp.brn (fun h=>?_) (fun h=>?_)
    ·
     rw [if_pos (by have:=iff_ltb.1 h; exact this)]
     rfl
    ·
     rw [if_neg (by have:=niff_ltb.1 h; omega)]
     rfl
 ·
  intro j hj
  refine Wp.brn (fun h=>?_) (fun h=>?_)
  ·
   have h:=iff_ltb.1 h
   rw [if_neg (by simp only [c1] at h; omega)]
   rfl
  ·
   have h:=niff_ltb.1 h
   refine Wp.brn (fun h2=>?_) (fun h2=>?_)
   ·
    have h2:=iff_ltb.1 h2
    rw [if_neg (by simp only [c2] at h2; omega)]
    rfl
   ·
    have h2:=niff_ltb.1 h2
    exact hj _ ⟨by simp only [c1,c2] at h h2; omega,rfl⟩
end Sym

/- Hashes and trees of the reference: they end. -/
namespace Sym
open Go
def Tot {Y:Type} (o:Option Y):Prop:=∃ y,o = some y
theorem Wp.tot {R Y:Type} {T:R→Prop} {fail:R} {o:Option Y} {k:Y→R} (ho:Tot o) (h:∀ y,Wp T (k y)):Wp T (Sym.optF fail o k):=by
 obtain ⟨y,rfl⟩:=ho
 exact h y
abbrev Hs:Type:=a0I
theorem b8E {X:Type} (l:List X) (a n:Nat):(a3W l a n).length = min n (l.length - a):=by
 unfold a3W
 rw [List.length_take,List.length_drop]
theorem b3Y (a:I .u32) (b:I .u64):Tot (a2W K0 ((a,(b,())),())):=by
 refine Wp.out (T:=fun o=>Tot o) ?_
 unfold a2W
 exact Wp.brnT (c3B _) (Wp.brnT (c3B _) ⟨_,rfl⟩)
theorem f2M (a:b5S) (b:List (I .u8)) (hb:b.length = 64):Tot (b3B K0 ((a,(b,())),())):=by
 refine Wp.out (T:=fun o=>Tot o) ?_
 unfold b3B
 refine Wp.tot ⟨_,rfl⟩ (fun y0=>?_)
 have m4:∀ i,i < 16→I.mul (I.of .i64 4) (i6 i) = i6 (4 * i):=by
  intro i hi
  apply I.ext'
  rw [c3Q (by rw [a0V (by omega),show (I.of .i64 4).val = 4 from rfl]; omega),a0V (by omega),a0V (by omega),show (I.of .i64 4).val = 4 from rfl]
  omega
 have ad:∀ (i j:Nat),i < 64→j < 64→I.add (i6 i) (I.of .i64 (j:Int)) = i6 (i + j):=fun i j hi hj=>a3H (by omega)
 have sb:∀ (i j:Nat),i < 64→j ≤ i→I.sub (i6 i) (I.of .i64 (j:Int)) = i6 (i - j):=fun i j hi hj=>b9I (by omega) hj
 have inb:∀ i n,i < n→n < 1000→inB (i6 i) n = true:=fun i n h h2=>a3D h (by omega)
 refine Wp.iter (fun x=>x.1.1 = b∧∃ i,i ≤ 64∧x.1.2.1 = i6 i) (fun x=>64 - x.1.2.1.val.toNat) ?_ ⟨rfl,0,by omega,rfl⟩ (by rw [a6G]; show 64 - 0 < _; decide)
 rintro ⟨⟨b',j,⟨⟩⟩,x2⟩ ⟨e,i,hi,e2⟩
 simp only at e e2
 subst e e2
 have hm:∀ j,j = i + 1→64 - (i6 j).val.toNat < 64 - (i6 i).val.toNat ∨ 64 ≤ i:=by
  intro j hj; rw [a0V (by omega),a0V (by omega)]; omega
 have hn:I.add (i6 i) (I.of .i64 1) = i6 (i + 1):=a3H (m:=1) (by omega)
 have hlen:a0G b' = 64:=hb
 refine Wp.brn (fun hc=>?_) (fun hc=>?_)
 ·
  have hc:i < 64:=by have:=iff_ltb.1 hc; simp only [a0V (show i < 9223372036854775808 by omega),show (I.of .i64 64).val = 64 from rfl] at this; omega
  have ag:∀ z,Wp (Rnd (fun o:Option _=>Tot o) (fun x:((List (I .u8)) × ((I .i64) × Unit)) × _=>x.1.1 = b'∧∃ i,i ≤ 64∧x.1.2.1 = i6 i) (fun x=>64 - x.1.2.1.val.toNat) (64 - (i6 i).val.toNat)) (.again ((b',(I.add (i6 i) (I.of .i64 1),())),z):Stp (((List (I .u8)) × ((I .i64) × Unit)) × (b5S × (b5S × (c4N × (c4N × Unit))))) (Option ((⟨[.pl (.arr 8 (.int .u32))],[]⟩:Tm).D))):=by
   intro z
   refine Wp.again ⟨rfl,i + 1,by omega,hn⟩ ?_
   show 64 - (I.add (i6 i) (I.of .i64 1)).val.toNat < _
   rw [hn]
   exact (hm _ rfl).resolve_right (by omega)
  refine Wp.brn (fun h16=>?_) (fun h16=>?_)
  ·
   have h16:i < 16:=by have:=iff_ltb.1 h16; simp only [a0V (show i < 9223372036854775808 by omega),show (I.of .i64 16).val = 16 from rfl] at this; omega
   simp only [m4 i h16,hlen]
   rw [show I.add (i6 (4 * i)) (I.of .i64 1) = i6 (4 * i + 1) from ad (4 * i) 1 (by omega) (by omega),show I.add (i6 (4 * i)) (I.of .i64 2) = i6 (4 * i + 2) from ad (4 * i) 2 (by omega) (by omega),show I.add (i6 (4 * i)) (I.of .i64 3) = i6 (4 * i + 3) from ad (4 * i) 3 (by omega) (by omega)]
   exact Wp.brnT (inb _ _ (by omega) (by omega)) (Wp.brnT (inb _ _ (by omega) (by omega)) (Wp.brnT (inb _ _ (by omega) (by omega)) (Wp.brnT (inb _ _ (by omega) (by omega)) (Wp.brnT (inb _ _ (by omega) (by omega)) (ag _)))))
  ·
   have h16:16 ≤ i:=by have:=niff_ltb.1 h16; simp only [a0V (show i < 9223372036854775808 by omega),show (I.of .i64 16).val = 16 from rfl] at this; omega
   rw [show I.sub (i6 i) (I.of .i64 15) = i6 (i - 15) from sb i 15 hc (by omega),show I.sub (i6 i) (I.of .i64 2) = i6 (i - 2) from sb i 2 hc (by omega),show I.sub (i6 i) (I.of .i64 16) = i6 (i - 16) from sb i 16 hc (by omega),show I.sub (i6 i) (I.of .i64 7) = i6 (i - 7) from sb i 7 hc (by omega)]
   refine Wp.brnT (inb _ _ (by omega) (by omega)) (Wp.brnT (inb _ _ (by omega) (by omega)) (Wp.brnT (inb _ _ (by omega) (by omega)) (Wp.tot (b3Y _ _) fun y2=>Wp.tot (b3Y _ _) fun y3=>Wp.brnT (inb _ _ (by omega) (by omega)) (Wp.tot (b3Y _ _) fun y4=>Wp.tot (b3Y _ _) fun y5=>Wp.brnT (inb _ _ (by omega) (by omega)) (ag _)))))
 ·
  refine Wp.done ?_
  refine Wp.iter (fun x=>∃ i,i ≤ 64∧x.1.1 = i6 i) (fun x=>64 - x.1.1.val.toNat) ?_ ⟨0,by omega,rfl⟩ (by rw [a6G]; show 64 - 0 < _; decide)
  rintro ⟨⟨j,⟨⟩⟩,x2⟩ ⟨k,hk,e2⟩
  simp only at e2
  subst e2
  refine Wp.brn (fun hc=>?_) (fun hc=>?_)
  ·
   have hc:k < 64:=by have:=iff_ltb.1 hc; simp only [a0V (show k < 9223372036854775808 by omega),show (I.of .i64 64).val = 64 from rfl] at this; omega
   have hn:I.add (i6 k) (I.of .i64 1) = i6 (k + 1):=a3H (m:=1) (by omega)
   refine Wp.tot (b3Y _ _) fun y3=>Wp.tot (b3Y _ _) fun y4=>Wp.tot (b3Y _ _) fun y5=>Wp.brnT (inb _ _ hc (by omega)) (Wp.brnT (inb _ _ hc (by omega)) (Wp.tot (b3Y _ _) fun y6=>Wp.tot (b3Y _ _) fun y7=>Wp.tot (b3Y _ _) fun y8=>?_))
   refine Wp.again ⟨k + 1,by omega,hn⟩ ?_
   show 64 - (I.add (i6 k) (I.of .i64 1)).val.toNat < 64 - (i6 k).val.toNat
   rw [hn,a0V (by omega),a0V (by omega)]; omega
  ·
   refine Wp.done ?_
   refine Wp.iter (fun x=>∃ i,i ≤ 8∧x.1.1 = i6 i) (fun x=>8 - x.1.1.val.toNat) ?_ ⟨0,by omega,rfl⟩ (by rw [a6G]; show 8 - 0 < _; decide)
   rintro ⟨⟨j,⟨⟩⟩,x3⟩ ⟨q,hq,e2⟩
   simp only at e2
   subst e2
   refine Wp.brn (fun hc=>?_) (fun hc=>Wp.done ⟨_,rfl⟩)
   have hc:q < 8:=by have:=iff_ltb.1 hc; simp only [a0V (show q < 9223372036854775808 by omega),show (I.of .i64 8).val = 8 from rfl] at this; omega
   have hn:I.add (i6 q) (I.of .i64 1) = i6 (q + 1):=a3H (m:=1) (by omega)
   refine Wp.brnT (inb _ _ hc (by omega)) (Wp.brnT (inb _ _ hc (by omega)) (Wp.brnT (inb _ _ hc (by omega)) ?_))
   refine Wp.again ⟨q + 1,by omega,hn⟩ ?_
   show 8 - (I.add (i6 q) (I.of .i64 1)).val.toNat < 8 - (i6 q).val.toNat
   rw [hn,a0V (by omega),a0V (by omega)]; omega
end Sym

/- Hashes and trees of the reference: they end, continued. -/
namespace Sym
open Go
abbrev By:Type:=List (I .u8)
theorem e3J:(f2W).length = 1:=rfl
theorem c6L:(d6R).length = 1:=rfl
theorem a8M {X:Type} (a b:List X):(a2D a b).length = a.length + b.length:=List.length_append
theorem b9U {X:Type} (a b:List X) (h:a.length + b.length ≤ 1073741824):a1I (a0G (a2D a b)) = true:=a8R (by show (a2D a b).length ≤ _; rw [a8M]; exact h)
theorem i6_neb' {n m:Nat} (hn:n < 9223372036854775808) (hm:m < 9223372036854775808):I.neb (i6 n) (i6 m) = decide (n ≠ m):=by
 simp only [I.neb,a0V hn,a0V hm]
 by_cases h:n = m
 ·
  subst h; simp
 ·
  simp [h]; omega
theorem g5K {n m:Nat} (hn:n < 9223372036854775808) (hm:0 < m) (hm2:m < 9223372036854775808):I.rem (i6 n) (i6 m) = i6 (n % m):=by
 apply I.ext'
 rw [b6F (by rw [a0V hn]; omega) (by rw [a0V hm2]; omega),a0V hn,a0V hm2,a0V (Nat.lt_of_lt_of_le (Nat.mod_lt _ hm) (by omega))]
 omega
theorem g6G {n m:Nat} (hn:n < 9223372036854775808) (hm:0 < m) (hm2:m < 9223372036854775808):I.quo (i6 n) (i6 m) = i6 (n / m):=by
 apply I.ext'
 rw [b7H (by rw [a0V hn]; omega) (by rw [a0V hm2]; omega),a0V hn,a0V hm2,a0V (Nat.lt_of_le_of_lt (Nat.div_le_self _ _) hn)]
 omega
theorem d6P (a:By) (ha:a.length ≤ 1073741000):Tot (a9U K0 ((a,()),())):=by
 refine Wp.out (T:=fun o=>Tot o) ?_
 unfold a9U
 refine Wp.brnT (b9U _ _ (by show 0 + a.length ≤ _; omega)) (Wp.brnT (b9U _ _ (by rw [a8M,e3J]; show 0 + a.length + 1 ≤ _; omega)) ?_)
 refine Wp.iter (fun x=>x.1.1 = a∧List.length x.2.2.1 + (120 - List.length x.2.2.1 % 64) % 64 ≤ a.length + 64) (fun x=>(120 - List.length x.2.2.1 % 64) % 64) ?_ ⟨rfl,?_⟩ (by rw [a6G]; exact Nat.lt_of_lt_of_le (Nat.mod_lt _ (by decide)) (by decide))
 case refine_2 =>
  show (a2D (a2D [] a) f2W).length + (120 - (a2D (a2D [] a) f2W).length % 64) % 64 ≤ a.length + 64
  rw [a8M,a8M,e3J]
  show 0 + a.length + 1 + _ ≤ _
  omega
 rintro ⟨⟨a',⟨⟩⟩,u,l,⟨⟩⟩ ⟨e,hl⟩
 simp only at e hl
 subst e
 have hl0:l.length ≤ 1073741064:=by omega
 simp only [a6F,a9I,show (I.of .i64 64) = i6 64 from rfl,show (I.of .i64 56) = i6 56 from rfl,g5K (show l.length < 9223372036854775808 by omega) (show 0 < 64 by omega) (by omega),i6_neb' (show l.length % 64 < 9223372036854775808 by omega) (show 56 < 9223372036854775808 by omega)]
 refine Wp.brn (fun hc=>?_) (fun hc=>?_)
 ·
  have hc:=of_decide_eq_true hc
  refine Wp.brnT (b9U _ _ (by rw [c6L]; omega)) ?_
  refine Wp.again ⟨rfl,?_⟩ ?_
  ·
   show (a2D l d6R).length + (120 - (a2D l d6R).length % 64) % 64 ≤ a'.length + 64
   rw [a8M,c6L]
   omega
  ·
   show (120 - (a2D l d6R).length % 64) % 64 < (120 - l.length % 64) % 64
   rw [a8M,c6L]
   omega
 ·
  have hc:l.length % 64 = 56:=by have:=of_decide_eq_false hc; omega
  refine Wp.done ?_
  refine Wp.iter (fun x=>∃ j:Nat,j ≤ 8∧x.1.2.1.val = 7 - (j:Int)∧List.length x.2.2.1 = l.length + j) (fun x=>(x.1.2.1.val + 1).toNat) ?_ ⟨0,by omega,rfl,rfl⟩ (by rw [a6G]; show ((I.of .i64 7).val + 1).toNat < _; decide)
  rintro ⟨⟨n,i,⟨⟩⟩,u,l2,⟨⟩⟩ ⟨j,hj,hi,hl2⟩
  simp only at hi hl2
  have c8:(I.of .i64 8).val = 8:=rfl
  refine Wp.brn (fun hc=>?_) (fun hc=>?_)
  ·
   have hc:0 ≤ i.val:=iff_leb.1 hc
   refine Wp.brnT (c3B _) (Wp.brnT (b9U _ _ (by show l2.length + 1 ≤ _; omega)) ?_)
   have hs:(I.sub i (I.of .i64 1)).val = i.val - 1:=by rw [a9Z (by rw [show (I.of .i64 1).val = 1 from rfl]; omega)]; rfl
   refine Wp.again ⟨j + 1,by omega,by show (I.sub i (I.of .i64 1)).val = _; rw [hs]; omega,?_⟩ ?_
   ·
    show (a2D l2 [_]).length = _
    rw [a8M,hl2]
    rfl
   ·
    show ((I.sub i (I.of .i64 1)).val + 1).toNat < (i.val + 1).toNat
    rw [hs]; omega
  ·
   have hc:i.val < 0:=niff_leb.1 hc
   have hj8:j = 8:=by omega
   subst hj8
   obtain ⟨m,hm⟩:∃ m,l2.length = 64 * m:=⟨l2.length / 64,by omega⟩
   refine Wp.done ?_
   refine Wp.iter (fun x=>∃ q,q ≤ m∧x.1.1 = i6 (64 * q)∧x.2.2.1 = l2) (fun x=>64 * m - x.1.1.val.toNat) ?_ ⟨0,by omega,rfl,rfl⟩ (by rw [a6G]; show 64 * m - 0 < _; omega)
   rintro ⟨⟨i2,⟨⟩⟩,u,l3,y,⟨⟩⟩ ⟨q,hq,e1,e2⟩
   simp only at e1 e2
   subst e1 e2
   have hadd:I.add (i6 (64 * q)) (i6 64) = i6 (64 * q + 64):=a3H (m:=64) (by omega)
   simp only [hm,hadd,a2M (show 64 * q < 9223372036854775808 by omega) (show 64 * m < 9223372036854775808 by omega),a3C (show 64 * q < 9223372036854775808 by omega),a3C (show 64 * q + 64 < 9223372036854775808 by omega)]
   refine Wp.brn (fun hc=>?_) (fun hc=>?_)
   ·
    have hc:=of_decide_eq_true hc
    refine Wp.brnT (i6_inB' (by omega) (by omega)) (Wp.brnT (i6_inB' (by omega) (by omega)) ?_)
    have hb64:(a3W l3 (64 * q) (64 * q + 64 - 64 * q)).length = 64:=by rw [b8E,hm]; omega
    refine Wp.tot (f2M y _ hb64) fun y3=>?_
    refine Wp.again ⟨q + 1,by omega,?_,rfl⟩ ?_
    ·
     show i6 (64 * q + 64) = i6 (64 * (q + 1))
     rw [show 64 * (q + 1) = 64 * q + 64 by omega]
    ·
     show 64 * m - (i6 (64 * q + 64)).val.toNat < 64 * m - (i6 (64 * q)).val.toNat
     rw [a0V (by omega),a0V (by omega)]; omega
   ·
    refine Wp.done ?_
    refine Wp.iter (fun x=>∃ i,i ≤ 32∧x.1.1 = i6 i) (fun x=>32 - x.1.1.val.toNat) ?_ ⟨0,by omega,rfl⟩ (by rw [a6G]; show 32 - 0 < _; decide)
    rintro ⟨⟨i3,⟨⟩⟩,x3⟩ ⟨k,hk,e2⟩
    simp only at e2
    subst e2
    simp only [show (I.of .i64 4) = i6 4 from rfl,show (I.of .i64 32) = i6 32 from rfl,g6G (show k < 9223372036854775808 by omega) (show 0 < 4 by omega) (by omega),a2M (show k < 9223372036854775808 by omega) (show 32 < 9223372036854775808 by omega)]
    refine Wp.brn (fun hc=>?_) (fun hc=>Wp.done ⟨_,rfl⟩)
    have hc:=of_decide_eq_true hc
    refine Wp.brnT (a3D (by omega) (by omega)) (Wp.brnT (c3B _) (Wp.brnT (a3D hc (by omega)) ?_))
    have hn:I.add (i6 k) (I.of .i64 1) = i6 (k + 1):=a3H (m:=1) (by omega)
    refine Wp.again ⟨k + 1,by omega,hn⟩ ?_
    show 32 - (I.add (i6 k) (I.of .i64 1)).val.toNat < 32 - (i6 k).val.toNat
    rw [hn,a0V (by omega),a0V (by omega)]; omega
theorem f0X (a:By) (ha:a.length ≤ 1073740999):Tot (b4D K0 ((a,()),())):=by
 refine Wp.out (T:=fun o=>Tot o) ?_
 unfold b4D
 refine Wp.brnT (b9U _ _ (by rw [c6L]; show 1 + a.length ≤ _; omega)) (Wp.tot (d6P (a2D d6R a) (by rw [a8M,c6L]; omega)) fun y=>⟨_,rfl⟩)
theorem f8G (a:Hs):(a3W (Arr.list 32 a) 0 32).length = 32:=by
 rw [b8E]
 rfl
theorem d5K (a b:Hs):Tot (a8X K0 ((a,(b,())),())):=by
 refine Wp.out (T:=fun o=>Tot o) ?_
 unfold a8X
 have ha:=f8G a
 have hb:=f8G b
 have h1:(a2D f4Y (a3W (Arr.list 32 a) 0 32)).length = 33:=by rw [a8M,ha]; rfl
 refine Wp.brnT (b9U _ _ (by rw [ha]; decide)) (Wp.brnT (b9U _ _ (by rw [h1,hb]; decide)) (Wp.tot (d6P _ (by rw [a8M,h1,hb]; decide)) fun y=>⟨_,rfl⟩))
end Sym

/- Messages' leaves, roots and proofs of the reference: they end. -/
namespace Sym
open Go
theorem e7T (a:U):∃ y,b1P K0 ((a,()),()) = some y∧∃ l:By,y = ((l,()),())∧l.length ≤ 32:=by
 refine Wp.out (T:=fun o=>∃ y,o = some y∧∃ l:By,y = ((l,()),())∧l.length ≤ 32) ?_
 unfold b1P
 refine Wp.iter (fun x=>∃ j:Nat,j ≤ 32∧x.1.1.val = 31 - (j:Int)∧List.length x.2.2.1 ≤ j) (fun x=>(x.1.1.val + 1).toNat) ?_ ⟨0,by omega,rfl,Nat.le_refl _⟩ (by rw [a6G]; show ((I.of .i64 31).val + 1).toNat < _; decide)
 rintro ⟨⟨i,⟨⟩⟩,u,l,⟨⟩⟩ ⟨j,hj,hi,hl⟩
 simp only at hi hl
 refine Wp.brn (fun hc=>?_) (fun hc=>?_)
 ·
  have hc:0 ≤ i.val:=iff_leb.1 hc
  have hq:(I.quo i (I.of .i64 8)).val = i.val / 8:=b7H hc (by decide)
  have hs:(I.sub i (I.of .i64 1)).val = i.val - 1:=by rw [a9Z (by rw [show (I.of .i64 1).val = 1 from rfl]; omega)]; rfl
  have hin:inB (I.quo i (I.of .i64 8)) 4 = true:=iff_inB.2 (by rw [hq]; omega)
  have hmu:((I.sub i (I.of .i64 1)).val + 1).toNat < (i.val + 1).toNat:=by rw [hs]; omega
  have hv:(I.sub i (I.of .i64 1)).val = 31 - ((j + 1:Nat):Int):=by rw [hs]; omega
  have hlen:∀ b:I .u8,(a2D l [b]).length ≤ j + 1:=fun b=>by rw [a8M]; show l.length + 1 ≤ _; omega
  have hfit:∀ b:I .u8,a1I (a0G (a2D l [b])) = true:=fun b=>b9U _ _ (by show l.length + 1 ≤ _; omega)
  refine Wp.brnT hin (Wp.brnT (c3B _) (Wp.brn (fun _=>Wp.brnT (hfit _) (Wp.again ⟨j + 1,by omega,hv,hlen _⟩ hmu)) (fun _=>Wp.brn (fun _=>Wp.brnT (hfit _) (Wp.again ⟨j + 1,by omega,hv,hlen _⟩ hmu)) (fun _=>Wp.again ⟨j + 1,by omega,hv,Nat.le_succ_of_le hl⟩ hmu))))
 ·
  exact Wp.done ⟨_,rfl,l,rfl,by omega⟩
theorem d4U (a:By) (b:U) (ha:a.length ≤ 1000000000):∃ y,a5A K0 ((a,(b,())),()) = some y∧∃ l:By,y = ((l,()),())∧l.length ≤ a.length + 33:=by
 refine Wp.out (T:=fun o=>∃ y,o = some y∧∃ l:By,y = ((l,()),())∧l.length ≤ a.length + 33) ?_
 unfold a5A
 obtain ⟨y,hy,d,rfl,hd⟩:=e7T b
 refine Wp.optF hy ?_
 have h0:(a2D ([]:By) a).length = a.length:=by rw [a8M]; show 0 + _ = _; omega
 have h1:∀ z:I .u8,(a2D (a2D ([]:By) a) [z]).length = a.length + 1:=fun z=>by rw [a8M,h0]; rfl
 refine Wp.brnT (a8R (by show (a2D ([]:By) a).length ≤ _; rw [h0]; omega)) (Wp.brnT (a8R (by show (a2D (a2D ([]:By) a) [_]).length ≤ _; rw [h1]; omega)) (Wp.brnT (b9U _ _ (by rw [h1]; show a.length + 1 + d.length ≤ _; omega)) ?_))
 refine ⟨_,rfl,_,rfl,?_⟩
 show (a2D (a2D (a2D ([]:By) a) [_]) d).length ≤ _
 rw [a8M,h1]
 omega
theorem d8C (a:By) (b:I .u64) (ha:a.length ≤ 1000000000):∃ y,a5J K0 ((a,(b,())),()) = some y∧∃ l:By,y = ((l,()),())∧l.length ≤ a.length + 33:=by
 refine Wp.out (T:=fun o=>∃ y,o = some y∧∃ l:By,y = ((l,()),())∧l.length ≤ a.length + 33) ?_
 unfold a5J
 obtain ⟨y,hy,d,rfl,hd⟩:=d4U a (b,((I.of .u64 0),((I.of .u64 0),((I.of .u64 0),())))) ha
 exact Wp.optF hy ⟨_,rfl,d,rfl,hd⟩
abbrev Msg:Type:=a0C
theorem d4R (m:Msg):Tot (a6T K0 ((m,()),())):=by
 refine Wp.out (T:=fun o=>Tot o) ?_
 unfold a6T
 have henc:∃ y,b0P K0 ((m,()),()) = some y∧∃ l:By,y = ((l,()),())∧l.length ≤ 99:=by
  refine Wp.out (T:=fun o=>∃ y,o = some y∧∃ l:By,y = ((l,()),())∧l.length ≤ 99) ?_
  unfold b0P
  obtain ⟨y,hy,l0,rfl,h0⟩:=d8C [] m.1 (Nat.zero_le _)
  obtain ⟨y,hy1,l1,rfl,h1⟩:=d8C l0 m.2.1 (by have:l0.length ≤ 0 + 33:=h0; omega)
  obtain ⟨y,hy2,l2,rfl,h2⟩:=d4U l1 m.2.2.1 (by have:l0.length ≤ 0 + 33:=h0; omega)
  exact Wp.optF hy (Wp.optF hy1 (Wp.optF hy2 ⟨_,rfl,l2,rfl,by have:l0.length ≤ 0 + 33:=h0; omega⟩))
 obtain ⟨y,hy,l,rfl,hl⟩:=henc
 exact Wp.optF hy (Wp.tot (f0X l (by omega)) fun y=>⟨_,rfl⟩)
theorem d4O (l:List Msg) (n:Nat) (hn:n ≤ l.length) (hl:l.length ≤ 1073741824):∃ y,a8G K0 ((l,(i6 n,())),()) = some y∧∃ o:List Hs,y = ((o,()),())∧o.length = n:=by
 refine Wp.out (T:=fun o=>∃ y,o = some y∧∃ o:List Hs,y = ((o,()),())∧o.length = n) ?_
 unfold a8G
 refine Wp.iter (fun x=>∃ (i:Nat) (o:List Hs),x = ((l,(i6 n,(i6 i,()))),(o,()))∧i ≤ n∧o.length = i) (fun x=>n - x.1.2.2.1.val.toNat) ?_ ⟨0,[],rfl,by omega,rfl⟩ (by rw [a6G]; show n - 0 < _; omega)
 rintro x ⟨i,o,rfl,hi,ho⟩
 simp only [a6F,b4M,a2M (show i < 9223372036854775808 by omega) (show n < 9223372036854775808 by omega),a3C (show i < 9223372036854775808 by omega),a3H (show i + 1 < 9223372036854775808 by omega)]
 refine Wp.brn (fun hc=>?_) (fun hc=>?_)
 ·
  have hc:=of_decide_eq_true hc
  refine Wp.brnT (a3D (by omega) (by omega)) (Wp.tot (d4R _) fun y1=>Wp.brnT (b9U _ _ (by show o.length + 1 ≤ _; omega)) ?_)
  refine Wp.again ⟨i + 1,_,rfl,by omega,?_⟩ ?_
  ·
   rw [a8M,ho]; rfl
  ·
   show n - (i6 (i + 1)).val.toNat < n - (i6 i).val.toNat
   rw [a0V (by omega),a0V (by omega)]; omega
 ·
  have hc:=of_decide_eq_false hc
  exact Wp.done ⟨_,rfl,o,rfl,by omega⟩
theorem d0T (n:Nat) (h2:2 ≤ n) (hn:n ≤ 4611686018427387904):∃ k,a4Z K0 ((i6 n,()),()) = some ((i6 k,()),())∧1 ≤ k∧k < n:=by
 refine Wp.out (T:=fun o=>∃ k,o = some ((i6 k,()),())∧1 ≤ k∧k < n) ?_
 unfold a4Z
 refine Wp.iter (fun x=>∃ k,x = ((i6 n,(i6 k,())),())∧1 ≤ k∧k < n) (fun x=>n - x.1.2.1.val.toNat) ?_ ⟨1,rfl,by omega,by omega⟩ (by rw [a6G]; show n - 1 < _; omega)
 rintro x ⟨k,rfl,hk,hkn⟩
 have hs:I.sub (i6 n) (i6 k) = i6 (n - k):=b9I (by omega) (by omega)
 have hm:I.mul (I.of .i64 2) (i6 k) = i6 (2 * k):=by
  apply I.ext'
  rw [c3Q (by rw [a0V (by omega),show (I.of .i64 2).val = 2 from rfl]; omega),a0V (by omega),a0V (by omega),show (I.of .i64 2).val = 2 from rfl]
  omega
 simp only [hs,hm,a2M (show k < 9223372036854775808 by omega) (show n - k < 9223372036854775808 by omega)]
 refine Wp.brn (fun hc=>?_) (fun hc=>Wp.done ⟨k,rfl,hk,hkn⟩)
 have hc:=of_decide_eq_true hc
 refine Wp.again ⟨2 * k,rfl,by omega,by omega⟩ ?_
 show n - (i6 (2 * k)).val.toNat < n - (i6 k).val.toNat
 rw [a0V (by omega),a0V (by omega)]; omega
theorem e6F:∀ (k:Nat) (l:List Hs),l.length ≤ k→l.length ≤ 1073741824→Tot (a3G K0 (k + 1) ((l,()),())):=by
 intro k
 induction k with
 | zero =>
  intro l hl _
  have hl:l = []:=List.eq_nil_of_length_eq_zero (by omega)
  subst hl
  refine Wp.out (T:=fun o=>Tot o) ?_
  show Wp _ (a6M K0 (a3G K0 _) _)
  unfold a6M
  exact Wp.brnT rfl (Wp.tot (d6P [] (Nat.zero_le _)) fun y=>⟨_,rfl⟩)
 | succ k ih =>
  intro l hl hb
  refine Wp.out (T:=fun o=>Tot o) ?_
  show Wp _ (a6M K0 (a3G K0 _) _)
  unfold a6M
  have e0:I.eqb (I.ofNat .i64 l.length) (I.of .i64 0) = decide (l.length = 0):=d8X (m:=0) (by omega) (by omega)
  have e1:I.eqb (I.ofNat .i64 l.length) (I.of .i64 1) = decide (l.length = 1):=d8X (m:=1) (by omega) (by omega)
  refine Wp.brn (fun h=>Wp.tot (d6P [] (Nat.zero_le _)) fun y=>⟨_,rfl⟩) (fun h=>?_)
  have h:I.eqb (I.ofNat .i64 l.length) (I.of .i64 0) = false:=h
  rw [e0] at h
  have h:=of_decide_eq_false h
  refine Wp.brn (fun h1=>?_) (fun h1=>?_)
  ·
   exact Wp.brnT (a3D (n:=0) (by show 0 < l.length; omega) (by omega)) ⟨_,rfl⟩
  ·
   have h1:I.eqb (I.ofNat .i64 l.length) (I.of .i64 1) = false:=h1
   rw [e1] at h1
   have h1:=of_decide_eq_false h1
   obtain ⟨s,hs,s1,s2⟩:=d0T l.length (by omega) (by omega)
   refine Wp.optF hs ?_
   have hin:inB' (i6 s) l.length = true:=i6_inB' (by omega) (by omega)
   have l1:(a3W l 0 s).length = s:=by rw [b8E]; omega
   have l2:(a3W l s (l.length - s)).length = l.length - s:=by rw [b8E]; omega
   have n1:I.nat (i6 s) = s:=a3C (by omega)
   have r1:=ih (a3W l 0 s) (by omega) (by omega)
   have r2:=ih (a3W l s (l.length - s)) (by omega) (by omega)
   refine Wp.brnT hin (Wp.tot (by show Tot (a3G K0 (k + 1) ((a3W l 0 (I.nat (i6 s)),()),())); rw [n1]; exact r1) fun y1=>Wp.brnT hin (Wp.tot (by show Tot (a3G K0 (k + 1) ((a3W l (I.nat (i6 s)) (a0G l - I.nat (i6 s)),()),())); rw [n1]; exact r2) fun y2=>Wp.tot (d5K _ _) fun y3=>⟨_,rfl⟩))
theorem e1L (n:Nat) (h:n ≤ 1000000000000):∃ k,K0 = k + 1∧n ≤ k:=⟨K0 - 1,by rw [a6G],by rw [a6G]; omega⟩
theorem d0L (l:List Hs) (hl:l.length ≤ 1073741824):Tot (a4W K0 ((l,()),())):=by
 unfold a4W
 obtain ⟨k,e,hk⟩:=e1L l.length (by omega)
 have:=e6F k l hk hl
 rw [← e] at this
 exact this
theorem e6O (l:List Msg) (hl:l.length ≤ 1073741824):Tot (a9V K0 ((l,(i6 l.length,())),())):=by
 refine Wp.out (T:=fun o=>Tot o) ?_
 unfold a9V
 refine Wp.jn (fun x=>∃ h:Hs,x = ((l,(i6 l.length,())),(h,()))) ?_ ?_
 ·
  rintro x ⟨h,rfl⟩
  obtain ⟨y,hy,o,rfl,ho⟩:=d4O l l.length (Nat.le_refl _) hl
  exact Wp.optF hy (Wp.tot (d0L o (by omega)) fun y=>⟨_,rfl⟩)
 ·
  intro j hj
  exact Wp.brn (fun _=>⟨_,rfl⟩) (fun _=>Wp.brn (fun _=>⟨_,rfl⟩) (fun _=>hj _ ⟨_,rfl⟩))
end Sym

/- Proofs of the reference: they end. -/
namespace Sym
open Go
theorem f1U:∀ (k:Nat) (l:List Hs) (i:I .i64),l.length ≤ k→l.length ≤ 1073741824→∃ y,a3R K0 (k + 1) ((l,(i,())),()) = some y∧∃ o:List Hs,y = ((),(o,()))∧o.length ≤ l.length:=by
 intro k
 induction k with
 | zero =>
  intro l i hl _
  have hl:l = []:=List.eq_nil_of_length_eq_zero (by omega)
  subst hl
  refine Wp.out (T:=fun o=>∃ y,o = some y∧∃ o:List Hs,y = ((),(o,()))∧o.length ≤ ([]:List Hs).length) ?_
  show Wp _ (a7E K0 (a3R K0 _) _)
  unfold a7E
  exact Wp.brnT rfl ⟨_,rfl,[],rfl,Nat.le_refl _⟩
 | succ k ih =>
  intro l i hl hb
  refine Wp.out (T:=fun o=>∃ y,o = some y∧∃ o:List Hs,y = ((),(o,()))∧o.length ≤ l.length) ?_
  show Wp _ (a7E K0 (a3R K0 _) _)
  unfold a7E
  have e2:I.ltb (I.ofNat .i64 l.length) (I.of .i64 2) = decide (l.length < 2):=a2M (m:=2) (by omega) (by omega)
  refine Wp.brn (fun h=>⟨_,rfl,[],rfl,Nat.zero_le _⟩) (fun h=>?_)
  have h:I.ltb (I.ofNat .i64 l.length) (I.of .i64 2) = false:=h
  rw [e2] at h
  have h:=of_decide_eq_false h
  obtain ⟨s,hs,s1,s2⟩:=d0T l.length (by omega) (by omega)
  refine Wp.optF hs ?_
  have hin:inB' (i6 s) l.length = true:=i6_inB' (by omega) (by omega)
  have l1:(a3W l 0 s).length = s:=by rw [b8E]; omega
  have l2:(a3W l s (l.length - s)).length = l.length - s:=by rw [b8E]; omega
  have n1:I.nat (i6 s) = s:=a3C (by omega)
  refine Wp.brn (fun _=>?_) (fun _=>?_)
  ·
   refine Wp.brnT hin ?_
   obtain ⟨y,hy,o,rfl,ho⟩:=ih (a3W l 0 s) i (by omega) (by omega)
   have r2:=d0L (a3W l s (l.length - s)) (by omega)
   refine Wp.optF (y:=((),(o,()))) (by show a3R K0 (k + 1) ((a3W l 0 (I.nat (i6 s)),(i,())),()) = _; rw [n1]; exact hy) (Wp.brnT hin (Wp.tot (by show Tot (a4W K0 ((a3W l (I.nat (i6 s)) (a0G l - I.nat (i6 s)),()),())); rw [n1]; exact r2) fun y2=>Wp.brnT (b9U _ _ (by show o.length + 1 ≤ _; omega)) ⟨_,rfl,_,rfl,?_⟩))
   show (a2D o [_]).length ≤ _
   rw [a8M]
   show o.length + 1 ≤ _
   omega
  ·
   refine Wp.brnT hin ?_
   obtain ⟨y,hy,o,rfl,ho⟩:=ih (a3W l s (l.length - s)) (I.sub i (i6 s)) (by omega) (by omega)
   have r2:=d0L (a3W l 0 s) (by omega)
   refine Wp.optF (y:=((),(o,()))) (by show a3R K0 (k + 1) ((a3W l (I.nat (i6 s)) (a0G l - I.nat (i6 s)),(I.sub i (i6 s),())),()) = _; rw [n1]; exact hy) (Wp.brnT hin (Wp.tot (by show Tot (a4W K0 ((a3W l 0 (I.nat (i6 s)),()),())); rw [n1]; exact r2) fun y2=>Wp.brnT (b9U _ _ (by show o.length + 1 ≤ _; omega)) ⟨_,rfl,_,rfl,?_⟩))
   show (a2D o [_]).length ≤ _
   rw [a8M]
   show o.length + 1 ≤ _
   omega
theorem e7S (l:List Hs) (i:I .i64) (hl:l.length ≤ 1073741824):∃ y,b2V K0 ((l,(i,())),()) = some y∧∃ o:List Hs,y = ((),(o,()))∧o.length ≤ l.length:=by
 unfold b2V
 obtain ⟨k,e,hk⟩:=e1L l.length (by omega)
 have:=f1U k l i hk hl
 rw [← e] at this
 exact this
theorem e1Q (l:List Msg) (i:I .i64) (n:Nat) (hn:n < 9223372036854775808) (hl:l.length ≤ 1073741824):∃ y,b1K K0 ((l,(i,(i6 n,()))),()) = some y∧∃ (b:Bool) (o:List Hs),y = ((b,()),(o,()))∧o.length ≤ l.length:=by
 refine Wp.out (T:=fun o=>∃ y,o = some y∧∃ (b:Bool) (o:List Hs),y = ((b,()),(o,()))∧o.length ≤ l.length) ?_
 unfold b1K
 refine Wp.jn (fun x=>n ≤ l.length∧x = ((l,(i,(i6 n,()))),())) ?_ ?_
 ·
  rintro x ⟨hn,rfl⟩
  obtain ⟨y,hy,o,rfl,ho⟩:=d4O l n hn hl
  obtain ⟨y,hy2,p,rfl,hp⟩:=e7S o i (by omega)
  exact Wp.optF hy (Wp.optF hy2 ⟨_,rfl,_,p,rfl,by omega⟩)
 ·
  intro j hj
  refine Wp.brn (fun _=>⟨_,rfl,_,[],rfl,Nat.zero_le _⟩) (fun _=>Wp.brn (fun _=>⟨_,rfl,_,[],rfl,Nat.zero_le _⟩) (fun _=>Wp.brn (fun _=>⟨_,rfl,_,[],rfl,Nat.zero_le _⟩) (fun h=>hj _ ⟨?_,rfl⟩)))
  have h:I.ltb (I.ofNat .i64 l.length) (i6 n) = false:=h
  have e:I.ltb (I.ofNat .i64 l.length) (i6 n) = decide (l.length < n):=a2M (by omega) hn
  rw [e] at h
  have:=of_decide_eq_false h
  omega
theorem g3H:∀ (k n:Nat) (i:I .i64) (h:Hs) (p:List Hs),p.length ≤ k→p.length ≤ 1073741824→1 ≤ n→n ≤ 1073741824→Tot (a4T K0 (k + 1) ((i6 n,(i,(h,(p,())))),())):=by
 intro k
 induction k with
 | zero =>
  intro n i h p hp _ _ _
  have hl:p = []:=List.eq_nil_of_length_eq_zero (by omega)
  subst hl
  refine Wp.out (T:=fun o=>Tot o) ?_
  show Wp _ (a9F K0 (a4T K0 _) _)
  unfold a9F
  exact Wp.brn (fun _=>⟨_,rfl⟩) (fun _=>Wp.brnT rfl ⟨_,rfl⟩)
 | succ k ih =>
  intro n i h p hp hb hn hn2
  refine Wp.out (T:=fun o=>Tot o) ?_
  show Wp _ (a9F K0 (a4T K0 _) _)
  unfold a9F
  refine Wp.brn (fun _=>⟨_,rfl⟩) (fun hn1=>?_)
  have hn1:I.eqb (i6 n) (I.of .i64 1) = false:=hn1
  have e1:I.eqb (i6 n) (I.of .i64 1) = decide (n = 1):=d8X (m:=1) (by omega) (by omega)
  rw [e1] at hn1
  have hn1:=of_decide_eq_false hn1
  refine Wp.brn (fun _=>⟨_,rfl⟩) (fun hp0=>?_)
  have hp0:I.eqb (I.ofNat .i64 p.length) (I.of .i64 0) = false:=hp0
  have e0:I.eqb (I.ofNat .i64 p.length) (I.of .i64 0) = decide (p.length = 0):=d8X (m:=0) (by omega) (by omega)
  rw [e0] at hp0
  have hp0:=of_decide_eq_false hp0
  have hs:I.sub (I.ofNat .i64 (a0G p)) (I.of .i64 1) = i6 (p.length - 1):=b9I (n:=p.length) (m:=1) (by omega) (by omega)
  have n1:I.nat (i6 (p.length - 1)) = p.length - 1:=a3C (by omega)
  have lp:(a3W p 0 (p.length - 1)).length = p.length - 1:=by rw [b8E]; omega
  have hin:inB (I.sub (I.ofNat .i64 (a0G p)) (I.of .i64 1)) (a0G p) = true:=by rw [hs]; exact a3D (by show p.length - 1 < p.length; omega) (by omega)
  have hin':inB' (I.sub (I.ofNat .i64 (a0G p)) (I.of .i64 1)) (a0G p) = true:=by rw [hs]; exact i6_inB' (by show p.length - 1 ≤ p.length; omega) (by omega)
  refine Wp.brnT hin ?_
  obtain ⟨s,hsp,s1,s2⟩:=d0T n (by omega) (by omega)
  refine Wp.optF hsp ?_
  have hss:I.sub (i6 n) (i6 s) = i6 (n - s):=b9I (by omega) (by omega)
  refine Wp.brn (fun _=>Wp.brnT hin' ?_) (fun _=>Wp.brnT hin' ?_)
  ·
   have r:=ih s i h (a3W p 0 (p.length - 1)) (by omega) (by omega) (by omega) (by omega)
   refine Wp.tot (by show Tot (a4T K0 (k + 1) ((i6 s,(i,(h,(a3W p 0 (I.nat (I.sub (I.ofNat .i64 (a0G p)) (I.of .i64 1))),())))),())); rw [hs,n1]; exact r) fun y1=>Wp.tot (d5K _ _) fun y2=>⟨_,rfl⟩
  ·
   have r:=ih (n - s) (I.sub i (i6 s)) h (a3W p 0 (p.length - 1)) (by omega) (by omega) (by omega) (by omega)
   refine Wp.tot (by show Tot (a4T K0 (k + 1) ((I.sub (i6 n) (i6 s),(I.sub i (i6 s),(h,(a3W p 0 (I.nat (I.sub (I.ofNat .i64 (a0G p)) (I.of .i64 1))),())))),())); rw [hs,n1,hss]; exact r) fun y1=>Wp.tot (d5K _ _) fun y2=>⟨_,rfl⟩
theorem e7I (root:Hs) (n:Nat) (i:I .i64) (leaf:Hs) (p:List Hs) (hn:1 ≤ n) (hn2:n ≤ 1073741824) (hp:p.length ≤ 1073741824):Tot (a7L K0 ((root,(i6 n,(i,(leaf,(p,()))))),())):=by
 refine Wp.out (T:=fun o=>Tot o) ?_
 unfold a7L
 refine Wp.jn (fun x=>x = ((i6 n,(i,(p,()))),(root,(leaf,())))) ?_ ?_
 ·
  rintro x rfl
  have hu:Tot (b6L K0 ((i6 n,(i,(leaf,(p,())))),())):=by
   unfold b6L
   obtain ⟨k,e,hk⟩:=e1L p.length (by omega)
   have:=g3H k n i leaf p hk hp hn hn2
   rw [← e] at this
   exact this
  exact Wp.tot hu fun y1=>Wp.brn (fun _=>⟨_,rfl⟩) (fun _=>⟨_,rfl⟩)
 ·
  intro j hj
  exact Wp.brn (fun _=>⟨_,rfl⟩) (fun _=>Wp.brn (fun _=>⟨_,rfl⟩) (fun _=>Wp.brn (fun _=>⟨_,rfl⟩) (fun _=>hj _ rfl)))
end Sym

/- The escrow of the reference, and what else a step calls. -/
namespace Sym
open Go
theorem Tot.val {Y:Type} {o:Option Y} (h:Tot o) (d:Y):o = some (o.getD d):=by
 obtain ⟨y,rfl⟩:=h
 rfl
theorem f5H (l:List Ac) (v:V4) (k:Nat) (hk:k < 4):a6Y K0 (((l,(v,())),(i6 (k + 1),())),()) = some ((e7E v k,()),()):=by
 refine Wp.out (T:=fun o=>o = some ((e7E v k,()),())) ?_
 unfold a6Y
 have hsub:I.sub (i6 (k + 1)) (I.of .i64 1) = i6 k:=by rw [b4M,b9I (by omega) (by omega)]; rfl
 refine Wp.brnF (niff_ltb.2 (by show (I.of .i64 1).val ≤ (i6 (k + 1)).val; rw [a0V (by omega),show (I.of .i64 1).val = 1 from rfl]; omega)) ?_
 refine Wp.brnF (niff_ltb.2 (by show (i6 (k + 1)).val ≤ (I.of .i64 4).val; rw [a0V (by omega),show (I.of .i64 4).val = 4 from rfl]; omega)) ?_
 refine Wp.brnT (by show inB (I.sub (i6 (k + 1)) (I.of .i64 1)) 4 = true; rw [hsub]; exact a3D hk (by omega)) ?_
 show some ((Arr.sel Z_U 4 v (I.nat (I.sub (i6 (k + 1)) (I.of .i64 1))),()),()) = _
 rw [hsub,a3C (by omega)]
 rfl
noncomputable def f4I (v:V4) (k:Nat) (n:U):I .i64 × V4 :=
 if n.val ≤ (e7E v k).val then (I.of .i64 0,h0A v k (U.of ((e7E v k).val - n.val))) else (I.of .i64 10,v)
theorem g5E (v:V4) (l:List Ac) (k:Nat) (hk:k < 4) (n:U):a4E K0 ((i6 (k + 1),(n,())),(lgH v,(l,()))) = some (((f4I v k n).1,()),(lgH (f4I v k n).2,(l,()))):=by
 refine Wp.out (T:=fun o=>o = some (((f4I v k n).1,()),(lgH (f4I v k n).2,(l,())))) ?_
 unfold a4E f4I
 have hsub:I.sub (i6 (k + 1)) (I.of .i64 1) = i6 k:=by rw [b4M,b9I (by omega) (by omega)]; rfl
 have hin:inB (I.sub (i6 (k + 1)) (I.of .i64 1)) 4 = true:=by rw [hsub]; exact a3D hk (by omega)
 refine Wp.jn (fun x=>x = ((i6 (k + 1),()),(lgH v,(l,(n,()))))) ?_ ?_
 ·
  rintro x rfl
  refine Wp.brnT hin ?_
  simp only [hsub,a3C (show k < 9223372036854775808 by omega)]
  refine Wp.optF (c1Z (e7E v k) n) ?_
  unfold e8N
  by_cases h:n.val ≤ (e7E v k).val
  ·
   simp only [if_pos h]
   exact Wp.brnF (show I.neb (I.of .i64 0) (I.of .i64 0) = false by decide) (Wp.brnT (a3D hk (by omega)) rfl)
  ·
   simp only [if_neg h]
   exact Wp.brnT (show I.neb (I.of .i64 4) (I.of .i64 0) = true by decide) rfl
 ·
  intro j hj
  refine Wp.brnF (niff_ltb.2 (by show (I.of .i64 1).val ≤ (i6 (k + 1)).val; rw [a0V (by omega),show (I.of .i64 1).val = 1 from rfl]; omega)) ?_
  refine Wp.brnF (niff_ltb.2 (by show (i6 (k + 1)).val ≤ (I.of .i64 4).val; rw [a0V (by omega),show (I.of .i64 4).val = 4 from rfl]; omega)) ?_
  exact hj _ rfl
abbrev EsH:Type:=a0W
def esH (b:U):EsH:=(b,((),((),((),()))))
noncomputable def g2H (b n:U):I .i64 × U :=
 if n.val = 0 then (I.of .i64 2,b) else if b.val + n.val < U.top then (I.of .i64 0,U.of (b.val + n.val)) else (I.of .i64 4,b)
theorem g4K (b n:U) (r:List Hs) (cl:List (I .u64)) (ba:List Pay):a5Z K0 ((n,()),(esH b,(r,(cl,(ba,()))))) = some (((g2H b n).1,()),(esH (g2H b n).2,(r,(cl,(ba,()))))):=by
 refine Wp.out (T:=fun o=>o = some (((g2H b n).1,()),(esH (g2H b n).2,(r,(cl,(ba,())))))) ?_
 unfold a5Z g2H
 refine Wp.optF (c1E n) ?_
 refine Wp.brn (fun h=>?_) (fun h=>?_)
 ·
  rw [if_pos (of_decide_eq_true h)]
  rfl
 ·
  rw [if_neg (of_decide_eq_false h)]
  refine Wp.optF (c8G b n) ?_
  by_cases hc:b.val + n.val < U.top
  ·
   rw [if_pos hc,c6E hc]
   exact Wp.brnF (show I.neb (I.of .i64 0) (I.of .i64 0) = false by decide) rfl
  ·
   rw [if_neg hc,d7I (by omega)]
   exact Wp.brnT (show I.neb (I.of .i64 4) (I.of .i64 0) = true by decide) rfl
def clB (l:List (I .u64)) (a:I .u64):Bool:=l.any fun p=>I.eqb p a
theorem d4T (b:U) (r:List Hs) (cl:List (I .u64)) (ba:List Pay) (a:I .u64) (hl:cl.length ≤ 1073741824):a4L K0 (((b,(r,(cl,(ba,())))),(a,())),()) = some ((clB cl a,()),()):=by
 refine Wp.out (T:=fun o=>o = some ((clB cl a,()),())) ?_
 unfold a4L
 refine Wp.iter (fun s=>∃ i,s = (((b,(r,(cl,(ba,())))),(a,(i6 i,()))),())∧i ≤ cl.length∧∀ k,k < i→I.eqb (rdL (I.of .u64 0) cl k) a = false) (fun s=>cl.length - s.1.2.2.1.val.toNat) ?_ ⟨0,rfl,by omega,fun k hk=>by omega⟩ (by rw [a6G]; show cl.length - 0 < _; omega)
 rintro s ⟨i,rfl,hi,ht⟩
 simp only [a6F,a9I,b4M,a2M (show i < 9223372036854775808 by omega) (show cl.length < 9223372036854775808 by omega),a3C (show i < 9223372036854775808 by omega),a3H (show i + 1 < 9223372036854775808 by omega)]
 refine Wp.brn (fun hc=>?_) (fun hc=>?_)
 ·
  have hc:=of_decide_eq_true hc
  refine Wp.brnT (a3D (by omega) (by omega)) ?_
  refine Wp.brn (fun h=>?_) (fun h=>?_)
  ·
   refine Wp.done ?_
   have:clB cl a = true:=List.any_eq_true.2 ⟨_,c3T (I.of .u64 0) cl i hc,h⟩
   rw [this]
   rfl
  ·
   refine Wp.again ⟨i + 1,rfl,by omega,fun k hk=>?_⟩ (by show cl.length - (i6 (i + 1)).val.toNat < cl.length - (i6 i).val.toNat; rw [a0V (by omega),a0V (by omega)]; omega)
   rcases (by omega:k < i ∨ k = i) with h3 | rfl
   ·
    exact ht k h3
   ·
    exact h
 ·
  have hc:=of_decide_eq_false hc
  refine Wp.done ?_
  have:clB cl a = false:=by
   rw [clB,List.any_eq_false]
   intro x hx
   obtain ⟨k,hk,rfl⟩:=c4F (I.of .u64 0) hx
   rw [ht k (by omega)]
   decide
  rw [this]
  rfl
noncomputable abbrev d2O:Pay:=a1H
def pAt (l:List Pay) (a:I .u64):Nat:=l.findIdx fun p=>I.eqb p.1 a
theorem f7H {l:List Pay} {a:I .u64} {i:Nat} (hi:i < l.length) (h1:I.eqb (rdL d2O l i).1 a = true) (h2:∀ k,k < i→I.eqb (rdL d2O l k).1 a = false):pAt l a = i:=by
 unfold pAt
 rw [List.findIdx_eq hi]
 refine ⟨by rw [← a4N d2O l i hi]; exact h1,fun k hk=>?_⟩
 rw [← a4N d2O l k (by omega)]
 exact h2 k hk
theorem e4K {l:List Pay} {a:I .u64} (h2:∀ k,k < l.length→I.eqb (rdL d2O l k).1 a = false):pAt l a = l.length:=by
 unfold pAt
 rw [List.findIdx_eq_length]
 intro x hx
 obtain ⟨k,hk,rfl⟩:=c4F d2O hx
 exact h2 k hk
noncomputable def f3M (l:List Pay) (a:I .u64):U:=if pAt l a < l.length then (rdL d2O l (pAt l a)).2.1 else Z_U
noncomputable def f9Y (l:List Pay) (a:I .u64) (n:U):List Pay:=if pAt l a < l.length then b6Q l (pAt l a) ((rdL d2O l (pAt l a)).1,(n,(rdL d2O l (pAt l a)).2.2)) else l ++ [(a,(n,()))]
theorem g4W (b:U) (r:List Hs) (cl:List (I .u64)) (ba:List Pay) (a:I .u64) (hl:ba.length ≤ 1073741824):a5E K0 (((b,(r,(cl,(ba,())))),(a,())),()) = some ((f3M ba a,()),()):=by
 refine Wp.out (T:=fun o=>o = some ((f3M ba a,()),())) ?_
 unfold a5E
 refine Wp.iter (fun s=>∃ i,s = (((b,(r,(cl,(ba,())))),(a,(i6 i,()))),(Z_U,()))∧i ≤ ba.length∧∀ k,k < i→I.eqb (rdL d2O ba k).1 a = false) (fun s=>ba.length - s.1.2.2.1.val.toNat) ?_ ⟨0,rfl,by omega,fun k hk=>by omega⟩ (by rw [a6G]; show ba.length - 0 < _; omega)
 rintro s ⟨i,rfl,hi,ht⟩
 simp only [a6F,a9I,b4M,a2M (show i < 9223372036854775808 by omega) (show ba.length < 9223372036854775808 by omega),a3C (show i < 9223372036854775808 by omega),a3H (show i + 1 < 9223372036854775808 by omega)]
 refine Wp.brn (fun hc=>?_) (fun hc=>?_)
 ·
  have hc:=of_decide_eq_true hc
  have hin:inB (i6 i) ba.length = true:=a3D (by omega) (by omega)
  refine Wp.brnT hin ?_
  refine Wp.brn (fun h=>?_) (fun h=>?_)
  ·
   refine Wp.brnT hin (Wp.done ?_)
   unfold f3M
   rw [f7H hc h ht,if_pos hc]
   rfl
  ·
   refine Wp.again ⟨i + 1,rfl,by omega,fun k hk=>?_⟩ (by show ba.length - (i6 (i + 1)).val.toNat < ba.length - (i6 i).val.toNat; rw [a0V (by omega),a0V (by omega)]; omega)
   rcases (by omega:k < i ∨ k = i) with h3 | rfl
   ·
    exact ht k h3
   ·
    exact h
 ·
  have hc:=of_decide_eq_false hc
  refine Wp.done ?_
  unfold f3M
  rw [e4K fun k hk=>ht k (by omega),if_neg (by omega)]
  rfl
theorem e9I (a b:I .u64):Tot (a8V K0 ((a,(b,())),())):=by
 refine Wp.out (T:=fun o=>Tot o) ?_
 unfold a8V
 obtain ⟨r0,e0,B0⟩:=a1P a
 obtain ⟨r1,e1,B1⟩:=a1P b
 obtain ⟨r2,e2,B2⟩:=a9P B0 B1 (d7U B0) (d7U B1)
 have h:=a3V a
 have h':=a3V b
 have e3:=c2L B2 (b3R B2 (k:=5) (Nat.lt_of_lt_of_le (show a.nat + b.nat < 36893488147419103232 by omega) (by decide)) (by decide))
 refine Wp.optF e0 (Wp.optF e1 (Wp.optF e2 (Wp.optF e3 (Wp.optF (d0D _) ?_))))
 exact Wp.brn (fun _=>⟨_,rfl⟩) (fun _=>⟨_,rfl⟩)
end Sym

/- Claims and parameters of the reference. -/
namespace Sym
open Go
abbrev Clm:Type:=b5V
noncomputable def vfB (root:Hs) (n:Nat) (i:I .i64) (leaf:Hs) (p:List Hs):Bool:=((a7L K0 ((root,(i6 n,(i,(leaf,(p,()))))),())).getD ((false,()),())).1.1
noncomputable def lfS (m:Msg):Hs:=((a6T K0 ((m,()),())).getD ((a2N,()),())).1.1
theorem g7C (m:Msg):a6T K0 ((m,()),()) = some ((lfS m,()),()):=(d4R m).val ((a2N,()),())
theorem g8G (root:Hs) (n:Nat) (i:I .i64) (leaf:Hs) (p:List Hs) (hn:1 ≤ n) (hn2:n ≤ 1073741824) (hp:p.length ≤ 1073741824):a7L K0 ((root,(i6 n,(i,(leaf,(p,()))))),()) = some ((vfB root n i leaf p,()),()):=(e7I root n i leaf p hn hn2 hp).val ((false,()),())
abbrev ClR:Type:=I .i64 × U × List (I .u64) × List Pay
def c9U (c:Clm):I .u64:=c.1
def b2S (c:Clm):I .u64:=c.2.1
def cTo (c:Clm):I .u64:=c.2.2.1
def c8R (c:Clm):U:=c.2.2.2.1
def d2S (c:Clm):List Hs:=c.2.2.2.2.1
noncomputable def c9N (b:U) (r:List Hs) (cl:List (I .u64)) (ba:List Pay) (c:Clm):ClR :=
 if (cTo c).val = 0 ∨ (c8R c).val = 0 ∨ 64 < (d2S c).length then (I.of .i64 2,b,cl,ba)
 else if (b2S c).nat < 1 ∨ r.length < (b2S c).nat ∨ (b2S c).nat ≤ (c9U c).nat then (I.of .i64 8,b,cl,ba)
 else if clB cl (c9U c) = true then (I.of .i64 9,b,cl,ba)
 else if vfB (rdL a2N r ((b2S c).nat - 1)) (b2S c).nat (I.conv .i64 (c9U c)) (lfS (c9U c,(cTo c,(c8R c,())))) (d2S c) = false then (I.of .i64 16,b,cl,ba)
 else if b.val < (c8R c).val then (I.of .i64 10,b,cl,ba)
 else if (f3M ba (cTo c)).val + (c8R c).val < U.top then (I.of .i64 0,U.of (b.val - (c8R c).val),cl ++ [c9U c],f9Y ba (cTo c) (U.of ((f3M ba (cTo c)).val + (c8R c).val)))
 else (I.of .i64 4,b,cl,ba)
theorem f5C {n:Nat} (h:n < 9223372036854775808):(I.conv (k:=.i64) .u64 (i6 n)) = I.of .u64 (n:Int):=by
 unfold I.conv
 rw [a0V h]
theorem f9S {a:I .u64} (h:a.nat < 9223372036854775808):(I.conv (k:=.u64) .i64 a) = i6 a.nat:=by
 unfold I.conv
 have:=a2F a
 rw [← this]
 rfl
theorem d6U {a b:I .u64}:I.ltb a b = decide (a.nat < b.nat):=by
 have h1:=a2F a
 have h2:=a2F b
 unfold I.ltb
 by_cases h:a.nat < b.nat
 ·
  rw [decide_eq_true h,decide_eq_true (by omega)]
 ·
  rw [decide_eq_false h,decide_eq_false (by omega)]
theorem e9D {a b:I .u64}:I.leb a b = decide (a.nat ≤ b.nat):=by
 have h1:=a2F a
 have h2:=a2F b
 unfold I.leb
 by_cases h:a.nat ≤ b.nat
 ·
  rw [decide_eq_true h,decide_eq_true (by omega)]
 ·
  rw [decide_eq_false h,decide_eq_false (by omega)]
theorem f4F (b:U) (r:List Hs) (cl:List (I .u64)) (ba:List Pay) (c:Clm) (hr:r.length ≤ 1073741824) (hcl:cl.length < 1073741824) (hba:ba.length < 1073741824) (hpf:(d2S c).length ≤ 1073741824) :
  a6Z K0 ((c,()),(esH b,(r,(cl,(ba,()))))) = some (((c9N b r cl ba c).1,()),(esH (c9N b r cl ba c).2.1,(r,((c9N b r cl ba c).2.2.1,((c9N b r cl ba c).2.2.2,()))))):=by
 refine Wp.out (T:=fun o=>o = some (((c9N b r cl ba c).1,()),(esH (c9N b r cl ba c).2.1,(r,((c9N b r cl ba c).2.2.1,((c9N b r cl ba c).2.2.2,())))))) ?_
 unfold a6Z
 have hrl:(I.conv (k:=.i64) .u64 (I.ofNat .i64 (a0G r))).nat = r.length:=by
  show (I.conv (k:=.i64) .u64 (i6 r.length)).nat = _
  rw [f5C (by omega)]
  exact b9F (by omega)
 refine Wp.jn (fun x=>(¬ ((cTo c).val = 0 ∨ (c8R c).val = 0 ∨ 64 < (d2S c).length))∧x = ((),(esH b,(r,(cl,(ba,(c,()))))))) ?_ ?_
 ·
  rintro x ⟨h1,rfl⟩
  refine Wp.jn (fun x=>(¬ ((b2S c).nat < 1 ∨ r.length < (b2S c).nat ∨ (b2S c).nat ≤ (c9U c).nat))∧x = ((),(esH b,(r,(cl,(ba,(c,()))))))) ?_ ?_
  ·
   rintro x ⟨h2,rfl⟩
   unfold c9N
   rw [if_neg h1,if_neg h2]
   refine Wp.optF (d4T b r cl ba (c9U c) (by omega)) ?_
   refine Wp.brn (fun h3=>?_) (fun h3=>?_)
   ·
    have h3:clB cl (c9U c) = true:=h3
    rw [if_pos h3]
    rfl
   ·
    have h3:clB cl (c9U c) = false:=h3
    rw [if_neg (by rw [h3]; decide)]
    have hs1:(I.sub (b2S c) (I.of .u64 1)).nat = (b2S c).nat - 1:=sub_nat_le' _ _ (by show (I.of .u64 1).nat ≤ _; rw [show (I.of .u64 1).nat = 1 from rfl]; omega)
    refine Wp.brnT (iff_inB.2 (by have:=a2F (I.sub (b2S c) (I.of .u64 1)); show 0 ≤ (I.sub (b2S c) (I.of .u64 1)).val∧(I.sub (b2S c) (I.of .u64 1)).val < ((r.length:Nat):Int); omega)) ?_
    refine Wp.optF (g7C (c9U c,(cTo c,(c8R c,())))) ?_
    have hv:=g8G (rdL a2N r ((b2S c).nat - 1)) (b2S c).nat (I.conv .i64 (c9U c)) (lfS (c9U c,(cTo c,(c8R c,())))) (d2S c) (by omega) (by omega) (by omega)
    rw [← hs1,← f9S (a:=b2S c) (by omega)] at hv
    refine Wp.optF hv ?_
    rw [hs1]
    refine Wp.brn (fun h4=>?_) (fun h4=>?_)
    ·
     have h4:vfB (rdL a2N r ((b2S c).nat - 1)) (b2S c).nat (I.conv .i64 (c9U c)) (lfS (c9U c,(cTo c,(c8R c,())))) (d2S c) = false:=by
      revert h4
      show a3I (vfB _ _ _ _ _) = true→_
      cases vfB (rdL a2N r ((b2S c).nat - 1)) (b2S c).nat (I.conv .i64 (c9U c)) (lfS (c9U c,(cTo c,(c8R c,())))) (d2S c) <;> simp [a3I]
     rw [if_pos h4]
     rfl
    ·
     have h4:vfB (rdL a2N r ((b2S c).nat - 1)) (b2S c).nat (I.conv .i64 (c9U c)) (lfS (c9U c,(cTo c,(c8R c,())))) (d2S c) = true:=by
      revert h4
      show a3I (vfB _ _ _ _ _) = false→_
      cases vfB (rdL a2N r ((b2S c).nat - 1)) (b2S c).nat (I.conv .i64 (c9U c)) (lfS (c9U c,(cTo c,(c8R c,())))) (d2S c) <;> simp [a3I]
     rw [if_neg (by rw [h4]; decide)]
     refine Wp.optF (c1Z b (c8R c)) ?_
     unfold e8N
     by_cases h5:(c8R c).val ≤ b.val
     ·
      rw [if_neg (show ¬ b.val < (c8R c).val by omega)]
      simp only [if_pos h5]
      refine Wp.brnF (show I.neb (I.of .i64 0) (I.of .i64 0) = false by decide) ?_
      refine Wp.optF (g4W b r cl ba (cTo c) (by omega)) (Wp.optF (c8G (f3M ba (cTo c)) (c8R c)) ?_)
      by_cases h6:(f3M ba (cTo c)).val + (c8R c).val < U.top
      ·
       rw [if_pos h6,c6E h6]
       refine Wp.brnF (show I.neb (I.of .i64 0) (I.of .i64 0) = false by decide) ?_
       refine Wp.brnT (b9U _ _ (by show cl.length + 1 ≤ _; omega)) ?_
       generalize U.of ((f3M ba (cTo c)).val + (c8R c).val) = n
       refine Wp.iter (fun s=>∃ i,s = ((i6 i,()),(esH (U.of (b.val - (c8R c).val)),(r,(cl ++ [c9U c],(ba,(c,(n,())))))))∧i ≤ ba.length∧∀ k,k < i→I.eqb (rdL d2O ba k).1 (cTo c) = false) (fun s=>ba.length - s.1.1.val.toNat) ?_ ⟨0,rfl,by omega,fun k hk=>by omega⟩ (by rw [a6G]; show ba.length - 0 < _; omega)
       rintro s ⟨i,rfl,hi,ht⟩
       simp only [a6F,a9I,b4M,a2M (show i < 9223372036854775808 by omega) (show ba.length < 9223372036854775808 by omega),a3C (show i < 9223372036854775808 by omega),a3H (show i + 1 < 9223372036854775808 by omega)]
       refine Wp.brn (fun hc=>?_) (fun hc=>?_)
       ·
        have hc:=of_decide_eq_true hc
        have hin:inB (i6 i) ba.length = true:=a3D (by omega) (by omega)
        refine Wp.brnT hin ?_
        refine Wp.brn (fun h=>?_) (fun h=>?_)
        ·
         refine Wp.brnT hin (Wp.done ?_)
         have e:f9Y ba (cTo c) n = b6Q ba i ((rdL d2O ba i).1,(n,(rdL d2O ba i).2.2)):=by
          unfold f9Y
          rw [f7H (a:=cTo c) hc h ht,if_pos hc]
         show some _ = some _
         rw [e]
         rfl
        ·
         refine Wp.again ⟨i + 1,rfl,by omega,fun k hk=>?_⟩ (by show ba.length - (i6 (i + 1)).val.toNat < ba.length - (i6 i).val.toNat; rw [a0V (by omega),a0V (by omega)]; omega)
         rcases (by omega:k < i ∨ k = i) with h3 | rfl
         ·
          exact ht k h3
         ·
          exact h
       ·
        have hc:=of_decide_eq_false hc
        refine Wp.done (Wp.brnT (b9U _ _ (by show ba.length + 1 ≤ _; omega)) ?_)
        have e:f9Y ba (cTo c) n = ba ++ [(cTo c,(n,()))]:=by
         unfold f9Y
         rw [e4K fun k hk=>ht k (by omega),if_neg (by omega)]
        show some _ = some _
        rw [e]
        rfl
      ·
       rw [if_neg h6,d7I (by omega)]
       exact Wp.brnT (show I.neb (I.of .i64 4) (I.of .i64 0) = true by decide) rfl
     ·
      rw [if_pos (show b.val < (c8R c).val by omega)]
      simp only [if_neg h5]
      exact Wp.brnT (show I.neb (I.of .i64 4) (I.of .i64 0) = true by decide) rfl
  ·
   intro j hj
   have e8:c9N b r cl ba c = (if (b2S c).nat < 1 ∨ r.length < (b2S c).nat ∨ (b2S c).nat ≤ (c9U c).nat then (I.of .i64 8,b,cl,ba) else c9N b r cl ba c):=by
    split
    ·
     rename_i h
     unfold c9N
     rw [if_neg h1,if_pos h]
    ·
     rfl
   refine Wp.brn (fun h=>?_) (fun h=>?_)
   ·
    have h:I.ltb (b2S c) (I.of .u64 1) = true:=h
    rw [d6U] at h
    have h:=of_decide_eq_true h
    rw [e8,if_pos (.inl h)]
    rfl
   ·
    have h:I.ltb (b2S c) (I.of .u64 1) = false:=h
    rw [d6U] at h
    have h:¬ (b2S c).nat < 1:=of_decide_eq_false h
    refine Wp.brn (fun g=>?_) (fun g=>?_)
    ·
     have g:I.ltb (I.conv (k:=.i64) .u64 (I.ofNat .i64 (a0G r))) (b2S c) = true:=g
     rw [d6U,hrl] at g
     have g:=of_decide_eq_true g
     rw [e8,if_pos (.inr (.inl g))]
     rfl
    ·
     have g:I.ltb (I.conv (k:=.i64) .u64 (I.ofNat .i64 (a0G r))) (b2S c) = false:=g
     rw [d6U,hrl] at g
     have g:=of_decide_eq_false g
     refine Wp.brn (fun q=>?_) (fun q=>?_)
     ·
      have q:I.leb (b2S c) (c9U c) = true:=q
      rw [e9D] at q
      have q:=of_decide_eq_true q
      rw [e8,if_pos (.inr (.inr q))]
      rfl
     ·
      have q:I.leb (b2S c) (c9U c) = false:=q
      rw [e9D] at q
      have q:=of_decide_eq_false q
      exact hj _ ⟨by omega,rfl⟩
 ·
  intro j hj
  have e2:c9N b r cl ba c = (if (cTo c).val = 0 ∨ (c8R c).val = 0 ∨ 64 < (d2S c).length then (I.of .i64 2,b,cl,ba) else c9N b r cl ba c):=by
   split
   ·
    rename_i h
    unfold c9N
    rw [if_pos h]
   ·
    rfl
  refine Wp.brn (fun h=>?_) (fun h=>?_)
  ·
   have h:(cTo c).val = 0:=iff_eqb.1 h
   rw [e2,if_pos (.inl h)]
   rfl
  ·
   have h:(cTo c).val ≠ 0:=niff_eqb.1 h
   refine Wp.optF (c1E (c8R c)) ?_
   refine Wp.brn (fun g=>?_) (fun g=>?_)
   ·
    have g:=of_decide_eq_true g
    rw [e2,if_pos (.inr (.inl g))]
    rfl
   ·
    have g:=of_decide_eq_false g
    have e:I.ltb (I.of .i64 64) (I.ofNat .i64 (a0G (d2S c))) = decide (64 < (d2S c).length):=a2M (n:=64) (by omega) (by show (d2S c).length < _; omega)
    refine Wp.brn (fun q=>?_) (fun q=>?_)
    ·
     have q:I.ltb (I.of .i64 64) (I.ofNat .i64 (a0G (d2S c))) = true:=q
     rw [e] at q
     have q:=of_decide_eq_true q
     rw [e2,if_pos (.inr (.inr q))]
     rfl
    ·
     have q:I.ltb (I.of .i64 64) (I.ofNat .i64 (a0G (d2S c))) = false:=q
     rw [e] at q
     have q:=of_decide_eq_false q
     exact hj _ ⟨by omega,rfl⟩
end Sym

/- The machine of the reference. -/
namespace Sym
open Go
theorem f9T (p:Prm) (k:I .i64) (n:U):Tot (a7P K0 ((p,(k,(n,()))),())):=by
 refine Wp.out (T:=fun o=>Tot o) ?_
 unfold a7P
 refine Wp.jn (fun x=>(1 ≤ k.val∧k.val ≤ 12)∧∃ z,x = ((k,()),(p,(n,(z,()))))) ?_ ?_
 ·
  rintro x ⟨hk,z,rfl⟩
  refine Wp.optF (b6B p) (Wp.brn (fun _=>⟨_,rfl⟩) (fun _=>Wp.tot ⟨_,rfl⟩ (fun y2=>?_)))
  have hs:(I.sub k (I.of .i64 1)).val = k.val - 1:=by rw [a9Z (by rw [show (I.of .i64 1).val = 1 from rfl]; omega)]; rfl
  refine Wp.brnT (iff_inB.2 (by show 0 ≤ (I.sub k (I.of .i64 1)).val∧(I.sub k (I.of .i64 1)).val < ((12:Nat):Int); omega)) ?_
  refine Wp.iter (fun x=>∃ i,i ≤ 12∧x.1.1 = i6 i) (fun x=>12 - x.1.1.val.toNat) ?_ ⟨0,by omega,rfl⟩ (by rw [a6G]; show 12 - 0 < _; decide)
  rintro ⟨⟨j,⟨⟩⟩,x3⟩ ⟨i,hi,e2⟩
  simp only at e2
  subst e2
  refine Wp.brn (fun hc=>?_) (fun hc=>?_)
  ·
   have hc:i < 12:=by have:=iff_ltb.1 hc; simp only [a0V (show i < 9223372036854775808 by omega),show (I.of .i64 12).val = 12 from rfl] at this; omega
   have hn:I.add (i6 i) (I.of .i64 1) = i6 (i + 1):=a3H (m:=1) (by omega)
   refine Wp.brnT (a3D hc (by omega)) (Wp.optF (d0D _) (Wp.brn (fun _=>Wp.done ⟨_,rfl⟩) (fun _=>Wp.again ⟨i + 1,by omega,hn⟩ ?_)))
   show 12 - (I.add (i6 i) (I.of .i64 1)).val.toNat < 12 - (i6 i).val.toNat
   rw [hn,a0V (by omega),a0V (by omega)]; omega
  ·
   exact Wp.done (Wp.optF (b6B _) (Wp.brn (fun _=>⟨_,rfl⟩) (fun _=>⟨_,rfl⟩)))
 ·
  intro j hj
  refine Wp.brn (fun _=>⟨_,rfl⟩) (fun h=>Wp.brn (fun _=>⟨_,rfl⟩) (fun g=>hj _ ⟨?_,_,rfl⟩))
  have h:(I.of .i64 1).val ≤ k.val:=niff_ltb.1 h
  have g:k.val ≤ (I.of .i64 12).val:=niff_ltb.1 g
  exact ⟨h,g⟩
structure MS where
 steps:I .u64
 pm:Prm
 bk:f7K
 bl:I .u64
 pr:PrT
 v:V4
 ac:List Ac
 ms:List Msg
 bal:U
 rt:List Hs
 cl:List (I .u64)
 ba:List Pay
abbrev HM:Type:=a0Y × (a0P × (a0W × ((List a0C) × ((List a0F) × ((List a0I) × ((List (I .u64)) × ((List a0E) × Unit)))))))
def MS.h (m:MS):HM:=((m.steps,(m.pm,(m.bk,(m.bl,(m.pr,((),((),((),())))))))),(lgH m.v,(esH m.bal,(m.ms,(m.ac,(m.rt,(m.cl,(m.ba,()))))))))
def MS.j (m:MS):a0Y:=(m.steps,(m.pm,(m.bk,(m.bl,(m.pr,((),((),((),()))))))))
structure Sz (n:Nat) (m:MS):Prop where
 ac:m.ac.length ≤ n
 ms:m.ms.length ≤ n
 rt:m.rt.length ≤ n
 cl:m.cl.length ≤ n
 ba:m.ba.length ≤ n
 pr:m.pr.posters.length ≤ n
theorem Sz.mono {n k:Nat} {m:MS} (h:Sz n m) (hk:n ≤ k):Sz k m:=⟨Nat.le_trans h.ac hk,Nat.le_trans h.ms hk,Nat.le_trans h.rt hk,Nat.le_trans h.cl hk,Nat.le_trans h.ba hk,Nat.le_trans h.pr hk⟩
noncomputable def rtS (l:List Msg):Hs:=((a9V K0 ((l,(i6 l.length,())),())).getD ((a2N,(false,())),())).1.1
def c6O (m:MS) (to:I .u64) (n:U):Msg:=(I.conv (k:=.i64) .u64 (I.ofNat .i64 (a0G m.ms)),(to,(n,())))
noncomputable def e7L (m:MS) (to:I .u64) (n:U):MS:={ m with ms:=m.ms ++ [c6O m to n],rt:=m.rt ++ [rtS (m.ms ++ [c6O m to n])] }
theorem f2N (m:MS) (to:I .u64) (n:U) (h:Sz 1000000000 m):a5C K0 ((to,(n,())),m.h) = some ((c6O m to n,()),(e7L m to n).h):=by
 refine Wp.out (T:=fun o=>o = some ((c6O m to n,()),(e7L m to n).h)) ?_
 unfold a5C
 have hl:=h.ms
 have hr:=h.rt
 have e1:(m.ms ++ [c6O m to n]).length = m.ms.length + 1:=by simp
 refine Wp.brnT (b9U _ _ (by show m.ms.length + 1 ≤ _; omega)) ?_
 obtain ⟨y0,hy0⟩:=e6O (m.ms ++ [c6O m to n]) (by omega)
 have hrt:rtS (m.ms ++ [c6O m to n]) = y0.1.1:=by unfold rtS; rw [hy0]; rfl
 refine Wp.optF hy0 ?_
 refine Wp.brnT (b9U _ _ (by show m.rt.length + 1 ≤ _; omega)) ?_
 unfold e7L
 rw [hrt]
 rfl
theorem e3P {k:Nat} {m:MS} (h:Sz k m) (to:I .u64) (n:U):Sz (k + 1) (e7L m to n) :=
 ⟨Nat.le_succ_of_le h.ac,by show (m.ms ++ [_]).length ≤ _; have:=h.ms; simp; omega,by show (m.rt ++ [_]).length ≤ _; have:=h.rt; simp; omega,Nat.le_succ_of_le h.cl,Nat.le_succ_of_le h.ba,Nat.le_succ_of_le h.pr⟩
end Sym

/- The machine of the reference: transactions. -/
namespace Sym
open Go
abbrev Rcp:Type:=a1G
abbrev Txn:Type:=a8A
abbrev Chg:Type:=a9M
def a3S (t:Txn):I .u64:=t.1
def e9T (t:Txn):I .u64:=t.2.1
def tTo (t:Txn):I .u64:=t.2.2.1
def c9C (t:Txn):U:=t.2.2.2.1
def f6H (t:Txn):I .u64:=t.2.2.2.2.1
def e5W (t:Txn):U:=t.2.2.2.2.2.1
def e7K (t:Txn):U:=t.2.2.2.2.2.2.1
def tEx (t:Txn):I .u64:=t.2.2.2.2.2.2.2.1
def c4J (t:Txn):List (I .u8):=t.2.2.2.2.2.2.2.2.1
def e1Y (k:f7K):U:=k.2.2.2.1
def f2F (k:f7K):I .u64:=k.2.2.1
noncomputable def g2M (k:f7K) (p:Prm):I .u64:=if I.ltb p.2.2.2.2.1 (f2F k) = true then I.of .u64 0 else I.sub p.2.2.2.2.1 (f2F k)
theorem g5N (k:f7K) (p:Prm):a6W K0 ((k,(p,())),()) = some ((g2M k p,()),()):=by
 refine Wp.out (T:=fun o=>o = some ((g2M k p,()),())) ?_
 unfold a6W g2M
 refine Wp.brn (fun h=>?_) (fun h=>?_)
 ·
  have h:I.ltb p.2.2.2.2.1 (f2F k) = true:=h
  rw [if_pos h]; rfl
 ·
  have h:I.ltb p.2.2.2.2.1 (f2F k) = false:=h
  rw [if_neg (by rw [h]; decide)]; rfl
noncomputable def c3N (m:MS) (t:Txn):U × I .i64 :=
 if 4096 < (c4J t).length then (Z_U,I.of .i64 6)
 else if (a3S t).val = 0 ∨ (tTo t).val = 0 ∨ (a3S t).val = 18446744073709551615 then (Z_U,I.of .i64 2)
 else if I.neb (e9T t) (c3P m.ac (a3S t)).2.2.1 = true then (Z_U,I.of .i64 11)
 else if I.eqb (I.add (c3P m.ac (a3S t)).2.2.1 (I.of .u64 1)) (I.of .u64 0) = true then (Z_U,I.of .i64 4)
 else if I.neb (e3X (e5W t,e7K t) (e1Y m.bk)).2 (I.of .i64 0) = true then (Z_U,(e3X (e5W t,e7K t) (e1Y m.bk)).2)
 else if I.ltb (g2M m.bk m.pm) (f6H t) = true then (Z_U,I.of .i64 13)
 else if d4X (f6H t) (e3X (e5W t,e7K t) (e1Y m.bk)).1 (c9C t) (c3P m.ac (a3S t)).2.1 = false then (Z_U,I.of .i64 10)
 else ((e3X (e5W t,e7K t) (e1Y m.bk)).1,I.of .i64 0)
theorem f7S {b:Bool} (h:a3I b = true):b = false:=by cases b <;> simp [a3I] at h ⊢
theorem g3U {b:Bool} (h:a3I b = false):b = true:=by cases b <;> simp [a3I] at h ⊢
theorem a8S {b:Bool} (h:b = false):¬ b = true:=by rw [h]; decide
theorem g0K (m:MS) (t:Txn) (h:Sz 1000000000 m) (ht:(c4J t).length ≤ 1073741824):a6J K0 ((t,()),m.h) = some (((c3N m t).1,((c3N m t).2,())),m.h):=by
 refine Wp.out (T:=fun o=>o = some (((c3N m t).1,((c3N m t).2,())),m.h)) ?_
 unfold a6J
 have e:I.ltb (I.of .i64 4096) (I.ofNat .i64 (a0G (c4J t))) = decide (4096 < (c4J t).length):=a2M (n:=4096) (by omega) (by show (c4J t).length < _; omega)
 refine Wp.brn (fun q=>?_) (fun q=>?_)
 ·
  have q:I.ltb (I.of .i64 4096) (I.ofNat .i64 (a0G (c4J t))) = true:=q
  rw [e] at q
  unfold c3N
  rw [if_pos (of_decide_eq_true q)]
  rfl
 ·
  have q:I.ltb (I.of .i64 4096) (I.ofNat .i64 (a0G (c4J t))) = false:=q
  rw [e] at q
  have q:=of_decide_eq_false q
  refine Wp.jn (fun x=>(¬ ((a3S t).val = 0 ∨ (tTo t).val = 0 ∨ (a3S t).val = 18446744073709551615))∧x = ((),(m.j,(lgH m.v,(m.ac,(m.ms,(esH m.bal,(m.rt,(m.cl,(m.ba,(t,(Z_U,(Z_U,())))))))))))) ) ?_ ?_
  ·
   rintro x ⟨h1,rfl⟩
   unfold c3N
   rw [if_neg q,if_neg h1]
   have hg:=d8Q m.ac (lgH m.v).2 (a3S t) (by have:=h.ac; omega)
   refine Wp.optF hg ?_
   refine Wp.brn (fun h2=>?_) (fun h2=>?_)
   ·
    have h2:I.neb (e9T t) (c3P m.ac (a3S t)).2.2.1 = true:=h2
    rw [if_pos h2]; rfl
   ·
    have h2:I.neb (e9T t) (c3P m.ac (a3S t)).2.2.1 = false:=h2
    rw [if_neg (a8S h2)]
    refine Wp.brn (fun h3=>?_) (fun h3=>?_)
    ·
     have h3:I.eqb (I.add (c3P m.ac (a3S t)).2.2.1 (I.of .u64 1)) (I.of .u64 0) = true:=h3
     rw [if_pos h3]; rfl
    ·
     have h3:I.eqb (I.add (c3P m.ac (a3S t)).2.2.1 (I.of .u64 1)) (I.of .u64 0) = false:=h3
     rw [if_neg (a8S h3)]
     refine Wp.optF (g1F t.1 t.2.1 t.2.2.1 t.2.2.2.2.1 t.2.2.2.2.2.2.2.1 t.2.2.2.2.2.2.2.2.1 (c9C t) (e5W t) (e7K t) (e1Y m.bk)) ?_
     refine Wp.brn (fun h4=>?_) (fun h4=>?_)
     ·
      have h4:I.neb (e3X (e5W t,e7K t) (e1Y m.bk)).2 (I.of .i64 0) = true:=h4
      rw [if_pos h4]; rfl
     ·
      have h4:I.neb (e3X (e5W t,e7K t) (e1Y m.bk)).2 (I.of .i64 0) = false:=h4
      rw [if_neg (a8S h4)]
      refine Wp.optF (g5N m.bk m.pm) ?_
      refine Wp.brn (fun h5=>?_) (fun h5=>?_)
      ·
       have h5:I.ltb (g2M m.bk m.pm) (f6H t) = true:=h5
       rw [if_pos h5]; rfl
      ·
       have h5:I.ltb (g2M m.bk m.pm) (f6H t) = false:=h5
       rw [if_neg (a8S h5)]
       refine Wp.optF (g1S t.1 t.2.1 t.2.2.1 (f6H t) t.2.2.2.2.2.2.2.1 t.2.2.2.2.2.2.2.2.1 (c9C t) (e5W t) (e7K t) (e3X (e5W t,e7K t) (e1Y m.bk)).1 (c3P m.ac (a3S t)).2.1) ?_
       refine Wp.brn (fun h6=>?_) (fun h6=>?_)
       ·
        have h6:d4X (f6H t) (e3X (e5W t,e7K t) (e1Y m.bk)).1 (c9C t) (c3P m.ac (a3S t)).2.1 = false:=f7S h6
        rw [if_pos h6]; rfl
       ·
        have h6:d4X (f6H t) (e3X (e5W t,e7K t) (e1Y m.bk)).1 (c9C t) (c3P m.ac (a3S t)).2.1 = true:=g3U h6
        rw [if_neg (by rw [h6]; decide)]; rfl
  ·
   intro j hj
   have e2:(a3S t).val = 0 ∨ (tTo t).val = 0 ∨ (a3S t).val = 18446744073709551615→c3N m t = (Z_U,I.of .i64 2):=by
    intro hh
    unfold c3N
    rw [if_neg q,if_pos hh]
   refine Wp.brn (fun h1=>?_) (fun h1=>?_)
   ·
    have h1:(a3S t).val = 0:=iff_eqb.1 h1
    rw [e2 (.inl h1)]; rfl
   ·
    have h1:(a3S t).val ≠ 0:=niff_eqb.1 h1
    refine Wp.brn (fun h2=>?_) (fun h2=>?_)
    ·
     have h2:(tTo t).val = 0:=iff_eqb.1 h2
     rw [e2 (.inr (.inl h2))]; rfl
    ·
     have h2:(tTo t).val ≠ 0:=niff_eqb.1 h2
     refine Wp.brn (fun h3=>?_) (fun h3=>?_)
     ·
      have h3:(a3S t).val = (I.of .u64 18446744073709551615).val:=iff_eqb.1 h3
      rw [e2 (.inr (.inr h3))]; rfl
     ·
      have h3:(a3S t).val ≠ (I.of .u64 18446744073709551615).val:=niff_eqb.1 h3
      have c:(I.of .u64 18446744073709551615).val = 18446744073709551615:=rfl
      exact hj _ ⟨by omega,rfl⟩
end Sym

/- The pricer's tables stay small. -/
namespace Sym
open Go
theorem f2A {s:PrT} {p:Prm} {pool:U} {r:RepT} {now:I .u64} (h:¬ (b3K s p pool r now).2.2.val = 0):(b3K s p pool r now).1 = zPr∧(b3K s p pool r now).2.1 = g2N:=by
 unfold b3K at h ⊢
 by_cases h1:(c5G s p r now).val = 0
 ·
  rw [if_pos h1] at h ⊢
  by_cases h2:p.rpu.val * c4V s r now < U.top
  ·
   rw [if_pos h2] at h ⊢
   by_cases h3:(b4T s p r now).2.val = 0
   ·
    rw [if_pos h3] at h ⊢
    by_cases h4:(a3J (b4T s p r now).1 (a2G (b4T s p r now).1 pool)).2.val = 0
    ·
     rw [if_pos h4] at h ⊢
     by_cases h5:(c6F (c1T s (a3J (b4T s p r now).1 (a2G (b4T s p r now).1 pool)).1) p pool (b9P s p r now (a2G (b4T s p r now).1 pool))).2.val = 0
     ·
      rw [if_pos h5] at h
      exact absurd rfl h
     ·
      rw [if_neg h5]; exact ⟨rfl,rfl⟩
    ·
     rw [if_neg h4]; exact ⟨rfl,rfl⟩
   ·
    rw [if_neg h3]; exact ⟨rfl,rfl⟩
  ·
   rw [if_neg h2]; exact ⟨rfl,rfl⟩
 ·
  rw [if_neg h1]; exact ⟨rfl,rfl⟩
theorem e8L (s:PrT) (p:Prm) (pool:U) (r:RepT) (now:I .u64):(b3K s p pool r now).1.posters.length ≤ 64∧(b3K s p pool r now).2.1.2.2.1.length ≤ 64:=by
 by_cases h:(b3K s p pool r now).2.2.val = 0
 ·
  have hR:=g5B h
  refine ⟨hR.tab2.1,?_⟩
  rw [hR.out]
  exact Nat.le_trans (d3V _ _) hR.tab1.1
 ·
  rw [(f2A h).1,(f2A h).2]
  exact ⟨Nat.zero_le _,Nat.zero_le _⟩
theorem f5K (l:List Post) (a:I .u64):(d2U l a).1.length ≤ l.length + 1:=by
 unfold d2U
 split
 ·
  split
  ·
   exact Nat.zero_le _
  ·
   split
   ·
    exact Nat.zero_le _
   ·
    exact Nat.le_of_eq (e4H l a)
 ·
  exact Nat.zero_le _
theorem d6L (s:PrT) (a:I .u64):(a8W s a).1.posters.length ≤ s.posters.length + 1:=by
 unfold a8W
 split
 ·
  split
  ·
   exact f5K _ _
  ·
   exact Nat.zero_le _
 ·
  exact Nat.zero_le _
theorem c8S (s:PrT) (n:I .u64):(a7Q s n).1.posters.length ≤ s.posters.length:=by
 unfold a7Q
 split
 ·
  split
  ·
   exact Nat.le_refl _
  ·
   exact Nat.zero_le _
 ·
  exact Nat.zero_le _
end Sym

/- The machine of the reference: what a transaction does. -/
namespace Sym
open Go
noncomputable abbrev h0H:Chg:=a2B
noncomputable section
def f3E (e:I .i64):Rcp:=(I.of .i64 0,(e,(h0H,(Z_U,(Z_U,(I.of .u64 0,(Z_U,(Z_U,([],())))))))))
def txR (c:Chg) (price value:U) (l:List Msg):Rcp:=(I.of .i64 0,(I.of .i64 0,(c,(price,(value,(I.of .u64 0,(Z_U,(Z_U,(l,())))))))))
def c4A (c:Chg):I .u64:=c.1
def g3M (c:Chg):I .u64:=c.2.2.1
def g7A (c:Chg):I .u64:=c.2.2.2.1
def cOut (c:Chg):Bool:=c.2.2.2.2.1
def d9J (c:Chg):U:=c.2.2.2.2.2.2.1
def d0S (c:Chg):U:=c.2.2.2.2.2.2.2.1
def g2I (c:Chg):U:=c.2.2.2.2.2.2.2.2.1
def f2G (c:Chg):U:=c.2.2.2.2.2.2.2.2.2.1
def a5X (m:MS) (t:Txn):Chg × I .i64:=g5F (c4J t) (f6H t) (tEx t) (e5W t) (e7K t) (e1Y m.bk) m.pr.1 m.pm
def f7R (a b:I .u64):I .u64:=((a8V K0 ((a,(b,())),())).getD ((I.of .u64 0,()),())).1.1
theorem f6B (a b:I .u64):a8V K0 ((a,(b,())),()) = some ((f7R a b,()),()):=(e9I a b).val ((I.of .u64 0,()),())
def d8I (m:MS) (a:I .u64) (c:Chg):LgR:=c7S m.v m.ac a 2 (d9J c)
def d8S (m:MS) (a:I .u64) (c:Chg):LgR:=c7S (d8I m a c).2.1 (d8I m a c).2.2 a 1 (d0S c)
def d8R (m:MS) (a:I .u64) (c:Chg):LgR:=c7S (d8S m a c).2.1 (d8S m a c).2.2 a 0 (g2I c)
def d0E (m:MS) (a:I .u64) (c:Chg):LgR:=c7S (d8R m a c).2.1 (d8R m a c).2.2 a 3 (f2G c)
def d2W (m:MS) (a:I .u64) (c:Chg):List Ac:=(f7M (d0E m a c).2.2 a).2
theorem b6X (v:V4) (l:List Ac) (a:I .u64) (k:Nat) (n:U):(c7S v l a k n).2.2.length ≤ l.length + 1:=by
 unfold c7S
 split
 ·
  exact Nat.le_succ _
 ·
  split <;> exact c1H _ _ _
theorem e4R (l:List Ac) (a:I .u64):(f7M l a).2.length ≤ l.length + 1:=by
 unfold f7M
 split
 ·
  exact Nat.le_succ _
 ·
  split
  ·
   exact Nat.le_succ _
  ·
   exact d5A _ _
def e6A (m:MS) (t:Txn) (c:Chg) (q:PrT):MS :=
 { m with bk:=(m.bk.1,(m.bk.2.1,(I.add (f2F m.bk) (g7A c),m.bk.2.2.2))),bl:=f7R m.bl (g3M c),pr:=q,v:=(d0E m (a3S t) c).2.1,ac:=d2W m (a3S t) c }
def g4N (m:MS) (t:Txn) (c:Chg) (price:U):Rcp × MS :=
 if I.neb (tTo t) (I.of .u64 18446744073709551615) = true then (txR c price (c9C t) [],{ m with ac:=(f4S m.ac (a3S t) (tTo t) (c9C t)).2 })
 else if (c9C t).val = 0 then (txR c price (c9C t) [],m)
 else (txR c price (c9C t) [c6O m (a3S t) (c9C t)],e7L { m with ac:=(e2W m.ac (a3S t) (c9C t)).2 } (a3S t) (c9C t))
def txS (m:MS) (t:Txn):Rcp × MS :=
 if I.neb (c3N m t).2 (I.of .i64 0) = true then (f3E (c3N m t).2,m)
 else if I.neb (a5X m t).2 (I.of .i64 0) = true then (f3E (a5X m t).2,m)
 else if I.neb (a7Q m.pr (c4A (a5X m t).1)).2 (I.of .i64 0) = true then (f3E (I.of .i64 4),m)
 else if cOut (a5X m t).1 = true then (txR (a5X m t).1 (c3N m t).1 Z_U [],e6A m t (a5X m t).1 (a7Q m.pr (c4A (a5X m t).1)).1)
 else if I.eqb (tTo t) (a3S t) = true then (txR (a5X m t).1 (c3N m t).1 Z_U [],e6A m t (a5X m t).1 (a7Q m.pr (c4A (a5X m t).1)).1)
 else g4N (e6A m t (a5X m t).1 (a7Q m.pr (c4A (a5X m t).1)).1) t (a5X m t).1 (c3N m t).1
def g4C (r:Rcp):((I .i64) × ((I .i64) × (a9M × (U × (U × ((I .u64) × (U × (U × (Unit × Unit))))))))):=(r.1,(r.2.1,(r.2.2.1,(r.2.2.2.1,(r.2.2.2.2.1,(r.2.2.2.2.2.1,(r.2.2.2.2.2.2.1,(r.2.2.2.2.2.2.2.1,((),())))))))))
theorem e7P {m:MS} {t:Txn} (h:I.neb (c3N m t).2 (I.of .i64 0) = false):(c4J t).length ≤ 4096:=by
 by_cases q:4096 < (c4J t).length
 ·
  unfold c3N at h
  rw [if_pos q] at h
  exact absurd h (by decide)
 ·
  omega
theorem g8Z (m:MS) (t:Txn) (h:Sz 100000000 m) (ht:(c4J t).length ≤ 1073741824):a7Y K0 ((t,()),m.h) = some (((txS m t).1,()),(txS m t).2.h):=by
 refine Wp.out (T:=fun o=>o = some (((txS m t).1,()),(txS m t).2.h)) ?_
 unfold a7Y txS
 have hac:=h.ac
 refine Wp.optF (g0K m t (h.mono (by decide)) ht) ?_
 refine Wp.brn (fun h1=>?_) (fun h1=>?_)
 ·
  have h1:I.neb (c3N m t).2 (I.of .i64 0) = true:=h1
  rw [if_pos h1]; rfl
 ·
  have h1:I.neb (c3N m t).2 (I.of .i64 0) = false:=h1
  rw [if_neg (a8S h1)]
  have hd:=e7P h1
  have hcomp:=e0W t.1 t.2.1 t.2.2.1 (f6H t) (tEx t) (c4J t) (c9C t) (e5W t) (e7K t) (e1Y m.bk) m.pr.1 m.pm (by omega)
  refine Wp.optF hcomp ?_
  refine Wp.brn (fun h2=>?_) (fun h2=>?_)
  ·
   have h2:I.neb (a5X m t).2 (I.of .i64 0) = true:=h2
   rw [if_pos h2]; rfl
  ·
   have h2:I.neb (a5X m t).2 (I.of .i64 0) = false:=h2
   rw [if_neg (a8S h2)]
   refine Wp.optF (d9B m.pr (c4A (a5X m t).1) (by have:=h.pr; omega)) ?_
   refine Wp.brn (fun h3=>?_) (fun h3=>?_)
   ·
    have h3:I.neb (a7Q m.pr (c4A (a5X m t).1)).2 (I.of .i64 0) = true:=h3
    rw [if_pos h3]; rfl
   ·
    have h3:I.neb (a7Q m.pr (c4A (a5X m t).1)).2 (I.of .i64 0) = false:=h3
    rw [if_neg (a8S h3)]
    have l1:(d8I m (a3S t) (a5X m t).1).2.2.length ≤ m.ac.length + 1:=b6X _ _ _ _ _
    have l2:(d8S m (a3S t) (a5X m t).1).2.2.length ≤ (d8I m (a3S t) (a5X m t).1).2.2.length + 1:=b6X _ _ _ _ _
    have l3:(d8R m (a3S t) (a5X m t).1).2.2.length ≤ (d8S m (a3S t) (a5X m t).1).2.2.length + 1:=b6X _ _ _ _ _
    have l4:(d0E m (a3S t) (a5X m t).1).2.2.length ≤ (d8R m (a3S t) (a5X m t).1).2.2.length + 1:=b6X _ _ _ _ _
    have l5:(d2W m (a3S t) (a5X m t).1).length ≤ (d0E m (a3S t) (a5X m t).1).2.2.length + 1:=e4R _ _
    have p1:=d6K m.v m.ac (a3S t) 2 (by omega) (d9J (a5X m t).1) (by omega)
    have p2:=d6K (d8I m (a3S t) (a5X m t).1).2.1 (d8I m (a3S t) (a5X m t).1).2.2 (a3S t) 1 (by omega) (d0S (a5X m t).1) (by omega)
    have p3:=d6K (d8S m (a3S t) (a5X m t).1).2.1 (d8S m (a3S t) (a5X m t).1).2.2 (a3S t) 0 (by omega) (g2I (a5X m t).1) (by omega)
    have p4:=d6K (d8R m (a3S t) (a5X m t).1).2.1 (d8R m (a3S t) (a5X m t).1).2.2 (a3S t) 3 (by omega) (f2G (a5X m t).1) (by omega)
    have p5:=g6F (d0E m (a3S t) (a5X m t).1).2.1 (d0E m (a3S t) (a5X m t).1).2.2 (a3S t) (by omega)
    refine Wp.optF p1 (Wp.optF p2 (Wp.optF p3 (Wp.optF p4 (Wp.optF p5 (Wp.optF (f6B m.bl (g3M (a5X m t).1)) ?_)))))
    refine Wp.jn (fun x=>(cOut (a5X m t).1 = false∧I.eqb (tTo t) (a3S t) = false)∧x = ((),((e6A m t (a5X m t).1 (a7Q m.pr (c4A (a5X m t).1)).1).j,(lgH (d0E m (a3S t) (a5X m t).1).2.1,(d2W m (a3S t) (a5X m t).1,(m.ms,(esH m.bal,(m.rt,(m.cl,(m.ba,(t,(g4C (f3E (I.of .i64 0)),([],(g4C (txR (a5X m t).1 (c3N m t).1 Z_U []),([],())))))))))))))) ) ?_ ?_
    ·
     rintro x ⟨⟨g1,g2⟩,rfl⟩
     rw [if_neg (a8S g1),if_neg (a8S g2)]
     unfold g4N
     refine Wp.brn (fun h4=>?_) (fun h4=>?_)
     ·
      have h4:I.neb (tTo t) (I.of .u64 18446744073709551615) = true:=h4
      rw [if_pos h4]
      have p6:=g3D (d0E m (a3S t) (a5X m t).1).2.1 (d2W m (a3S t) (a5X m t).1) (a3S t) (tTo t) (c9C t) (by omega)
      exact Wp.optF p6 rfl
     ·
      have h4:I.neb (tTo t) (I.of .u64 18446744073709551615) = false:=h4
      rw [if_neg (a8S h4)]
      refine Wp.optF (c1E (c9C t)) ?_
      refine Wp.brn (fun h5=>?_) (fun h5=>?_)
      ·
       have h5:decide ((c9C t).val = 0) = false:=f7S h5
       rw [if_neg (of_decide_eq_false h5)]
       have p6:=g4V (d0E m (a3S t) (a5X m t).1).2.1 (d2W m (a3S t) (a5X m t).1) (a3S t) (c9C t) (by omega)
       refine Wp.optF p6 ?_
       have l6:(e2W (d2W m (a3S t) (a5X m t).1) (a3S t) (c9C t)).2.length ≤ (d2W m (a3S t) (a5X m t).1).length + 1:=by
        unfold e2W
        split
        ·
         exact Nat.le_succ _
        ·
         exact c1H _ _ _
       have p7:=f2N { e6A m t (a5X m t).1 (a7Q m.pr (c4A (a5X m t).1)).1 with ac:=(e2W (d2W m (a3S t) (a5X m t).1) (a3S t) (c9C t)).2 } (a3S t) (c9C t) ⟨by show (e2W _ _ _).2.length ≤ _; omega,Nat.le_trans h.ms (by decide),Nat.le_trans h.rt (by decide),Nat.le_trans h.cl (by decide),Nat.le_trans h.ba (by decide),by have:=c8S m.pr (c4A (a5X m t).1); have:=h.pr; show (a7Q m.pr (c4A (a5X m t).1)).1.posters.length ≤ _; omega⟩
       refine Wp.optF p7 (Wp.brnT (b9U _ _ (by show 0 + 1 ≤ _; omega)) rfl)
      ·
       have h5:decide ((c9C t).val = 0) = true:=g3U h5
       rw [if_pos (of_decide_eq_true h5)]
       rfl
    ·
     intro j hj
     refine Wp.brn (fun h4=>?_) (fun h4=>?_)
     ·
      have h4:cOut (a5X m t).1 = true:=h4
      rw [if_pos h4]; rfl
     ·
      have h4:cOut (a5X m t).1 = false:=h4
      refine Wp.brn (fun h5=>?_) (fun h5=>?_)
      ·
       have h5:I.eqb (tTo t) (a3S t) = true:=h5
       rw [if_neg (a8S h4),if_pos h5]; rfl
      ·
       have h5:I.eqb (tTo t) (a3S t) = false:=h5
       exact hj _ ⟨⟨h4,h5⟩,rfl⟩
end
end Sym

/- The machine of the reference: reports. -/
namespace Sym
open Go
noncomputable def e2E (s:MS × List Msg) (p:Pay):MS × List Msg:=(e7L { s.1 with v:=(f4I s.1.v 2 p.2.1).2 } p.1 p.2.1,s.2 ++ [c6O s.1 p.1 p.2.1])
noncomputable def c3M (m:MS) (l:List Pay):MS × List Msg:=l.foldl e2E (m,[])
theorem d3Z (m:MS) (l:List Pay) (i:Nat) (h:i < l.length):c3M m (l.take (i + 1)) = e2E (c3M m (l.take i)) (rdL d2O l i):=by
 unfold c3M
 rw [List.take_add_one,List.getElem?_eq_getElem h,a4N _ _ _ h,List.foldl_append]
 rfl
theorem e6Z {k:Nat} {s:MS × List Msg} (h:Sz k s.1) (p:Pay):Sz (k + 1) (e2E s p).1 :=
 e3P (m:={ s.1 with v:=(f4I s.1.v 2 p.2.1).2 }) ⟨h.ac,h.ms,h.rt,h.cl,h.ba,h.pr⟩ _ _
theorem d5Z {k:Nat} {m:MS} (h:Sz k m) (l:List Pay):∀ i,i ≤ l.length→Sz (k + i) (c3M m (l.take i)).1∧(c3M m (l.take i)).2.length = i
 | 0,_=>⟨h,rfl⟩
 | i + 1,hi=>by
  obtain ⟨h1,h2⟩:=d5Z h l i (by omega)
  rw [d3Z m l i (by omega)]
  refine ⟨e6Z h1 _,?_⟩
  show (_ ++ [_]).length = _
  rw [List.length_append,h2]
  rfl
noncomputable def h0O (o:f9U) (paid:U) (l:List Msg):Rcp:=(I.of .i64 0,(I.of .i64 0,(h0H,(Z_U,(Z_U,(o.1,(o.2.1,(paid,(l,())))))))))
noncomputable def d1M (m:MS) (r:RepT):PrT × f9U × I .i64:=b3K m.pr m.pm (e7E m.v 2) r m.bk.2.1
noncomputable def c2E (m:MS) (r:RepT):List Pay:=(d1M m r).2.1.2.2.1
noncomputable def g8U (m:MS) (r:RepT):MS × List Msg:=c3M { m with pr:=(d1M m r).1 } (c2E m r)
noncomputable def f3C (m:MS) (r:RepT):Rcp × MS :=
 if I.neb (d1M m r).2.2 (I.of .i64 0) = true then (f3E (d1M m r).2.2,m)
 else (h0O (d1M m r).2.1 (c5H (b2E ((c2E m r).map amt))).1 (g8U m r).2,(g8U m r).1)
theorem g3N (m:MS) (r:RepT) (h:Sz 100000000 m):a5R K0 ((r,()),m.h) = some (((f3C m r).1,()),(f3C m r).2.h):=by
 refine Wp.out (T:=fun o=>o = some (((f3C m r).1,()),(f3C m r).2.h)) ?_
 unfold a5R f3C
 refine Wp.optF (f5H m.ac m.v 2 (by omega)) ?_
 refine Wp.optF (e7J m.pr m.pm (e7E m.v 2) r m.bk.2.1 (by have:=h.pr; omega)) ?_
 refine Wp.brn (fun h1=>?_) (fun h1=>?_)
 ·
  have h1:I.neb (d1M m r).2.2 (I.of .i64 0) = true:=h1
  rw [if_pos h1]; rfl
 ·
  have h1:I.neb (d1M m r).2.2 (I.of .i64 0) = false:=h1
  rw [if_neg (a8S h1)]
  have hlen:=e8L m.pr m.pm (e7E m.v 2) r m.bk.2.1
  have hpl:(c2E m r).length ≤ 64:=hlen.2
  refine Wp.optF (f0P (l:=c2E m r) (by omega)) ?_
  have hsz0:Sz 100000000 { m with pr:=(d1M m r).1 }:=⟨h.ac,h.ms,h.rt,h.cl,h.ba,Nat.le_trans hlen.1 (by decide)⟩
  refine Wp.iter (fun x=>∃ i,i ≤ (c2E m r).length∧x = ((i6 i,()),((c3M { m with pr:=(d1M m r).1 } ((c2E m r).take i)).1.j,(lgH (c3M { m with pr:=(d1M m r).1 } ((c2E m r).take i)).1.v,((c3M { m with pr:=(d1M m r).1 } ((c2E m r).take i)).1.ac,((c3M { m with pr:=(d1M m r).1 } ((c2E m r).take i)).1.ms,(esH (c3M { m with pr:=(d1M m r).1 } ((c2E m r).take i)).1.bal,((c3M { m with pr:=(d1M m r).1 } ((c2E m r).take i)).1.rt,((c3M { m with pr:=(d1M m r).1 } ((c2E m r).take i)).1.cl,((c3M { m with pr:=(d1M m r).1 } ((c2E m r).take i)).1.ba,(g4C (f3E (I.of .i64 0)),([],((d1M m r).2.1,(g4C (h0O (d1M m r).2.1 (c5H (b2E ((c2E m r).map amt))).1 []),((c3M { m with pr:=(d1M m r).1 } ((c2E m r).take i)).2,()))))))))))))))) (fun x=>(c2E m r).length - x.1.1.val.toNat) ?_ ⟨0,by omega,rfl⟩ (by rw [a6G]; show (c2E m r).length - 0 < _; omega)
  rintro x ⟨i,hi,rfl⟩
  obtain ⟨hsz,hml⟩:=d5Z hsz0 (c2E m r) i hi
  have hnx:=fun hc=>d3Z { m with pr:=(d1M m r).1 } (c2E m r) i hc
  have hfin:i = (c2E m r).length→c3M { m with pr:=(d1M m r).1 } ((c2E m r).take i) = g8U m r:=by
   intro e
   rw [e,List.take_length]
   rfl
  generalize c3M { m with pr:=(d1M m r).1 } ((c2E m r).take i) = s at *
  obtain ⟨m',ml⟩:=s
  have e:I.ltb (i6 i) (I.ofNat .i64 (a0G (c2E m r))) = decide (i < (c2E m r).length):=a2M (by omega) (by show (c2E m r).length < _; omega)
  refine Wp.brn (fun hc=>?_) (fun hc=>?_)
  ·
   have hc:I.ltb (i6 i) (I.ofNat .i64 (a0G (c2E m r))) = true:=hc
   rw [e] at hc
   have hc:=of_decide_eq_true hc
   have hin:inB (i6 i) (a0G (c2E m r)) = true:=a3D hc (by omega)
   refine Wp.brnT hin ?_
   have hrd:rdL d2O (c2E m r) (I.nat (i6 i)) = rdL d2O (c2E m r) i:=by rw [a3C (by omega)]
   have w1:=g5E m'.v m'.ac 2 (by omega) (rdL d2O (c2E m r) (I.nat (i6 i))).2.1
   refine Wp.optF w1 (Wp.brnT hin (Wp.brnT hin ?_))
   have w2:=f2N { m' with v:=(f4I m'.v 2 (rdL d2O (c2E m r) (I.nat (i6 i))).2.1).2 } (rdL d2O (c2E m r) (I.nat (i6 i))).1 (rdL d2O (c2E m r) (I.nat (i6 i))).2.1 ((show Sz (100000000 + i) { m' with v:=(f4I m'.v 2 (rdL d2O (c2E m r) (I.nat (i6 i))).2.1).2 } from ⟨hsz.ac,hsz.ms,hsz.rt,hsz.cl,hsz.ba,hsz.pr⟩).mono (by omega))
   refine Wp.optF w2 (Wp.brnT (b9U _ _ (by show ml.length + 1 ≤ _; have:ml.length = i:=hml; omega)) ?_)
   have hn:I.add (i6 i) (I.of .i64 1) = i6 (i + 1):=a3H (m:=1) (by omega)
   refine Wp.again ⟨i + 1,by omega,?_⟩ ?_
   ·
    rw [hnx hc]
    show ((I.add (i6 i) (I.of .i64 1),()),_) = _
    rw [hn,hrd]
    rfl
   ·
    show (c2E m r).length - (I.add (i6 i) (I.of .i64 1)).val.toNat < (c2E m r).length - (i6 i).val.toNat
    rw [hn,a0V (by omega),a0V (by omega)]; omega
  ·
   have hc:I.ltb (i6 i) (I.ofNat .i64 (a0G (c2E m r))) = false:=hc
   rw [e] at hc
   have hc:=of_decide_eq_false hc
   refine Wp.done ?_
   rw [← hfin (by omega)]
   rfl
end Sym

/- The machine of the reference: the other steps; a step. -/
namespace Sym
open Go
abbrev b9H:Type:=a1M
def a8E (s:b9H):I .i64:=s.1
def sTx (s:b9H):Txn:=s.2.1
def g6J (s:b9H):RepT:=s.2.2.1
def e0N (s:b9H):I .u64:=s.2.2.2.1
def g2C (s:b9H):I .i64:=s.2.2.2.2.1
def c9E (s:b9H):U:=s.2.2.2.2.2.1
def d2L (s:b9H):I .u64:=s.2.2.2.2.2.2.1
def e6W (s:b9H):Clm:=s.2.2.2.2.2.2.2.1
noncomputable def f8K (p:Prm) (k:I .i64) (n:U):Prm × I .i64 :=
 (((a7P K0 ((p,(k,(n,()))),())).getD ((a5B,(I.of .i64 0,())),())).1.1,((a7P K0 ((p,(k,(n,()))),())).getD ((a5B,(I.of .i64 0,())),())).1.2.1)
theorem g5T (p:Prm) (k:I .i64) (n:U):a7P K0 ((p,(k,(n,()))),()) = some (((f8K p k n).1,((f8K p k n).2,())),()):=(f9T p k n).val ((a5B,(I.of .i64 0,())),())
def f3D (b:I .u64) (p:Prm) (sec:I .u64):I .u64:=I.of .u64 ((b.nat - p.1.nat * sec.nat:Nat):Int)
theorem g6D (b:I .u64) (p:Prm) (sec:I .u64):b2A K0 ((b,(p.1,(sec,()))),()) = some ((f3D b p sec,()),()):=by
 refine Wp.out (T:=fun o=>o = some ((f3D b p sec,()),())) ?_
 unfold b2A
 exact Wp.optF (f1V b p.1 sec) rfl
noncomputable def f3W (m:MS) (s:b9H):I .i64 × MS :=
 if I.eqb (a8E s) (I.of .i64 3) = true then
  (if I.eqb (c4B m.bk (e0N s) (f3D m.bl m.pm (e0N s)) m.pm).2 (I.of .i64 0) = true then ((c4B m.bk (e0N s) (f3D m.bl m.pm (e0N s)) m.pm).2,{ m with bk:=(c4B m.bk (e0N s) (f3D m.bl m.pm (e0N s)) m.pm).1,bl:=f3D m.bl m.pm (e0N s) })
   else ((c4B m.bk (e0N s) (f3D m.bl m.pm (e0N s)) m.pm).2,m))
 else if I.eqb (a8E s) (I.of .i64 4) = true then
  (if I.eqb (f8K m.pm (g2C s) (c9E s)).2 (I.of .i64 0) = true then ((f8K m.pm (g2C s) (c9E s)).2,{ m with pm:=(f8K m.pm (g2C s) (c9E s)).1 }) else ((f8K m.pm (g2C s) (c9E s)).2,m))
 else if I.eqb (a8E s) (I.of .i64 5) = true then
  (if I.eqb (a8W m.pr (d2L s)).2 (I.of .i64 0) = true then ((a8W m.pr (d2L s)).2,{ m with pr:=(a8W m.pr (d2L s)).1 }) else ((a8W m.pr (d2L s)).2,m))
 else if I.eqb (a8E s) (I.of .i64 6) = true then
  (if (d2L s).val = 0 ∨ (d2L s).val = 18446744073709551615 ∨ (c9E s).val = 0 then (I.of .i64 2,m)
   else if m.bal.val + (c9E s).val < U.top then ((c7Y m.v m.ac (d2L s) (c9E s)).1,{ m with bal:=(g2H m.bal (c9E s)).2,v:=(c7Y m.v m.ac (d2L s) (c9E s)).2.1,ac:=(c7Y m.v m.ac (d2L s) (c9E s)).2.2 })
   else (I.of .i64 4,m))
 else ((c9N m.bal m.rt m.cl m.ba (e6W s)).1,{ m with bal:=(c9N m.bal m.rt m.cl m.ba (e6W s)).2.1,cl:=(c9N m.bal m.rt m.cl m.ba (e6W s)).2.2.1,ba:=(c9N m.bal m.rt m.cl m.ba (e6W s)).2.2.2 })
theorem g4R (m:MS) (s:b9H) (h:Sz 100000000 m) (hp:(d2S (e6W s)).length ≤ 1073741824):a6H K0 ((s,()),m.h) = some (((f3W m s).1,()),(f3W m s).2.h):=by
 refine Wp.out (T:=fun o=>o = some (((f3W m s).1,()),(f3W m s).2.h)) ?_
 unfold a6H f3W
 have hac:=h.ac
 refine Wp.brn (fun k3=>?_) (fun k3=>?_)
 ·
  have k3:I.eqb (a8E s) (I.of .i64 3) = true:=k3
  rw [if_pos k3]
  refine Wp.optF (g6D m.bl m.pm (e0N s)) (Wp.optF (f6Y m.bk (e0N s) (f3D m.bl m.pm (e0N s)) m.pm) ?_)
  refine Wp.brn (fun q=>?_) (fun q=>?_)
  ·
   have q:I.eqb (c4B m.bk (e0N s) (f3D m.bl m.pm (e0N s)) m.pm).2 (I.of .i64 0) = true:=q
   rw [if_pos q]; rfl
  ·
   have q:I.eqb (c4B m.bk (e0N s) (f3D m.bl m.pm (e0N s)) m.pm).2 (I.of .i64 0) = false:=q
   rw [if_neg (a8S q)]; rfl
 have k3:I.eqb (a8E s) (I.of .i64 3) = false:=k3
 rw [if_neg (a8S k3)]
 refine Wp.brn (fun k4=>?_) (fun k4=>?_)
 ·
  have k4:I.eqb (a8E s) (I.of .i64 4) = true:=k4
  rw [if_pos k4]
  refine Wp.optF (g5T m.pm (g2C s) (c9E s)) ?_
  refine Wp.brn (fun q=>?_) (fun q=>?_)
  ·
   have q:I.eqb (f8K m.pm (g2C s) (c9E s)).2 (I.of .i64 0) = true:=q
   rw [if_pos q]; rfl
  ·
   have q:I.eqb (f8K m.pm (g2C s) (c9E s)).2 (I.of .i64 0) = false:=q
   rw [if_neg (a8S q)]; rfl
 have k4:I.eqb (a8E s) (I.of .i64 4) = false:=k4
 rw [if_neg (a8S k4)]
 refine Wp.brn (fun k5=>?_) (fun k5=>?_)
 ·
  have k5:I.eqb (a8E s) (I.of .i64 5) = true:=k5
  rw [if_pos k5]
  refine Wp.optF (d5L m.pr (d2L s) (by have:=h.pr; omega)) ?_
  refine Wp.brn (fun q=>?_) (fun q=>?_)
  ·
   have q:I.eqb (a8W m.pr (d2L s)).2 (I.of .i64 0) = true:=q
   rw [if_pos q]; rfl
  ·
   have q:I.eqb (a8W m.pr (d2L s)).2 (I.of .i64 0) = false:=q
   rw [if_neg (a8S q)]; rfl
 have k5:I.eqb (a8E s) (I.of .i64 5) = false:=k5
 rw [if_neg (a8S k5)]
 refine Wp.brn (fun k6=>?_) (fun k6=>?_)
 ·
  have k6:I.eqb (a8E s) (I.of .i64 6) = true:=k6
  rw [if_pos k6]
  refine Wp.jn (fun x=>(¬ ((d2L s).val = 0 ∨ (d2L s).val = 18446744073709551615 ∨ (c9E s).val = 0))∧x = ((),(m.j,(lgH m.v,(m.ac,(m.ms,(esH m.bal,(m.rt,(m.cl,(m.ba,(s,()))))))))))) ?_ ?_
  ·
   rintro x ⟨h1,rfl⟩
   rw [if_neg h1]
   obtain ⟨r1,e1,B1⟩:=a0X m.bal
   obtain ⟨r2,e2,B2⟩:=a0X (c9E s)
   obtain ⟨r3,e3,B3⟩:=a9P B1 B2 (d3R B1) (d3R B2)
   have e4:=d4I B3 (f3I B3 (by have:=U.lt m.bal; have:=U.lt (c9E s); omega))
   refine Wp.optF e1 (Wp.optF e2 (Wp.optF e3 (Wp.optF e4 ?_)))
   by_cases hc:m.bal.val + (c9E s).val < U.top
   ·
    rw [if_pos hc]
    refine Wp.brnF (by rw [decide_eq_true hc]; rfl) ?_
    exact Wp.optF (g4K m.bal (c9E s) m.rt m.cl m.ba) (Wp.optF (g0Y m.v m.ac (d2L s) (c9E s) (by omega)) rfl)
   ·
    rw [if_neg hc]
    exact Wp.brnT (by rw [decide_eq_false hc]; rfl) rfl
  ·
   intro j hj
   refine Wp.brn (fun h1=>?_) (fun h1=>?_)
   ·
    have h1:(d2L s).val = 0:=iff_eqb.1 h1
    rw [if_pos (.inl h1)]; rfl
   ·
    have h1:(d2L s).val ≠ 0:=niff_eqb.1 h1
    refine Wp.brn (fun h2=>?_) (fun h2=>?_)
    ·
     have h2:(d2L s).val = (I.of .u64 18446744073709551615).val:=iff_eqb.1 h2
     rw [if_pos (.inr (.inl h2))]; rfl
    ·
     have h2:(d2L s).val ≠ (I.of .u64 18446744073709551615).val:=niff_eqb.1 h2
     have c:(I.of .u64 18446744073709551615).val = 18446744073709551615:=rfl
     refine Wp.optF (c1E (c9E s)) ?_
     refine Wp.brn (fun h3=>?_) (fun h3=>?_)
     ·
      have h3:=of_decide_eq_true h3
      rw [if_pos (.inr (.inr h3))]; rfl
     ·
      have h3:=of_decide_eq_false h3
      exact hj _ ⟨by omega,rfl⟩
 have k6:I.eqb (a8E s) (I.of .i64 6) = false:=k6
 rw [if_neg (a8S k6)]
 exact Wp.optF (f4F m.bal m.rt m.cl m.ba (e6W s) (by have:=h.rt; omega) (by have:=h.cl; omega) (by have:=h.ba; omega) hp) rfl
noncomputable def c9K (m:MS):MS:=if I.neb (I.add m.steps (I.of .u64 1)) (I.of .u64 0) = true then { m with steps:=I.add m.steps (I.of .u64 1) } else m
def g0C (k:I .i64) (r:Rcp):Rcp:=(k,r.2)
noncomputable def e8A (m:MS) (s:b9H):Rcp × MS :=
 if ¬ (1 ≤ (a8E s).val∧(a8E s).val ≤ 7) then (f3E (I.of .i64 17),c9K m)
 else if I.eqb (a8E s) (I.of .i64 1) = true then (g0C (a8E s) (txS (c9K m) (sTx s)).1,(txS (c9K m) (sTx s)).2)
 else if I.eqb (a8E s) (I.of .i64 2) = true then (g0C (a8E s) (f3C (c9K m) (g6J s)).1,(f3C (c9K m) (g6J s)).2)
 else (g0C (a8E s) (f3E (f3W (c9K m) s).1),(f3W (c9K m) s).2)
theorem e9E {n:Nat} {m:MS} (h:Sz n m):Sz n (c9K m):=by
 unfold c9K
 split
 ·
  exact ⟨h.ac,h.ms,h.rt,h.cl,h.ba,h.pr⟩
 ·
  exact h
theorem f8E (m:MS) (s:b9H) (h:Sz 100000000 m) (hd:(c4J (sTx s)).length ≤ 1073741824) (hp:(d2S (e6W s)).length ≤ 1073741824):a4C K0 ((s,()),m.h) = some (((e8A m s).1,()),(e8A m s).2.h):=by
 refine Wp.out (T:=fun o=>o = some (((e8A m s).1,()),(e8A m s).2.h)) ?_
 unfold a4C
 refine Wp.jn (fun x=>x = ((),((c9K m).j,(lgH (c9K m).v,((c9K m).ac,((c9K m).ms,(esH (c9K m).bal,((c9K m).rt,((c9K m).cl,((c9K m).ba,(s,(g4C (f3E (I.of .i64 0)),([],())))))))))))) ) ?_ ?_
 ·
  rintro x rfl
  unfold e8A
  have hz:=e9E h
  have hk:a8I K0 ((a8E s,()),()) = some ((decide (1 ≤ (a8E s).val∧(a8E s).val ≤ 7),()),()):=by
   refine Wp.out (T:=fun o=>o = some ((decide (1 ≤ (a8E s).val∧(a8E s).val ≤ 7),()),())) ?_
   unfold a8I
   refine Wp.brn (fun q=>?_) (fun q=>?_)
   ·
    have q:(I.of .i64 1).val ≤ (a8E s).val:=iff_leb.1 q
    have q:1 ≤ (a8E s).val:=q
    show some ((I.leb (a8E s) (I.of .i64 7),()),()) = _
    unfold I.leb
    by_cases g:(a8E s).val ≤ 7
    ·
     rw [decide_eq_true (show (a8E s).val ≤ (I.of .i64 7).val from g),decide_eq_true ⟨q,g⟩]
    ·
     rw [decide_eq_false (show ¬ (a8E s).val ≤ (I.of .i64 7).val from g),decide_eq_false (fun hh=>g hh.2)]
   ·
    have q:(a8E s).val < (I.of .i64 1).val:=niff_leb.1 q
    have q:(a8E s).val < 1:=q
    rw [decide_eq_false (by omega)]
    rfl
  refine Wp.optF hk ?_
  by_cases g:1 ≤ (a8E s).val∧(a8E s).val ≤ 7
  ·
   rw [if_neg (by simp [g])]
   refine Wp.brnF (by rw [decide_eq_true g]; rfl) ?_
   refine Wp.brn (fun q=>?_) (fun q=>?_)
   ·
    have q:I.eqb (a8E s) (I.of .i64 1) = true:=q
    rw [if_pos q]
    exact Wp.optF (g8Z (c9K m) (sTx s) hz hd) rfl
   ·
    have q:I.eqb (a8E s) (I.of .i64 1) = false:=q
    rw [if_neg (a8S q)]
    refine Wp.brn (fun q=>?_) (fun q=>?_)
    ·
     have q:I.eqb (a8E s) (I.of .i64 2) = true:=q
     rw [if_pos q]
     exact Wp.optF (g3N (c9K m) (g6J s) hz) rfl
    ·
     have q:I.eqb (a8E s) (I.of .i64 2) = false:=q
     rw [if_neg (a8S q)]
     exact Wp.optF (g4R (c9K m) s hz hp) rfl
  ·
   rw [if_pos g]
   exact Wp.brnT (by rw [decide_eq_false g]; rfl) rfl
 ·
  intro j hj
  refine Wp.brn (fun q=>?_) (fun q=>?_)
  ·
   have q:I.neb (I.add m.steps (I.of .u64 1)) (I.of .u64 0) = true:=q
   have e:c9K m = { m with steps:=I.add m.steps (I.of .u64 1) }:=by unfold c9K; rw [if_pos q]
   exact hj _ (by rw [e]; rfl)
  ·
   have q:I.neb (I.add m.steps (I.of .u64 1)) (I.of .u64 0) = false:=q
   have e:c9K m = m:=by unfold c9K; rw [if_neg (a8S q)]
   exact hj _ (by rw [e]; rfl)
end Sym

/- The machine's lists stay small. -/
namespace Sym
open Go
theorem f5J (l:List Pay) (a:I .u64) (n:U):(f9Y l a n).length ≤ l.length + 1:=by
 unfold f9Y
 split
 ·
  rw [c2G]; omega
 ·
  simp
theorem f4V (b:U) (r:List Hs) (cl:List (I .u64)) (ba:List Pay) (c:Clm):(c9N b r cl ba c).2.2.1.length ≤ cl.length + 1∧(c9N b r cl ba c).2.2.2.length ≤ ba.length + 1:=by
 unfold c9N
 split
 ·
  exact ⟨Nat.le_succ _,Nat.le_succ _⟩
 split
 ·
  exact ⟨Nat.le_succ _,Nat.le_succ _⟩
 split
 ·
  exact ⟨Nat.le_succ _,Nat.le_succ _⟩
 split
 ·
  exact ⟨Nat.le_succ _,Nat.le_succ _⟩
 split
 ·
  exact ⟨Nat.le_succ _,Nat.le_succ _⟩
 split
 ·
  exact ⟨by simp,f5J _ _ _⟩
 ·
  exact ⟨Nat.le_succ _,Nat.le_succ _⟩
theorem e9O (v:V4) (l:List Ac) (a:I .u64) (n:U):(c7Y v l a n).2.2.length ≤ l.length + 1:=by
 unfold c7Y
 split
 ·
  exact Nat.le_succ _
 split
 ·
  exact d1X _ _ _
 ·
  exact Nat.le_succ _
theorem f6K (l:List Ac) (a b:I .u64) (n:U):(f4S l a b n).2.length ≤ l.length + 2:=by
 unfold f4S
 have h:=c1H l a n
 split
 ·
  show l.length ≤ _; omega
 split
 ·
  have:=d1X (c1Q l a n) b n
  show (c8B _ _ _).length ≤ _
  omega
 ·
  show (c1Q _ _ _).length ≤ _; omega
theorem f6M (l:List Ac) (a:I .u64) (n:U):(e2W l a n).2.length ≤ l.length + 1:=by
 unfold e2W
 split
 ·
  exact Nat.le_succ _
 ·
  exact c1H _ _ _
def b5K (r:Rcp):List Msg:=r.2.2.2.2.2.2.2.2.1
theorem d5S {n:Nat} {m:MS} (h:Sz n m) (t:Txn) (c:Chg) (u:I .u64):Sz (n + 5) (e6A m t c (a7Q m.pr u).1):=by
 have l1:(d8I m (a3S t) c).2.2.length ≤ m.ac.length + 1:=b6X _ _ _ _ _
 have l2:(d8S m (a3S t) c).2.2.length ≤ (d8I m (a3S t) c).2.2.length + 1:=b6X _ _ _ _ _
 have l3:(d8R m (a3S t) c).2.2.length ≤ (d8S m (a3S t) c).2.2.length + 1:=b6X _ _ _ _ _
 have l4:(d0E m (a3S t) c).2.2.length ≤ (d8R m (a3S t) c).2.2.length + 1:=b6X _ _ _ _ _
 have l5:(d2W m (a3S t) c).length ≤ (d0E m (a3S t) c).2.2.length + 1:=e4R _ _
 have hac:=h.ac
 have hu:=c8S m.pr u
 have hpr:=h.pr
 exact ⟨by show (d2W m (a3S t) c).length ≤ _; omega,Nat.le_add_right_of_le h.ms,Nat.le_add_right_of_le h.rt,Nat.le_add_right_of_le h.cl,Nat.le_add_right_of_le h.ba,by show (a7Q m.pr u).1.posters.length ≤ _; omega⟩
theorem g2A {n:Nat} {m:MS} (h:Sz n m) (t:Txn) (c:Chg) (p:U):Sz (n + 2) (g4N m t c p).2∧(b5K (g4N m t c p).1).length ≤ 1:=by
 unfold g4N
 have hac:=h.ac
 split
 ·
  have:=f6K m.ac (a3S t) (tTo t) (c9C t)
  exact ⟨⟨by show (f4S _ _ _ _).2.length ≤ _; omega,Nat.le_add_right_of_le h.ms,Nat.le_add_right_of_le h.rt,Nat.le_add_right_of_le h.cl,Nat.le_add_right_of_le h.ba,Nat.le_add_right_of_le h.pr⟩,Nat.zero_le _⟩
 split
 ·
  exact ⟨h.mono (by omega),Nat.zero_le _⟩
 ·
  have:=f6M m.ac (a3S t) (c9C t)
  refine ⟨e3P (k:=n + 1) (m:={ m with ac:=(e2W m.ac (a3S t) (c9C t)).2 }) ⟨by show (e2W _ _ _).2.length ≤ _; omega,Nat.le_succ_of_le h.ms,Nat.le_succ_of_le h.rt,Nat.le_succ_of_le h.cl,Nat.le_succ_of_le h.ba,Nat.le_succ_of_le h.pr⟩ _ _,Nat.le_refl _⟩
theorem g2Z {n:Nat} {m:MS} (h:Sz n m) (t:Txn):Sz (n + 7) (txS m t).2∧(b5K (txS m t).1).length ≤ 1:=by
 unfold txS
 split
 ·
  exact ⟨h.mono (by omega),Nat.zero_le _⟩
 split
 ·
  exact ⟨h.mono (by omega),Nat.zero_le _⟩
 split
 ·
  exact ⟨h.mono (by omega),Nat.zero_le _⟩
 split
 ·
  exact ⟨(d5S h t _ _).mono (by omega),Nat.zero_le _⟩
 split
 ·
  exact ⟨(d5S h t _ _).mono (by omega),Nat.zero_le _⟩
 ·
  exact g2A (d5S h t _ _) t _ _
theorem g2E {n:Nat} {m:MS} (h:Sz n m) (r:RepT):Sz (n + 128) (f3C m r).2∧(b5K (f3C m r).1).length ≤ 64:=by
 unfold f3C
 have hlen:=e8L m.pr m.pm (e7E m.v 2) r m.bk.2.1
 have hpl:(c2E m r).length ≤ 64:=hlen.2
 split
 ·
  exact ⟨h.mono (by omega),Nat.zero_le _⟩
 ·
  have h0:Sz (n + 64) { m with pr:=(d1M m r).1 }:=⟨Nat.le_add_right_of_le h.ac,Nat.le_add_right_of_le h.ms,Nat.le_add_right_of_le h.rt,Nat.le_add_right_of_le h.cl,Nat.le_add_right_of_le h.ba,Nat.le_trans hlen.1 (by omega)⟩
  obtain ⟨h1,h2⟩:=d5Z h0 (c2E m r) (c2E m r).length (Nat.le_refl _)
  rw [List.take_length] at h1 h2
  exact ⟨h1.mono (by omega),by show (c3M _ _).2.length ≤ _; omega⟩
theorem f9Z {n:Nat} {m:MS} (h:Sz n m) (s:b9H):Sz (n + 1) (f3W m s).2:=by
 have h1:Sz (n + 1) m:=h.mono (by omega)
 unfold f3W
 split
 ·
  split
  ·
   exact ⟨h1.ac,h1.ms,h1.rt,h1.cl,h1.ba,h1.pr⟩
  ·
   exact h1
 split
 ·
  split
  ·
   exact ⟨h1.ac,h1.ms,h1.rt,h1.cl,h1.ba,h1.pr⟩
  ·
   exact h1
 split
 ·
  split
  ·
   have:=d6L m.pr (d2L s)
   have:=h.pr
   exact ⟨h1.ac,h1.ms,h1.rt,h1.cl,h1.ba,by show (a8W m.pr (d2L s)).1.posters.length ≤ _; omega⟩
  ·
   exact h1
 split
 ·
  split
  ·
   exact h1
  split
  ·
   have:=e9O m.v m.ac (d2L s) (c9E s)
   have:=h.ac
   exact ⟨by show (c7Y _ _ _ _).2.2.length ≤ _; omega,h1.ms,h1.rt,h1.cl,h1.ba,h1.pr⟩
  ·
   exact h1
 ·
  obtain ⟨g1,g2⟩:=f4V m.bal m.rt m.cl m.ba (e6W s)
  have:=h.cl
  have:=h.ba
  exact ⟨h1.ac,h1.ms,h1.rt,by show (c9N _ _ _ _ _).2.2.1.length ≤ _; omega,by show (c9N _ _ _ _ _).2.2.2.length ≤ _; omega,h1.pr⟩
theorem f0W {n:Nat} {m:MS} (h:Sz n m) (s:b9H):Sz (n + 128) (e8A m s).2∧(b5K (e8A m s).1).length ≤ 64:=by
 unfold e8A
 have hz:=e9E h
 split
 ·
  exact ⟨hz.mono (by omega),Nat.zero_le _⟩
 split
 ·
  obtain ⟨g1,g2⟩:=g2Z hz (sTx s)
  exact ⟨g1.mono (by omega),Nat.le_trans g2 (by decide)⟩
 split
 ·
  exact g2E hz (g6J s)
 ·
  exact ⟨(f9Z hz s).mono (by omega),Nat.zero_le _⟩
end Sym

/- Steps that a number determines: they exist, and are small. -/
namespace Sym
open Go
structure StG (calm:Bool) (n:Nat) (s:b9H):Prop where
 data:(c4J (sTx s)).length ≤ 1000
 prf:(d2S (e6W s)).length ≤ n + 1
 dep:calm = true→I.eqb (a8E s) (I.of .i64 6) = true→(c9E s).val < 1152921504606846976
theorem g7N (x:I .u64):U.val (x,((I.of .u64 0),((I.of .u64 0),((I.of .u64 0),())))) = x.nat:=by
 show x.nat + 18446744073709551616 * (0 + 18446744073709551616 * (0 + 18446744073709551616 * 0)) = x.nat
 omega
theorem e4Z {a m:I .i64} (h:0 ≤ a.val) (h2:0 < m.val):(I.conv (k:=.i64) .u64 (I.rem a m)).nat < m.val.toNat:=by
 have e:=b6F h h2
 have h3:=Int.emod_nonneg a.val (b:=m.val) (by omega)
 have h4:=Int.emod_lt_of_pos a.val h2
 have hm:=b5D m
 have hv:(I.conv (k:=.i64) .u64 (I.rem a m)).val = a.val % m.val:=by
  unfold I.conv
  rw [e]
  exact b9A ⟨h3,by omega⟩
 have:=a2F (I.conv (k:=.i64) .u64 (I.rem a m))
 omega
theorem c3V {a:I .i64} (h:0 ≤ a.val):U.val ((I.add (I.of .u64 4503599627370496) (I.conv (k:=.i64) .u64 (I.rem a (I.of .i64 100000)))),((I.of .u64 0),((I.of .u64 0),((I.of .u64 0),())))) < 1152921504606846976:=by
 rw [g7N]
 have h1:(I.conv (k:=.i64) .u64 (I.rem a (I.of .i64 100000))).nat < 100000:=e4Z h (by decide)
 have c:(I.of .u64 4503599627370496).nat = 4503599627370496:=rfl
 rw [c4U _ _ (by omega)]
 omega
theorem e7Q {a:I .i64} (h:0 ≤ a.val):U.val ((I.conv (k:=.i64) .u64 (I.rem a (I.of .i64 50))),((I.of .u64 0),((I.of .u64 0),((I.of .u64 0),())))) < 1152921504606846976:=by
 rw [g7N]
 have h1:(I.conv (k:=.i64) .u64 (I.rem a (I.of .i64 50))).nat < 50:=e4Z h (by decide)
 omega
def f4M (calm:Bool) (n:Nat) (o:Option ((⟨[.pl a1K],[]⟩:Tm).D)):Prop:=∃ s:b9H,o = some ((s,()),())∧StG calm n s
theorem e6K (a:I .i64) (b:I .u64) (c:Bool) (n:Nat) (h:0 ≤ a.val):f4M c n (b0R K0 ((a,(b,(c,()))),())):=by
 refine Wp.out (T:=fun o=>f4M c n o) ?_
 unfold b0R
 have z:([]:List (I .u8)).length ≤ 1000:=Nat.zero_le _
 have z2:([]:List Hs).length ≤ n + 1:=Nat.zero_le _
 refine Wp.brn (fun _=>⟨_,rfl,z,z2,fun _ _=>c3V h⟩) (fun _=>?_)
 refine Wp.brn (fun _=>⟨_,rfl,z,z2,fun _ _=>c3V h⟩) (fun _=>?_)
 refine Wp.brn (fun _=>⟨_,rfl,z,z2,fun _ _=>c3V h⟩) (fun _=>?_)
 refine Wp.brn (fun _=>⟨_,rfl,z,z2,fun _ _=>e7Q h⟩) (fun _=>?_)
 refine Wp.brn (fun _=>?_) (fun _=>⟨_,rfl,z,z2,fun _ _=>c3V h⟩)
 refine Wp.brn (fun hc=>⟨_,rfl,z,z2,fun g _=>?_⟩) (fun _=>⟨_,rfl,z,z2,fun _ _=>c3V h⟩)
 have hc:c = false:=f7S hc
 rw [hc] at g
 cases g
theorem f4X (a:I .i64) (c:Bool) (n:Nat) (h:0 ≤ a.val):f4M c n (b2U K0 ((a,()),())):=by
 refine Wp.out (T:=fun o=>f4M c n o) ?_
 unfold b2U
 have z:([]:List (I .u8)).length ≤ 1000:=Nat.zero_le _
 have z2:([]:List Hs).length ≤ n + 1:=Nat.zero_le _
 have e:=b6F (b:=I.of .i64 12) h (by decide)
 have c12:(I.of .i64 12).val = 12:=rfl
 refine Wp.brnT (iff_inB.2 (by show 0 ≤ (I.rem a (I.of .i64 12)).val∧(I.rem a (I.of .i64 12)).val < ((12:Nat):Int); rw [e,c12]; omega)) ?_
 refine Wp.jn (fun x=>(c4J (sTx x.2.2.1)).length ≤ 1000∧(d2S (e6W x.2.2.1)).length ≤ n + 1∧I.eqb (a8E x.2.2.1) (I.of .i64 6) = false) ?_ ?_
 ·
  rintro ⟨x0,x1,s,⟨⟩⟩ ⟨h1,h2,h3⟩
  have h3:I.eqb (a8E s) (I.of .i64 6) = false:=h3
  refine Wp.brn (fun _=>⟨_,rfl,h1,h2,fun _ g=>?_⟩) (fun _=>⟨_,rfl,h1,h2,fun _ g=>?_⟩)
  ·
   have g:I.eqb (a8E s) (I.of .i64 6) = true:=g
   rw [h3] at g; cases g
  ·
   have g:I.eqb (a8E s) (I.of .i64 6) = true:=g
   rw [h3] at g; cases g
 ·
  intro j hj
  exact Wp.brn (fun _=>hj _ ⟨z,z2,rfl⟩) (fun _=>hj _ ⟨z,z2,rfl⟩)
theorem f2J (a:I .i64) (m:MS):∃ r:RepT,b1S K0 ((a,()),m.h) = some ((r,()),m.h):=by
 refine Wp.out (T:=fun o=>∃ r:RepT,o = some ((r,()),m.h)) ?_
 unfold b1S
 have hnz:I.nz (I.add (I.mn (I.sub m.bk.2.1 m.pr.2.2.1) (I.of .u64 1099511627776)) (I.of .u64 2)) = true:=by
  have h1:=g4U (I.sub m.bk.2.1 m.pr.2.2.1) (I.of .u64 1099511627776)
  have c1:(I.of .u64 1099511627776).nat = 1099511627776:=rfl
  have c2:(I.of .u64 2).nat = 2:=rfl
  have h2:=c4U (I.mn (I.sub m.bk.2.1 m.pr.2.2.1) (I.of .u64 1099511627776)) (I.of .u64 2) (by omega)
  refine iff_nz.2 ?_
  have:=a2F (I.add (I.mn (I.sub m.bk.2.1 m.pr.2.2.1) (I.of .u64 1099511627776)) (I.of .u64 2))
  omega
 refine Wp.brnT hnz ?_
 exact Wp.brn (fun _=>⟨_,rfl⟩) (fun _=>Wp.brn (fun _=>⟨_,rfl⟩) (fun _=>Wp.brn (fun _=>⟨_,rfl⟩) (fun _=>⟨_,rfl⟩)))
theorem e6S (a:I .i64):Tot (b1U K0 ((a,()),())):=by
 refine Wp.out (T:=fun o=>Tot o) ?_
 unfold b1U
 refine Wp.iter (fun x=>∃ i,i ≤ 8∧x.1.2.1 = i6 i) (fun x=>8 - x.1.2.1.val.toNat) ?_ ⟨0,by omega,rfl⟩ (by rw [a6G]; show 8 - 0 < _; decide)
 rintro ⟨⟨b,j,⟨⟩⟩,x2⟩ ⟨q,hq,e2⟩
 simp only at e2
 subst e2
 refine Wp.brn (fun hc=>?_) (fun hc=>Wp.done ⟨_,rfl⟩)
 have hc:q < 8:=by have:=iff_ltb.1 hc; simp only [a0V (show q < 9223372036854775808 by omega),show (I.of .i64 8).val = 8 from rfl] at this; omega
 have hn:I.add (i6 q) (I.of .i64 1) = i6 (q + 1):=a3H (m:=1) (by omega)
 refine Wp.brnT (c3B _) (Wp.brnT (a3D (by omega) (by omega)) ?_)
 refine Wp.again ⟨q + 1,by omega,hn⟩ ?_
 show 8 - (I.add (i6 q) (I.of .i64 1)).val.toNat < 8 - (i6 q).val.toNat
 rw [hn,a0V (by omega),a0V (by omega)]; omega
end Sym

/- Steps that a number determines, continued. -/
namespace Sym
open Go
theorem e3Y {a:I .i64} {n:Nat} (h:0 ≤ a.val) (hn:0 < n) (hn2:n < 9223372036854775808):∃ k,I.rem a (i6 n) = i6 k∧k < n:=by
 have e:=b6F (b:=i6 n) h (by rw [a0V hn2]; omega)
 rw [a0V hn2] at e
 have h3:=Int.emod_nonneg a.val (b:=(n:Int)) (by omega)
 have h4:=Int.emod_lt_of_pos a.val (b:=(n:Int)) (by omega)
 refine ⟨(a.val % (n:Int)).toNat,?_,by omega⟩
 apply I.ext'
 rw [e,a0V (by omega)]
 omega
theorem f2H {a m:I .i64} (h:0 ≤ a.val) (h2:0 < m.val):0 ≤ (I.quo a m).val:=by
 rw [b7H h h2]
 exact Int.ediv_nonneg h (by omega)
theorem d3H (a:I .i64) (b:I .u64) (m:MS) (h:0 ≤ a.val) (hs:Sz 100000000 m):∃ t:Txn,a7W K0 ((a,(b,())),m.h) = some ((t,()),m.h)∧(c4J t).length ≤ 1000:=by
 refine Wp.out (T:=fun o=>∃ t:Txn,o = some ((t,()),m.h)∧(c4J t).length ≤ 1000) ?_
 unfold a7W
 have hac:=hs.ac
 refine Wp.optF (d8Q m.ac (lgH m.v).2 b (by omega)) ?_
 obtain ⟨k6,e6,hk6⟩:=e3Y (n:=6) h (by omega) (by omega)
 refine Wp.brnT (by show inB (I.rem a (i6 6)) 6 = true; rw [e6]; exact a3D hk6 (by omega)) ?_
 obtain ⟨r1,e1,B1⟩:=a0X (e1Y m.bk)
 obtain ⟨r2,e2,B2⟩:=a1P (I.conv (k:=.i64) .u64 (I.add (I.of .i64 1) (I.rem a (I.of .i64 3))))
 obtain ⟨r3,e3,B3⟩:=b2O B1 B2 (d3R B1) (d7U B2)
 have h3:(e1Y m.bk).val * (I.conv (k:=.i64) .u64 (I.add (I.of .i64 1) (I.rem a (I.of .i64 3)))).nat < P40:=by
  have h3:=Nat.mul_le_mul (Nat.le_of_lt (U.lt (e1Y m.bk))) (Nat.le_of_lt (a3V (I.conv (k:=.i64) .u64 (I.add (I.of .i64 1) (I.rem a (I.of .i64 3))))))
  exact Nat.lt_of_le_of_lt h3 (by decide +kernel)
 have e4:=c2L B3 (lenK' B3 h3)
 refine Wp.optF e1 (Wp.optF e2 (Wp.optF e3 (Wp.optF e4 ?_)))
 obtain ⟨k5,e5,hk5⟩:=e3Y (a:=I.quo a (I.of .i64 5)) (n:=5) (f2H h (by decide)) (by omega) (by omega)
 have e5:I.rem (I.quo a (I.of .i64 5)) (I.of .i64 5) = i6 k5:=e5
 refine Wp.brnT (by show inB' (I.rem (I.quo a (I.of .i64 5)) (I.of .i64 5)) 4 = true; rw [e5]; exact i6_inB' (by omega) (by omega)) ?_
 obtain ⟨out,ho,hol⟩:=c7C (a3W (a :: ((I.quo a (I.of .i64 3)) :: ((I.quo a (I.of .i64 7)) :: ((I.quo a (I.of .i64 11)) :: [])))) 0 (I.nat (I.rem (I.quo a (I.of .i64 5)) (I.of .i64 5)))) (by rw [b8E]; show min _ (4 - 0) ≤ _; omega)
 have hol:out.length ≤ 1000:=by
  rw [b8E] at hol
  have:∀ z,min z ((a :: ((I.quo a (I.of .i64 3)) :: ((I.quo a (I.of .i64 7)) :: ((I.quo a (I.of .i64 11)) :: [])))).length - 0) ≤ 4:=fun z=>by show min z (4 - 0) ≤ 4; omega
  have:=this (I.nat (I.rem (I.quo a (I.of .i64 5)) (I.of .i64 5)))
  omega
 refine Wp.optF ho ?_
 refine Wp.brn (fun _=>⟨_,rfl,hol⟩) (fun _=>Wp.brn (fun _=>⟨_,rfl,hol⟩) (fun _=>Wp.brn (fun _=>⟨_,rfl,hol⟩) (fun _=>Wp.brn (fun _=>⟨_,rfl,hol⟩) (fun _=>Wp.brn (fun _=>⟨_,rfl,hol⟩) (fun _=>Wp.brn (fun _=>Wp.tot ⟨_,rfl⟩ fun _=>Wp.tot ⟨_,rfl⟩ fun _=>⟨_,rfl,hol⟩) (fun _=>Wp.brn (fun _=>⟨_,rfl,hol⟩) (fun _=>⟨_,rfl,hol⟩)))))))
theorem f7C (a:I .i64) (m:MS) (h:0 ≤ a.val) (hs:Sz 100000000 m):∃ c:Clm,b2X K0 ((a,()),m.h) = some ((c,()),m.h)∧(d2S c).length ≤ m.ms.length + 1:=by
 refine Wp.out (T:=fun o=>∃ c:Clm,o = some ((c,()),m.h)∧(d2S c).length ≤ m.ms.length + 1) ?_
 unfold b2X
 have hl:=hs.ms
 have e0:I.eqb (I.ofNat .i64 (a0G m.ms)) (I.of .i64 0) = decide (m.ms.length = 0):=d8X (n:=m.ms.length) (m:=0) (by omega) (by omega)
 refine Wp.brn (fun _=>⟨_,rfl,Nat.zero_le _⟩) (fun h0=>?_)
 have h0:I.eqb (I.ofNat .i64 (a0G m.ms)) (I.of .i64 0) = false:=h0
 rw [e0] at h0
 have h0:=of_decide_eq_false h0
 have nz6:∀ n:Nat,n ≠ 0→n < 9223372036854775808→I.nz (i6 n) = true:=fun n h1 h2=>iff_nz.2 (by rw [a0V h2]; omega)
 refine Wp.brnT (nz6 m.ms.length h0 (by omega)) ?_
 obtain ⟨k,ek,hk⟩:=e3Y (n:=m.ms.length) h (by omega) (by omega)
 have ek:I.rem a (I.ofNat .i64 (a0G m.ms)) = i6 k:=ek
 have es:I.sub (I.ofNat .i64 (a0G m.ms)) (I.rem a (I.ofNat .i64 (a0G m.ms))) = i6 (m.ms.length - k):=by rw [ek]; exact b9I (n:=m.ms.length) (by omega) (by omega)
 refine Wp.brnT (by show I.nz (I.sub (I.ofNat .i64 (a0G m.ms)) (I.rem a (I.ofNat .i64 (a0G m.ms)))) = true; rw [es]; exact nz6 _ (by omega) (by omega)) ?_
 obtain ⟨q,eq,hq⟩:=e3Y (a:=I.quo a (I.of .i64 7)) (n:=m.ms.length - k) (f2H h (by decide)) (by omega) (by omega)
 have en:I.add (I.add (I.rem a (I.ofNat .i64 (a0G m.ms))) (I.of .i64 1)) (I.rem (I.quo a (I.of .i64 7)) (I.sub (I.ofNat .i64 (a0G m.ms)) (I.rem a (I.ofNat .i64 (a0G m.ms))))) = i6 (k + 1 + q):=by
  rw [es,eq,ek,show I.add (i6 k) (I.of .i64 1) = i6 (k + 1) from a3H (m:=1) (by omega)]
  exact a3H (by omega)
 obtain ⟨y,hy,bb,o,rfl,ho⟩:=e1Q m.ms (I.rem a (I.ofNat .i64 (a0G m.ms))) (k + 1 + q) (by omega) (by omega)
 rw [← en] at hy
 have hin:inB (I.rem a (I.ofNat .i64 (a0G m.ms))) (a0G m.ms) = true:=by rw [ek]; exact a3D hk (by omega)
 have ho1:o.length ≤ m.ms.length + 1:=by omega
 refine Wp.optF hy (Wp.brnT hin (Wp.brnT hin ?_))
 refine Wp.brn (fun _=>?_) (fun _=>Wp.brn (fun _=>⟨_,rfl,ho1⟩) (fun _=>Wp.brn (fun _=>?_) (fun _=>Wp.brn (fun _=>?_) (fun _=>⟨_,rfl,ho1⟩))))
 ·
  obtain ⟨r1,f1,B1⟩:=a0X (rdL a0L m.ms (I.nat (I.rem a (I.ofNat .i64 (a0G m.ms))))).2.2.1
  obtain ⟨r2,f2,B2⟩:=a1P (I.of .u64 1)
  obtain ⟨r3,f3,B3⟩:=a9P B1 B2 (d3R B1) (d7U B2)
  refine Wp.optF f1 (Wp.optF f2 (Wp.optF f3 (Wp.optF (y:=((((I.of .u64 18446744073709551615),((I.of .u64 18446744073709551615),((I.of .u64 18446744073709551615),((I.of .u64 18446744073709551615),())))),()),())) rfl ?_)))
  obtain ⟨r5,f5,B5⟩:=a0X (((I.of .u64 18446744073709551615),((I.of .u64 18446744073709551615),((I.of .u64 18446744073709551615),((I.of .u64 18446744073709551615),())))))
  have hlt:=U.lt (rdL a0L m.ms (I.nat (I.rem a (I.ofNat .i64 (a0G m.ms))))).2.2.1
  have c1:(I.of .u64 1).nat = 1:=rfl
  obtain ⟨y6,f6,r6,rfl,B6⟩:=e1R B3 B5 (f3I B3 (by rw [c1]; have:U.top = 115792089237316195423570985008687907853269984665640564039457584007913129639936:=rfl; omega)) (d3R B5)
  have f7:=c2L B6 (f3I B6 (by rw [c1]; have:U.top = 115792089237316195423570985008687907853269984665640564039457584007913129639936:=rfl; omega))
  exact Wp.optF f5 (Wp.optF f6 (Wp.optF f7 ⟨_,rfl,ho1⟩))
 ·
  refine Wp.tot (e6S a) fun y1=>Wp.brnT (b9U _ _ (by show o.length + 1 ≤ _; omega)) ⟨_,rfl,?_⟩
  show (a2D o [_]).length ≤ _
  rw [a8M]
  show o.length + 1 ≤ _
  omega
 ·
  have e3:I.add (I.ofNat .i64 (a0G m.ms)) (I.of .i64 3) = i6 (m.ms.length + 3):=a3H (n:=m.ms.length) (m:=3) (by omega)
  refine Wp.brnT (by show I.nz (I.add (I.ofNat .i64 (a0G m.ms)) (I.of .i64 3)) = true; rw [e3]; exact nz6 _ (by omega) (by omega)) ⟨_,rfl,ho1⟩
end Sym

/- A run's next step; a run. -/
namespace Sym
open Go
def g5A (calm:Bool) (m:MS) (o:Option ((⟨[.pl a1K],a0H⟩:Tm).D)):Prop:=∃ s:b9H,o = some ((s,()),m.h)∧StG calm m.ms.length s
theorem g1A (k:I .i64) (calm:Bool) (m:MS) (hs:Sz 100000000 m):g5A calm m (a9Q K0 ((k,(calm,())),m.h)):=by
 refine Wp.out (T:=fun o=>g5A calm m o) ?_
 unfold a9Q
 obtain ⟨x,hx,x0,_⟩:=e8V k (I.of .i64 4611686018427387904) (by decide)
 refine Wp.optF hx ?_
 have z:([]:List (I .u8)).length ≤ 1000:=Nat.zero_le _
 have z2:([]:List Hs).length ≤ m.ms.length + 1:=Nat.zero_le _
 have n6:∀ (k:I .i64),k.val ≠ 6→I.eqb k (I.of .i64 6) = true→False:=fun k h g=>h (iff_eqb.1 g)
 refine Wp.jn (fun w=>∃ (ad:I .u64) (n r:I .i64) (f:Bool) (y:b9H),0 ≤ n.val∧w = ((calm,(ad,(n,(r,(f,()))))),(m.j,(lgH m.v,(m.ac,(m.ms,(esH m.bal,(m.rt,(m.cl,(m.ba,(y,()))))))))))) ?_ ?_
 ·
  rintro w ⟨ad,n,r,f,y,hn,rfl⟩
  refine Wp.brn (fun _=>?_) (fun _=>?_)
  ·
   obtain ⟨s,e,g⟩:=e6K n ad calm m.ms.length hn
   exact Wp.optF e ⟨s,rfl,g⟩
  refine Wp.jn (fun w=>∃ (ad:I .u64) (n r:I .i64) (f:Bool) (y:b9H),0 ≤ n.val∧w = ((ad,(n,(r,(f,())))),(m.j,(lgH m.v,(m.ac,(m.ms,(esH m.bal,(m.rt,(m.cl,(m.ba,(y,()))))))))))) ?_ ?_
  ·
   rintro w ⟨ad,n,r,f,y,hn,rfl⟩
   refine Wp.brn (fun _=>?_) (fun _=>?_)
   ·
    obtain ⟨q,e⟩:=f2J n m
    exact Wp.optF e ⟨_,rfl,z,z2,fun _ g=>(n6 (I.of .i64 2) (by decide) g).elim⟩
   refine Wp.brn (fun _=>Wp.brn (fun _=>⟨_,rfl,z,z2,fun _ g=>(n6 (I.of .i64 3) (by decide) g).elim⟩) (fun _=>⟨_,rfl,z,z2,fun _ g=>(n6 (I.of .i64 3) (by decide) g).elim⟩)) (fun _=>?_)
   refine Wp.brn (fun _=>?_) (fun _=>?_)
   ·
    obtain ⟨s,e,g⟩:=f4X n calm m.ms.length hn
    exact Wp.optF e ⟨s,rfl,g⟩
   refine Wp.brn (fun _=>Wp.brn (fun _=>⟨_,rfl,z,z2,fun _ g=>(n6 (I.of .i64 5) (by decide) g).elim⟩) (fun _=>⟨_,rfl,z,z2,fun _ g=>(n6 (I.of .i64 5) (by decide) g).elim⟩)) (fun _=>?_)
   refine Wp.jn (fun w=>∃ (ad:I .u64) (n:I .i64) (f:Bool) (y:b9H),0 ≤ n.val∧w = ((ad,(n,(f,()))),(m.j,(lgH m.v,(m.ac,(m.ms,(esH m.bal,(m.rt,(m.cl,(m.ba,(y,()))))))))))) ?_ ?_
   ·
    rintro w ⟨ad,n,f,y,hn,rfl⟩
    refine Wp.brn (fun _=>?_) (fun _=>?_)
    ·
     obtain ⟨c,e,hc⟩:=f7C n m hn hs
     exact Wp.optF e ⟨_,rfl,z,hc,fun _ g=>(n6 (I.of .i64 7) (by decide) g).elim⟩
    ·
     obtain ⟨t,e,ht⟩:=d3H n ad m hn hs
     exact Wp.optF e ⟨_,rfl,ht,z2,fun _ g=>(n6 (I.of .i64 1) (by decide) g).elim⟩
   ·
    intro j hj
    exact Wp.brn (fun _=>hj _ ⟨_,_,_,_,hn,rfl⟩) (fun _=>hj _ ⟨_,_,_,_,hn,rfl⟩)
  ·
   intro j hj
   exact Wp.brn (fun _=>hj _ ⟨_,_,_,_,_,hn,rfl⟩) (fun _=>hj _ ⟨_,_,_,_,_,hn,rfl⟩)
 ·
  intro j hj
  have hq:0 ≤ (I.quo x (I.of .i64 64)).val:=f2H x0 (by decide)
  exact Wp.brn (fun _=>hj _ ⟨_,_,_,_,_,hq,rfl⟩) (fun _=>hj _ ⟨_,_,_,_,_,hq,rfl⟩)
noncomputable def g8P:Prm:=(((I.of .u64 7000000),((I.of .u64 10),((I.of .u64 102),(((I.of .u64 100000000),((I.of .u64 0),((I.of .u64 0),((I.of .u64 0),())))),((I.of .u64 32000000),(((I.of .u64 60000000),((I.of .u64 0),((I.of .u64 0),((I.of .u64 0),())))),((I.of .u64 1000),(((I.of .u64 10),((I.of .u64 0),((I.of .u64 0),((I.of .u64 0),())))),((I.of .u64 160000000),((I.of .u64 10),((I.of .u64 16),((I.of .u64 65536),())))))))))))))
noncomputable def ms0:MS:=⟨I.of .u64 0,g8P,(I.of .u64 1,(I.of .u64 0,(I.of .u64 0,(((I.of .u64 100000000),((I.of .u64 0),((I.of .u64 0),((I.of .u64 0),())))),())))),I.of .u64 0,(((I.of .u64 1000000000),((I.of .u64 0),((I.of .u64 0),((I.of .u64 0),())))),((I.of .u64 0),((I.of .u64 0),((I.of .u64 0),(a2V,([],())))))),c2J,[],[],Z_U,[],[],[]⟩
theorem g4D:b3Z K0 ((),()) = some ((),ms0.h):=by
 rw [a6G]; kernel_rfl
noncomputable abbrev zTx:Txn:=((I.of .u64 0),((I.of .u64 0),((I.of .u64 0),(Z_U,((I.of .u64 0),(Z_U,(Z_U,((I.of .u64 0),([],())))))))))
noncomputable abbrev g2Y:Clm:=((I.of .u64 0),((I.of .u64 0),((I.of .u64 0),(Z_U,([],())))))
noncomputable def g4H (a:Nat):b9H:=(I.of .i64 6,(zTx,(a0L,(I.of .u64 0,(I.of .i64 0,(((I.of .u64 288230376151711744),((I.of .u64 0),((I.of .u64 0),((I.of .u64 0),())))),(I.of .u64 (a:Int),(g2Y,()))))))))
noncomputable def g6Q (a:Nat):b9H:=(I.of .i64 5,(zTx,(a0L,(I.of .u64 0,(I.of .i64 0,(Z_U,(I.of .u64 (a:Int),(g2Y,()))))))))
noncomputable def g2U:b9H:=(I.of .i64 3,(zTx,(a0L,(I.of .u64 12,(I.of .i64 0,(Z_U,(I.of .u64 0,(g2Y,()))))))))
noncomputable def setupL:List b9H:=[g4H 1,g4H 2,g4H 3,g4H 4,g6Q 5,g6Q 6,g6Q 7,g2U]
theorem f4N:b1J K0 ((),()) = some ((),(setupL,())):=by
 rw [a6G]; kernel_rfl
theorem d4K (calm:Bool) (n:Nat):∀ s ∈ setupL,StG calm n s:=by
 have z:([]:List (I .u8)).length ≤ 1000:=Nat.zero_le _
 have z2:([]:List Hs).length ≤ n + 1:=Nat.zero_le _
 have d:∀ a,StG calm n (g4H a):=fun a=>⟨z,z2,fun _ _=>by show U.val (_,_) < _; rw [g7N]; decide⟩
 have p:∀ a,StG calm n (g6Q a):=fun a=>⟨z,z2,fun _ g=>by have:(5:Int) = 6:=iff_eqb.1 g; omega⟩
 have t:StG calm n g2U:=⟨z,z2,fun _ g=>by have:(3:Int) = 6:=iff_eqb.1 g; omega⟩
 intro s hs
 simp only [setupL,List.mem_cons,List.not_mem_nil,or_false] at hs
 rcases hs with rfl | rfl | rfl | rfl | rfl | rfl | rfl | rfl
 ·
  exact d 1
 ·
  exact d 2
 ·
  exact d 3
 ·
  exact d 4
 ·
  exact p 5
 ·
  exact p 6
 ·
  exact p 7
 ·
  exact t
noncomputable def c5X (s:MS × List Rcp) (x:b9H):MS × List Rcp:=((e8A s.1 x).2,s.2 ++ [(e8A s.1 x).1])
noncomputable def e0U (m:MS) (l:List b9H):MS × List Rcp:=l.foldl c5X (m,[])
theorem d0K (m:MS) (l:List b9H) (x:b9H):e0U m (l ++ [x]) = c5X (e0U m l) x:=by
 unfold e0U
 rw [List.foldl_append]
 rfl
theorem d7A (m:MS) (l:List b9H):(e0U m l).2.length = l.length:=by
 suffices h:∀ (l:List b9H) (s:MS × List Rcp),(l.foldl c5X s).2.length = s.2.length + l.length by
  show (List.foldl c5X (m,[]) l).2.length = _
  rw [h l (m,[])]
  exact Nat.zero_add _
 intro l
 induction l with
 | nil=>intro s; rfl
 | cons x l ih =>
  intro s
  rw [List.foldl_cons,ih]
  show (s.2 ++ [_]).length + l.length = s.2.length + (l.length + 1)
  rw [List.length_append]
  simp
  omega
end Sym

/- A run of the reference. -/
namespace Sym
open Go
structure RunOk (calm:Bool) (k:Nat) (l:List b9H) (p:MS × List Rcp):Prop where
 run:p = e0U ms0 l
 len:l.length = 8 + k
 sz:Sz (128 * (8 + k)) p.1
 good:∀ s ∈ l,StG calm (128 * (8 + k)) s
 msgs:∀ r ∈ p.2,(b5K r).length ≤ 64
theorem StG.mono {calm:Bool} {n k:Nat} {s:b9H} (h:StG calm n s) (hk:n ≤ k):StG calm k s:=⟨h.data,by have:=h.prf; omega,h.dep⟩
theorem d4L (calm:Bool):∀ i,i ≤ 8→Sz (128 * i) (e0U ms0 (setupL.take i)).1∧∀ r ∈ (e0U ms0 (setupL.take i)).2,(b5K r).length ≤ 64
 | 0,_=>⟨⟨Nat.le_refl _,Nat.le_refl _,Nat.le_refl _,Nat.le_refl _,Nat.le_refl _,Nat.le_refl _⟩,fun r h=>by cases h⟩
 | i + 1,hi=>by
  obtain ⟨h1,h2⟩:=d4L calm i (by omega)
  have hl:i < setupL.length:=by show i < 8; omega
  rw [List.take_add_one,List.getElem?_eq_getElem hl]
  simp only [Option.toList]
  rw [d0K]
  obtain ⟨g1,g2⟩:=f0W h1 setupL[i]
  refine ⟨g1.mono (by omega),fun r hr=>?_⟩
  have hr:r ∈ (e0U ms0 (setupL.take i)).2 ++ [(e8A (e0U ms0 (setupL.take i)).1 setupL[i]).1]:=hr
  rcases List.mem_append.1 hr with h | h
  ·
   exact h2 r h
  ·
   rw [List.mem_singleton.1 h]; exact g2
theorem RunOk.snoc {calm:Bool} {k:Nat} {l:List b9H} {p:MS × List Rcp} (h:RunOk calm k l p) {s:b9H} (hs:StG calm p.1.ms.length s):RunOk calm (k + 1) (l ++ [s]) (c5X p s):=by
 obtain ⟨g1,g2⟩:=f0W h.sz s
 refine ⟨by rw [d0K,← h.run],by rw [List.length_append,h.len]; rfl,g1.mono (by omega),fun x hx=>?_,fun r hr=>?_⟩
 ·
  rcases List.mem_append.1 hx with h' | h'
  ·
   exact (h.good x h').mono (by omega)
  ·
   rw [List.mem_singleton.1 h']; exact hs.mono (by have:=h.sz.ms; omega)
 ·
  have hr:r ∈ p.2 ++ [(e8A p.1 s).1]:=hr
  rcases List.mem_append.1 hr with h' | h'
  ·
   exact h.msgs r h'
  ·
   rw [List.mem_singleton.1 h']; exact g2
noncomputable def h0M (a:List (I .i64)) (calm:Bool) (i:Nat) (l:List b9H) (p:MS × List Rcp):(((List (I .i64)) × (Bool × ((I .i64) × Unit))) × (a0Y × (a0P × ((List a0F) × ((List a0C) × (a0W × ((List a0I) × ((List (I .u64)) × ((List a0E) × ((List a1M) × ((List a1G) × Unit))))))))))) :=
 ((a,(calm,(i6 i,()))),(p.1.j,(lgH p.1.v,(p.1.ac,(p.1.ms,(esH p.1.bal,(p.1.rt,(p.1.cl,(p.1.ba,(l,(p.2,())))))))))))
noncomputable def h0C (l:List b9H) (p:MS × List Rcp):Unit × (a0Y × (a0P × (a0W × ((List a0C) × ((List a0F) × ((List a0I) × ((List (I .u64)) × ((List a0E) × ((List a1M) × ((List a1G) × Unit)))))))))) :=
 ((),(p.1.j,(lgH p.1.v,(esH p.1.bal,(p.1.ms,(p.1.ac,(p.1.rt,(p.1.cl,(p.1.ba,(l,(p.2,())))))))))))
theorem g5R (a:List (I .i64)) (calm:Bool) (ha:a.length ≤ 1000):∃ (l:List b9H) (p:MS × List Rcp),a7S K0 ((a,(calm,())),()) = some (h0C l p)∧RunOk calm a.length l p:=by
 refine Wp.out (T:=fun o=>∃ (l:List b9H) (p:MS × List Rcp),o = some (h0C l p)∧RunOk calm a.length l p) ?_
 unfold a7S
 refine Wp.optF g4D (Wp.optF f4N ?_)
 refine Wp.iter (fun x=>∃ i,i ≤ 8∧x = h0M a calm i setupL (e0U ms0 (setupL.take i))) (fun x=>8 - x.1.2.2.1.val.toNat) ?_ ⟨0,by omega,rfl⟩ (by rw [a6G]; show 8 - 0 < _; decide)
 rintro x ⟨i,hi,rfl⟩
 obtain ⟨hsz,hm⟩:=d4L calm i hi
 have hrl:=d7A ms0 (setupL.take i)
 have hnx:(h:i < 8)→e0U ms0 (setupL.take (i + 1)) = c5X (e0U ms0 (setupL.take i)) (rdL g2U setupL i):=by
  intro h
  have hl:i < setupL.length:=h
  rw [List.take_add_one,List.getElem?_eq_getElem hl,a4N _ _ _ hl]
  simp only [Option.toList]
  rw [d0K]
 have hfin:i = 8→e0U ms0 (setupL.take i) = e0U ms0 setupL:=by
  intro e
  rw [e]
  rfl
 generalize e0U ms0 (setupL.take i) = p at *
 have h8:setupL.length = 8:=rfl
 have e:I.ltb (i6 i) (I.ofNat .i64 (a0G setupL)) = decide (i < 8):=a2M (n:=i) (m:=8) (by omega) (by omega)
 have hn:I.add (i6 i) (I.of .i64 1) = i6 (i + 1):=a3H (m:=1) (by omega)
 refine Wp.brn (fun hc=>?_) (fun hc=>?_)
 ·
  have hc:I.ltb (i6 i) (I.ofNat .i64 (a0G setupL)) = true:=hc
  rw [e] at hc
  have hc:=of_decide_eq_true hc
  have hnx:=hnx hc
  refine Wp.brnT (by show inB (i6 i) setupL.length = true; exact a3D (by omega) (by omega)) ?_
  have hmem:rdL g2U setupL i ∈ setupL:=c3T _ _ _ (by omega)
  have hg:=d4K calm (128 * i) _ hmem
  have hex:=f8E p.1 (rdL g2U setupL i) (hsz.mono (by omega)) (by have:=hg.data; omega) (by have:=hg.prf; omega)
  have hrd:rdL ((I.of .i64 0),(zTx,(a0L,((I.of .u64 0),((I.of .i64 0),(Z_U,((I.of .u64 0),(g2Y,())))))))) setupL (I.nat (i6 i)) = rdL g2U setupL i:=by
   rw [a3C (by omega),a4N _ _ _ (by omega),a4N _ _ _ (by omega)]
  rw [← hrd] at hex
  refine Wp.optF hex ?_
  refine Wp.brnT (b9U _ _ (by show p.2.length + 1 ≤ _; rw [hrl,List.length_take]; omega)) ?_
  refine Wp.again ⟨i + 1,by omega,?_⟩ ?_
  ·
   rw [hnx]
   show ((a,(calm,(I.add (i6 i) (I.of .i64 1),()))),_) = _
   rw [hn,← hrd]
   rfl
  ·
   show 8 - (I.add (i6 i) (I.of .i64 1)).val.toNat < 8 - (i6 i).val.toNat
   rw [hn,a0V (by omega),a0V (by omega)]; omega
 ·
  have hc:I.ltb (i6 i) (I.ofNat .i64 (a0G setupL)) = false:=hc
  rw [e] at hc
  have hc:i = 8:=by have:=of_decide_eq_false hc; omega
  subst hc
  have hfin:=hfin rfl
  have h0:RunOk calm 0 setupL p:=⟨hfin,rfl,hsz.mono (by omega),d4K calm _,hm⟩
  clear hnx hfin hsz hm hrl
  refine Wp.done ?_
  refine Wp.iter (fun x=>∃ (i:Nat) (l:List b9H) (p:MS × List Rcp),i ≤ a.length∧x = h0M a calm i l p∧RunOk calm i l p) (fun x=>a.length - x.1.2.2.1.val.toNat) ?_ ⟨0,setupL,p,by omega,rfl,h0⟩ (by rw [a6G]; show a.length - 0 < _; omega)
  rintro x ⟨i,l,q,hi,rfl,hR⟩
  have e:I.ltb (i6 i) (I.ofNat .i64 (a0G a)) = decide (i < a.length):=a2M (n:=i) (by omega) (by show a.length < _; omega)
  have hn:I.add (i6 i) (I.of .i64 1) = i6 (i + 1):=a3H (m:=1) (by omega)
  have hql:q.2.length = 8 + i:=by rw [hR.run,d7A,hR.len]
  refine Wp.brn (fun hc=>?_) (fun hc=>?_)
  ·
   have hc:I.ltb (i6 i) (I.ofNat .i64 (a0G a)) = true:=hc
   rw [e] at hc
   have hc:=of_decide_eq_true hc
   refine Wp.brnT (by show inB (i6 i) a.length = true; exact a3D (by omega) (by omega)) ?_
   have hsz:=hR.sz.mono (show 128 * (8 + i) ≤ 100000000 by omega)
   obtain ⟨s,hs,hg⟩:=g1A (rdL (I.of .i64 0) a (I.nat (i6 i))) calm q.1 hsz
   refine Wp.optF hs (Wp.brnT (b9U _ _ (by show l.length + 1 ≤ _; rw [hR.len]; omega)) ?_)
   refine Wp.optF (f8E q.1 s hsz (by have:=hg.data; omega) (by have:=hg.prf; have:=hsz.ms; omega)) ?_
   refine Wp.brnT (b9U _ _ (by show q.2.length + 1 ≤ _; omega)) ?_
   refine Wp.again ⟨i + 1,l ++ [s],c5X q s,by omega,?_,hR.snoc hg⟩ ?_
   ·
    show ((a,(calm,(I.add (i6 i) (I.of .i64 1),()))),_) = _
    rw [hn]
    rfl
   ·
    show a.length - (I.add (i6 i) (I.of .i64 1)).val.toNat < a.length - (i6 i).val.toNat
    rw [hn,a0V (by omega),a0V (by omega)]; omega
  ·
   have hc:I.ltb (i6 i) (I.ofNat .i64 (a0G a)) = false:=hc
   rw [e] at hc
   have hc:i = a.length:=by have:=of_decide_eq_false hc; omega
   subst hc
   exact Wp.done ⟨l,q,rfl,hR⟩
end Sym

/- Audit: totals. -/
namespace Sym
open Go
abbrev e5A:Type:=a4A
def c1J (r:Rcp):I .i64:=r.1
def e0T (r:Rcp):I .i64:=r.2.1
def d7T (r:Rcp):Chg:=r.2.2.1
def g1H (r:Rcp):U:=r.2.2.2.2.2.2.2.1
def up (T:Nat→Nat) (j n:Nat):Nat→Nat:=fun i=>if i = j then T i + n else T i
theorem b8X (T:Nat→Nat) (j n:Nat):up T j n j = T j + n:=if_pos rfl
theorem a6B (T:Nat→Nat) {j i:Nat} (n:Nat) (h:i ≠ j):up T j n i = T i:=if_neg h
def Ovr (T:Nat→Nat):Prop:=∃ j,j < 8∧U.top ≤ T j
theorem Ovr.up {T:Nat→Nat} (h:Ovr T) (j n:Nat):Ovr (up T j n):=by
 obtain ⟨i,hi,h⟩:=h
 refine ⟨i,hi,?_⟩
 by_cases e:i = j
 ·
  subst e; rw [b8X]; omega
 ·
  rw [a6B T n e]; exact h
def g4T (m:Msg):U:=m.2.2.1
noncomputable def f8J (r:Rcp) (i:Nat):Nat:=(((b5K r).take i).map fun m=>(g4T m).val).sum
theorem f1M {r:Rcp} {i:Nat} (h:i < (b5K r).length):f8J r (i + 1) = f8J r i + (g4T (rdL a0L (b5K r) i)).val:=by
 unfold f8J
 rw [List.take_add_one,List.getElem?_eq_getElem h,a4N _ _ _ h,List.map_append,List.sum_append]
 simp
noncomputable def g2J (r:Rcp):Nat:=f8J r (b5K r).length
def g8A (k:I .i64) (s:b9H) (r:Rcp) (T:Nat→Nat):Nat→Nat :=
 if k.val = 1 then up (up (up (up T 3 (d9J (d7T r)).val) 4 (d0S (d7T r)).val) 5 (g2I (d7T r)).val) 6 (f2G (d7T r)).val
 else if k.val = 2 then up T 7 (g1H r).val
 else if k.val = 6 then up T 0 (c9E s).val
 else if k.val = 7 then up T 2 (c8R (e6W s)).val
 else T
noncomputable def g3J (s:b9H) (r:Rcp) (T:Nat→Nat):Nat→Nat:=if (e0T r).val = 0 then g8A (c1J r) s r (up T 1 (g2J r)) else T
noncomputable def dS:b9H:=((I.of .i64 0),(zTx,(a0L,((I.of .u64 0),((I.of .i64 0),(Z_U,((I.of .u64 0),(g2Y,()))))))))
noncomputable def dR:Rcp:=f3E (I.of .i64 0)
noncomputable def d2R (l:List b9H) (r:List Rcp):Nat→(Nat→Nat)
 | 0=>fun _=>0
 | i + 1=>g3J (rdL dS l i) (rdL dR r i) (d2R l r i)
def g5S (l:List b9H) (r:List Rcp) (i:Nat):Prop:=(e0T (rdL dR r i)).val = 0→(c1J (rdL dR r i)).val = (a8E (rdL dS l i)).val
noncomputable def h0G (T:Nat→Nat):e5A:=(U.of (T 0),(U.of (T 1),(U.of (T 2),(U.of (T 3),(U.of (T 4),(U.of (T 5),(U.of (T 6),(U.of (T 7),()))))))))
open Classical in
noncomputable def g6O (T:Nat→Nat):e5A × I .i64:=if Ovr T then (a2H,I.of .i64 4) else (h0G T,I.of .i64 0)
theorem g3K {T:Nat→Nat} (h:Ovr T):g6O T = (a2H,I.of .i64 4):=if_pos h
theorem g3L {T:Nat→Nat} (h:¬ Ovr T):g6O T = (h0G T,I.of .i64 0):=if_neg h
open Classical in
noncomputable def f0N (l:List b9H) (r:List Rcp):e5A × I .i64 :=
 if l.length ≠ r.length then (a2H,I.of .i64 2)
 else if ∀ i,i < l.length→g5S l r i then g6O (d2R l r l.length)
 else (a2H,I.of .i64 2)
end Sym

/- Audit: the program's totals. -/
namespace Sym
open Go
theorem e8G {l:List b9H} {r:List Rcp} {i:Nat} (hl:l.length = r.length) (hi:i < l.length) (hc:(e0T (rdL dR r i)).val = 0) (hk:(c1J (rdL dR r i)).val ≠ (a8E (rdL dS l i)).val):f0N l r = (a2H,I.of .i64 2):=by
 unfold f0N
 rw [if_neg (by simp [hl]),if_neg (fun h=>hk (h i hi hc))]
noncomputable abbrev zR:Rcp:=((I.of .i64 0),((I.of .i64 0),(a2B,(Z_U,(Z_U,((I.of .u64 0),(Z_U,(Z_U,([],())))))))))
end Sym

/- Audit: the reference's totals. -/
namespace Sym
open Go
abbrev Bg8:Type:=c7J
structure RAcc (b:Bg8) (ov:Bool) (T:Nat→Nat) (c:Nat):Prop where
 i0:IsB b.1 (T 0)
 i1:IsB b.2.1 (T 1)
 i2:IsB b.2.2.1 (T 2)
 i3:IsB b.2.2.2.1 (T 3)
 i4:IsB b.2.2.2.2.1 (T 4)
 i5:IsB b.2.2.2.2.2.1 (T 5)
 i6:IsB b.2.2.2.2.2.2.1 (T 6)
 i7:IsB b.2.2.2.2.2.2.2.1 (T 7)
 ov:ov = true ↔ Ovr T
 le:∀ j,T j ≤ c * U.top
theorem Tlt {T:Nat→Nat} {c j:Nat} (h:T j ≤ c * U.top) (hc:c ≤ 100000000):T j < P40:=by
 have h1:c * U.top ≤ 100000000 * U.top:=Nat.mul_le_mul_right _ hc
 have h2:100000000 * U.top < P40:=by decide +kernel
 omega
theorem e0E {ov:Bool} {T:Nat→Nat} (h:ov = true ↔ Ovr T) (j:Nat) (hj:j < 8) (n:Nat):(ov || a3I (decide (T j + n < U.top))) = true ↔ Ovr (up T j n):=by
 constructor
 ·
  intro g
  rcases Bool.or_eq_true _ _ ▸ g with g | g
  ·
   exact (h.1 g).up j n
  ·
   have g:=of_decide_eq_false (f7S g)
   exact ⟨j,hj,by rw [b8X]; omega⟩
 ·
  rintro ⟨i,hi,g⟩
  by_cases e:i = j
  ·
   subst e
   rw [b8X] at g
   rw [decide_eq_false (by omega)]
   simp [a3I]
  ·
   rw [a6B T n e] at g
   rw [h.2 ⟨i,hi,g⟩]
   rfl
theorem d8M {T:Nat→Nat} {c:Nat} (h:∀ j,T j ≤ c * U.top) (j:Nat) (n:U):∀ i,up T j n.val i ≤ (c + 1) * U.top:=by
 intro i
 have h1:=h i
 have h2:=U.lt n
 rw [Nat.add_mul]
 unfold up
 split <;> omega
theorem RAcc.of {b:Bg8} {ov ov':Bool} {T:Nat→Nat} {c:Nat} (h:RAcc b ov T c) (e:ov = ov'):RAcc b ov' T c:=e ▸ h
theorem g9B {b:Bg8} {ov:Bool} {T:Nat→Nat} {c:Nat} (h:RAcc b ov T c) (n:U) {r:List (I .i64)} (hr:IsB r (T 0 + n.val)):RAcc ((r,(b.2.1,(b.2.2.1,(b.2.2.2.1,(b.2.2.2.2.1,(b.2.2.2.2.2.1,(b.2.2.2.2.2.2.1,(b.2.2.2.2.2.2.2.1,()))))))))) (ov || a3I (decide (T 0 + n.val < U.top))) (up T 0 n.val) (c + 1) :=
 ⟨by rw [b8X]; exact hr,by rw [a6B T n.val (by decide)]; exact h.i1,by rw [a6B T n.val (by decide)]; exact h.i2,by rw [a6B T n.val (by decide)]; exact h.i3,by rw [a6B T n.val (by decide)]; exact h.i4,by rw [a6B T n.val (by decide)]; exact h.i5,by rw [a6B T n.val (by decide)]; exact h.i6,by rw [a6B T n.val (by decide)]; exact h.i7,e0E h.ov 0 (by decide) n.val,d8M h.le 0 n⟩
theorem g6X {b:Bg8} {ov:Bool} {T:Nat→Nat} {c:Nat} (h:RAcc b ov T c) (n:U) {r:List (I .i64)} (hr:IsB r (T 1 + n.val)):RAcc ((b.1,(r,(b.2.2.1,(b.2.2.2.1,(b.2.2.2.2.1,(b.2.2.2.2.2.1,(b.2.2.2.2.2.2.1,(b.2.2.2.2.2.2.2.1,()))))))))) (ov || a3I (decide (T 1 + n.val < U.top))) (up T 1 n.val) (c + 1) :=
 ⟨by rw [a6B T n.val (by decide)]; exact h.i0,by rw [b8X]; exact hr,by rw [a6B T n.val (by decide)]; exact h.i2,by rw [a6B T n.val (by decide)]; exact h.i3,by rw [a6B T n.val (by decide)]; exact h.i4,by rw [a6B T n.val (by decide)]; exact h.i5,by rw [a6B T n.val (by decide)]; exact h.i6,by rw [a6B T n.val (by decide)]; exact h.i7,e0E h.ov 1 (by decide) n.val,d8M h.le 1 n⟩
theorem g9T {b:Bg8} {ov:Bool} {T:Nat→Nat} {c:Nat} (h:RAcc b ov T c) (n:U) {r:List (I .i64)} (hr:IsB r (T 2 + n.val)):RAcc ((b.1,(b.2.1,(r,(b.2.2.2.1,(b.2.2.2.2.1,(b.2.2.2.2.2.1,(b.2.2.2.2.2.2.1,(b.2.2.2.2.2.2.2.1,()))))))))) (ov || a3I (decide (T 2 + n.val < U.top))) (up T 2 n.val) (c + 1) :=
 ⟨by rw [a6B T n.val (by decide)]; exact h.i0,by rw [a6B T n.val (by decide)]; exact h.i1,by rw [b8X]; exact hr,by rw [a6B T n.val (by decide)]; exact h.i3,by rw [a6B T n.val (by decide)]; exact h.i4,by rw [a6B T n.val (by decide)]; exact h.i5,by rw [a6B T n.val (by decide)]; exact h.i6,by rw [a6B T n.val (by decide)]; exact h.i7,e0E h.ov 2 (by decide) n.val,d8M h.le 2 n⟩
theorem g8L {b:Bg8} {ov:Bool} {T:Nat→Nat} {c:Nat} (h:RAcc b ov T c) (n:U) {r:List (I .i64)} (hr:IsB r (T 3 + n.val)):RAcc ((b.1,(b.2.1,(b.2.2.1,(r,(b.2.2.2.2.1,(b.2.2.2.2.2.1,(b.2.2.2.2.2.2.1,(b.2.2.2.2.2.2.2.1,()))))))))) (ov || a3I (decide (T 3 + n.val < U.top))) (up T 3 n.val) (c + 1) :=
 ⟨by rw [a6B T n.val (by decide)]; exact h.i0,by rw [a6B T n.val (by decide)]; exact h.i1,by rw [a6B T n.val (by decide)]; exact h.i2,by rw [b8X]; exact hr,by rw [a6B T n.val (by decide)]; exact h.i4,by rw [a6B T n.val (by decide)]; exact h.i5,by rw [a6B T n.val (by decide)]; exact h.i6,by rw [a6B T n.val (by decide)]; exact h.i7,e0E h.ov 3 (by decide) n.val,d8M h.le 3 n⟩
theorem g7E {b:Bg8} {ov:Bool} {T:Nat→Nat} {c:Nat} (h:RAcc b ov T c) (n:U) {r:List (I .i64)} (hr:IsB r (T 4 + n.val)):RAcc ((b.1,(b.2.1,(b.2.2.1,(b.2.2.2.1,(r,(b.2.2.2.2.2.1,(b.2.2.2.2.2.2.1,(b.2.2.2.2.2.2.2.1,()))))))))) (ov || a3I (decide (T 4 + n.val < U.top))) (up T 4 n.val) (c + 1) :=
 ⟨by rw [a6B T n.val (by decide)]; exact h.i0,by rw [a6B T n.val (by decide)]; exact h.i1,by rw [a6B T n.val (by decide)]; exact h.i2,by rw [a6B T n.val (by decide)]; exact h.i3,by rw [b8X]; exact hr,by rw [a6B T n.val (by decide)]; exact h.i5,by rw [a6B T n.val (by decide)]; exact h.i6,by rw [a6B T n.val (by decide)]; exact h.i7,e0E h.ov 4 (by decide) n.val,d8M h.le 4 n⟩
theorem g8F {b:Bg8} {ov:Bool} {T:Nat→Nat} {c:Nat} (h:RAcc b ov T c) (n:U) {r:List (I .i64)} (hr:IsB r (T 5 + n.val)):RAcc ((b.1,(b.2.1,(b.2.2.1,(b.2.2.2.1,(b.2.2.2.2.1,(r,(b.2.2.2.2.2.2.1,(b.2.2.2.2.2.2.2.1,()))))))))) (ov || a3I (decide (T 5 + n.val < U.top))) (up T 5 n.val) (c + 1) :=
 ⟨by rw [a6B T n.val (by decide)]; exact h.i0,by rw [a6B T n.val (by decide)]; exact h.i1,by rw [a6B T n.val (by decide)]; exact h.i2,by rw [a6B T n.val (by decide)]; exact h.i3,by rw [a6B T n.val (by decide)]; exact h.i4,by rw [b8X]; exact hr,by rw [a6B T n.val (by decide)]; exact h.i6,by rw [a6B T n.val (by decide)]; exact h.i7,e0E h.ov 5 (by decide) n.val,d8M h.le 5 n⟩
theorem g9Q {b:Bg8} {ov:Bool} {T:Nat→Nat} {c:Nat} (h:RAcc b ov T c) (n:U) {r:List (I .i64)} (hr:IsB r (T 6 + n.val)):RAcc ((b.1,(b.2.1,(b.2.2.1,(b.2.2.2.1,(b.2.2.2.2.1,(b.2.2.2.2.2.1,(r,(b.2.2.2.2.2.2.2.1,()))))))))) (ov || a3I (decide (T 6 + n.val < U.top))) (up T 6 n.val) (c + 1) :=
 ⟨by rw [a6B T n.val (by decide)]; exact h.i0,by rw [a6B T n.val (by decide)]; exact h.i1,by rw [a6B T n.val (by decide)]; exact h.i2,by rw [a6B T n.val (by decide)]; exact h.i3,by rw [a6B T n.val (by decide)]; exact h.i4,by rw [a6B T n.val (by decide)]; exact h.i5,by rw [b8X]; exact hr,by rw [a6B T n.val (by decide)]; exact h.i7,e0E h.ov 6 (by decide) n.val,d8M h.le 6 n⟩
theorem g8E {b:Bg8} {ov:Bool} {T:Nat→Nat} {c:Nat} (h:RAcc b ov T c) (n:U) {r:List (I .i64)} (hr:IsB r (T 7 + n.val)):RAcc ((b.1,(b.2.1,(b.2.2.1,(b.2.2.2.1,(b.2.2.2.2.1,(b.2.2.2.2.2.1,(b.2.2.2.2.2.2.1,(r,()))))))))) (ov || a3I (decide (T 7 + n.val < U.top))) (up T 7 n.val) (c + 1) :=
 ⟨by rw [a6B T n.val (by decide)]; exact h.i0,by rw [a6B T n.val (by decide)]; exact h.i1,by rw [a6B T n.val (by decide)]; exact h.i2,by rw [a6B T n.val (by decide)]; exact h.i3,by rw [a6B T n.val (by decide)]; exact h.i4,by rw [a6B T n.val (by decide)]; exact h.i5,by rw [a6B T n.val (by decide)]; exact h.i6,by rw [b8X]; exact hr,e0E h.ov 7 (by decide) n.val,d8M h.le 7 n⟩
theorem c0A {T:Nat→Nat} {j c:Nat} {l:List (I .i64)} (h:IsB l (T j)) (hle:∀ j,T j ≤ c * U.top) (hc:c ≤ 100000000) (n:U):∃ s r,a0B K0 ((n,()),()) = some ((s,()),())∧a0T K0 ((l,(s,())),()) = some ((r,()),())∧IsB r (T j + n.val)∧a1L K0 ((r,()),()) = some ((decide (T j + n.val < U.top),()),()):=by
 obtain ⟨s,hs,hB⟩:=a0X n
 obtain ⟨r,hr,hR⟩:=a9P h hB (lenK' h (Tlt (hle j) hc)) (d3R hB)
 have hlt:T j + n.val < P40:=by
  have:=Tlt (T:=fun _=>T j + n.val) (c:=c + 1) (j:=0) (by have:=hle j; have:=U.lt n; rw [Nat.add_mul]; show T j + n.val ≤ _; omega)
  by_cases h8:c + 1 ≤ 100000000
  ·
   exact this h8
  ·
   have h1:c * U.top ≤ 100000000 * U.top:=Nat.mul_le_mul_right _ hc
   have h2:100000000 * U.top + U.top < P40:=by decide +kernel
   have:=hle j
   have:=U.lt n
   omega
 exact ⟨s,r,hs,hr,hR,d4I hR (lenK' hR hlt)⟩
end Sym

/- Audit: the reference's totals, told as the program's. -/
namespace Sym
open Go
theorem RAcc.mono {b:Bg8} {ov:Bool} {T:Nat→Nat} {c d:Nat} (h:RAcc b ov T c) (hc:c ≤ d):RAcc b ov T d :=
 ⟨h.i0,h.i1,h.i2,h.i3,h.i4,h.i5,h.i6,h.i7,h.ov,fun j=>Nat.le_trans (h.le j) (Nat.mul_le_mul_right _ hc)⟩
noncomputable abbrev zAd:b2K:=((([]:List (I .i64)),([],([],([],([],([],([],([],())))))))),(false,()))
theorem f8N:IsB ([]:List (I .i64)) 0:=⟨(fun _ h=>by cases h),trivial,rfl⟩
theorem f1I (l:List b9H) (r:List Rcp) (hl:l.length ≤ 1000) (hr:r.length ≤ 1073741824) (hm:∀ x ∈ r,(b5K x).length ≤ 1000):b1L K0 ((l,(r,())),()) = some (((f0N l r).1,((f0N l r).2,())),()):=by
 refine Wp.out (T:=fun o=>o = some (((f0N l r).1,((f0N l r).2,())),())) ?_
 unfold b1L
 have e:I.neb (I.ofNat .i64 (a0G l)) (I.ofNat .i64 (a0G r)) = decide (l.length ≠ r.length):=i6_neb' (n:=l.length) (m:=r.length) (by omega) (by omega)
 refine Wp.brn (fun h=>?_) (fun h=>?_)
 ·
  have h:I.neb (I.ofNat .i64 (a0G l)) (I.ofNat .i64 (a0G r)) = true:=h
  rw [e] at h
  unfold f0N
  rw [if_pos (of_decide_eq_true h)]
  rfl
 have h:I.neb (I.ofNat .i64 (a0G l)) (I.ofNat .i64 (a0G r)) = false:=h
 rw [e] at h
 have hlr:l.length = r.length:=by have:=of_decide_eq_false h; omega
 refine Wp.iter (fun x=>∃ i,i ≤ l.length∧x = ((l,(r,(i6 i,()))),(a2H,(zAd,())))∧∀ k,k < i→g5S l r k) (fun x=>l.length - x.1.2.2.1.val.toNat) ?_ ⟨0,by omega,rfl,fun k hk=>by omega⟩ (by rw [a6G]; show l.length - 0 < _; omega)
 rintro x ⟨i,hi,rfl,hk⟩
 have hn:I.add (i6 i) (I.of .i64 1) = i6 (i + 1):=a3H (m:=1) (by omega)
 have hmu:l.length - (I.add (i6 i) (I.of .i64 1)).val.toNat < l.length - (i6 i).val.toNat ∨ l.length ≤ i:=by rw [hn,a0V (by omega),a0V (by omega)]; omega
 have e2:I.ltb (i6 i) (I.ofNat .i64 (a0G l)) = decide (i < l.length):=a2M (n:=i) (m:=l.length) (by omega) (by omega)
 refine Wp.brn (fun hc=>?_) (fun hc=>?_)
 ·
  have hc:I.ltb (i6 i) (I.ofNat .i64 (a0G l)) = true:=hc
  rw [e2] at hc
  have hc:=of_decide_eq_true hc
  have hrd:rdL zR r (I.nat (i6 i)) = rdL dR r i:=by rw [a3C (by omega)]; rfl
  have hls:rdL dS l (I.nat (i6 i)) = rdL dS l i:=by rw [a3C (by omega)]
  refine Wp.brnT (a3D (by show i < r.length; omega) (by omega)) ?_
  refine Wp.brn (fun g=>?_) (fun g=>?_)
  ·
   have g:(e0T (rdL zR r (I.nat (i6 i)))).val = 0:=iff_eqb.1 g
   rw [hrd] at g
   refine Wp.brnT (a3D (by show i < r.length; omega) (by omega)) (Wp.brnT (a3D (by show i < l.length; omega) (by omega)) ?_)
   refine Wp.brn (fun q=>?_) (fun q=>?_)
   ·
    have q:(c1J (rdL zR r (I.nat (i6 i)))).val ≠ (a8E (rdL dS l (I.nat (i6 i)))).val:=iff_neb.1 q
    rw [hrd,hls] at q
    refine Wp.done ?_
    rw [e8G hlr (by omega) g q]
    rfl
   ·
    have q:(c1J (rdL zR r (I.nat (i6 i)))).val = (a8E (rdL dS l (I.nat (i6 i)))).val:=niff_neb.1 q
    rw [hrd,hls] at q
    refine Wp.again ⟨i + 1,by omega,by show ((l,(r,(I.add (i6 i) (I.of .i64 1),()))),_) = _; rw [hn],fun k hk'=>?_⟩ (hmu.resolve_right (by omega))
    rcases (by omega:k < i ∨ k = i) with h3 | rfl
    ·
     exact hk k h3
    ·
     exact fun _=>q
  ·
   have g:(e0T (rdL zR r (I.nat (i6 i)))).val ≠ 0:=niff_eqb.1 g
   rw [hrd] at g
   refine Wp.again ⟨i + 1,by omega,by show ((l,(r,(I.add (i6 i) (I.of .i64 1),()))),_) = _; rw [hn],fun k hk'=>?_⟩ (hmu.resolve_right (by omega))
   rcases (by omega:k < i ∨ k = i) with h3 | rfl
   ·
    exact hk k h3
   ·
    exact fun h0=>absurd h0 g
 have hc:I.ltb (i6 i) (I.ofNat .i64 (a0G l)) = false:=hc
 rw [e2] at hc
 have hc:i = l.length:=by have:=of_decide_eq_false hc; omega
 subst hc
 have hF:f0N l r = g6O (d2R l r l.length):=by
  unfold f0N
  rw [if_neg (by simp [hlr]),if_pos hk]
 clear hmu hn e2 hi
 refine Wp.done ?_
 refine Wp.iter (fun x=>∃ (i:Nat) (u:Bg8) (ov:Bool),i ≤ l.length∧x = ((l,(r,(i6 i,()))),(a2H,((u,(ov,())),())))∧RAcc u ov (d2R l r i) (1010 * i)) (fun x=>l.length - x.1.2.2.1.val.toNat) ?_ ⟨0,_,_,by omega,rfl,⟨f8N,f8N,f8N,f8N,f8N,f8N,f8N,f8N,⟨(fun h=>by cases h),(fun ⟨j,_,h⟩=>absurd (show U.top ≤ 0 from h) (by decide))⟩,fun j=>Nat.zero_le _⟩⟩ (by rw [a6G]; show l.length - 0 < _; omega)
 rintro x ⟨i,u,ov,hi,rfl,hP⟩
 have hn:I.add (i6 i) (I.of .i64 1) = i6 (i + 1):=a3H (m:=1) (by omega)
 have hmu:l.length - (I.add (i6 i) (I.of .i64 1)).val.toNat < l.length - (i6 i).val.toNat ∨ l.length ≤ i:=by rw [hn,a0V (by omega),a0V (by omega)]; omega
 have e2:I.ltb (i6 i) (I.ofNat .i64 (a0G l)) = decide (i < l.length):=a2M (n:=i) (m:=l.length) (by omega) (by omega)
 refine Wp.brn (fun hc=>?_) (fun hc=>?_)
 case refine_2 =>
  have hc:I.ltb (i6 i) (I.ofNat .i64 (a0G l)) = false:=hc
  rw [e2] at hc
  have hc:i = l.length:=by have:=of_decide_eq_false hc; omega
  subst hc
  refine Wp.done (Wp.brn (fun ho=>?_) (fun ho=>?_))
  ·
   have ho:ov = true:=ho
   rw [hF,g3K (hP.ov.1 ho)]
   rfl
  ·
   have ho:ov = false:=ho
   have hno:¬ Ovr (d2R l r l.length):=fun h=>by have:=hP.ov.2 h; rw [ho] at this; cases this
   rw [hF,g3L hno]
   have hc:1010 * l.length ≤ 100000000:=by omega
   have t:=fun j (b:List (I .i64)) (h:IsB b (d2R l r l.length j))=>c2L h (lenK' h (Tlt (hP.le j) hc))
   exact Wp.optF (t 0 _ hP.i0) (Wp.optF (t 1 _ hP.i1) (Wp.optF (t 2 _ hP.i2) (Wp.optF (t 3 _ hP.i3) (Wp.optF (t 4 _ hP.i4) (Wp.optF (t 5 _ hP.i5) (Wp.optF (t 6 _ hP.i6) (Wp.optF (t 7 _ hP.i7) rfl)))))))
 have hc:I.ltb (i6 i) (I.ofNat .i64 (a0G l)) = true:=hc
 rw [e2] at hc
 have hc:=of_decide_eq_true hc
 have hrd:rdL zR r (I.nat (i6 i)) = rdL dR r i:=by rw [a3C (by omega)]; rfl
 have hls:rdL dS l (I.nat (i6 i)) = rdL dS l i:=by rw [a3C (by omega)]
 refine Wp.brnT (a3D (by show i < r.length; omega) (by omega)) ?_
 refine Wp.brn (fun g=>?_) (fun g=>?_)
 case refine_2 =>
  have g:(e0T (rdL zR r (I.nat (i6 i)))).val ≠ 0:=niff_eqb.1 g
  rw [hrd] at g
  refine Wp.again ⟨i + 1,u,ov,by omega,by show ((l,(r,(I.add (i6 i) (I.of .i64 1),()))),_) = _; rw [hn]; rfl,?_⟩ (hmu.resolve_right (by omega))
  have:d2R l r (i + 1) = d2R l r i:=by
   show g3J _ _ _ = _
   unfold g3J
   rw [if_neg g]
  rw [this]
  exact hP.mono (by omega)
 have g:(e0T (rdL zR r (I.nat (i6 i)))).val = 0:=iff_eqb.1 g
 rw [hrd] at g
 have hkk:=hk i (by omega) g
 refine Wp.brnT (a3D (by show i < l.length; omega) (by omega)) (Wp.brnT (a3D (by show i < r.length; omega) (by omega)) ?_)
 have hS:d2R l r (i + 1) = g8A (c1J (rdL dR r i)) (rdL dS l i) (rdL dR r i) (up (d2R l r i) 1 (g2J (rdL dR r i))):=by
  show g3J _ _ _ = _
  unfold g3J
  rw [if_pos g]
 have hML:=hm (rdL dR r i) (c3T _ _ _ (by omega))
 have hfin:∀ (ov':Bool) (u':Bg8),RAcc u' ov' (d2R l r (i + 1)) (1010 * (i + 1))→Wp (Rnd (fun o:Option _=>o = some (((f0N l r).1,((f0N l r).2,())),())) (fun x=>∃ (i:Nat) (u:Bg8) (ov:Bool),i ≤ l.length∧x = ((l,(r,(i6 i,()))),(a2H,((u,(ov,())),())))∧RAcc u ov (d2R l r i) (1010 * i)) (fun x=>l.length - x.1.2.2.1.val.toNat) (l.length - (i6 i).val.toNat)) (.again ((l,(r,(I.add (i6 i) (I.of .i64 1),()))),(a2H,((u',(ov',())),())))):=by
  intro ov' u' h'
  exact Wp.again ⟨i + 1,u',ov',by omega,by rw [hn],h'⟩ (hmu.resolve_right (by omega))
 have hms:b5K (rdL zR r (I.nat (i6 i))) = b5K (rdL dR r i):=by rw [hrd]
 refine Wp.iter (fun x=>∃ (q:Nat) (u':Bg8) (ov':Bool),q ≤ (b5K (rdL zR r (I.nat (i6 i)))).length∧x = ((i6 q,(l,(r,(i6 i,())))),((u',(ov',())),(rdL dS l (I.nat (i6 i)),(rdL zR r (I.nat (i6 i)),(a2H,())))))∧RAcc u' ov' (up (d2R l r i) 1 (f8J (rdL dR r i) q)) (1010 * i + q)) (fun x=>(b5K (rdL zR r (I.nat (i6 i)))).length - x.1.1.val.toNat) ?_ ⟨0,u,ov,by omega,rfl,?_⟩ (by rw [a6G,hms]; show _ - 0 < _; omega)
 case refine_2 =>
  have:up (d2R l r i) 1 (f8J (rdL dR r i) 0) = d2R l r i:=by
   funext j
   unfold up
   split
   ·
    exact Nat.add_zero _
   ·
    rfl
  rw [this]
  exact hP
 rintro x ⟨q,v,w,hq,rfl,hQ⟩
 have hql:q ≤ 1000:=by rw [hms] at hq; omega
 have hn2:I.add (i6 q) (I.of .i64 1) = i6 (q + 1):=a3H (m:=1) (by omega)
 have e3:I.ltb (i6 q) (I.ofNat .i64 (a0G (b5K (rdL zR r (I.nat (i6 i)))))) = decide (q < (b5K (rdL zR r (I.nat (i6 i)))).length):=a2M (n:=q) (by omega) (by show (b5K (rdL zR r (I.nat (i6 i)))).length < _; rw [hms]; omega)
 refine Wp.brn (fun hc2=>?_) (fun hc2=>?_)
 ·
  have hc2:I.ltb (i6 q) (I.ofNat .i64 (a0G (b5K (rdL zR r (I.nat (i6 i)))))) = true:=hc2
  rw [e3] at hc2
  have hc2:=of_decide_eq_true hc2
  refine Wp.brnT (by show inB (i6 q) (b5K (rdL zR r (I.nat (i6 i)))).length = true; exact a3D hc2 (by omega)) ?_
  obtain ⟨s1,r1,f1,f2,hR,f3⟩:=c0A hQ.i1 hQ.le (by omega) (g4T (rdL a0L (b5K (rdL zR r (I.nat (i6 i)))) (I.nat (i6 q))))
  have hA:=g6X hQ (g4T (rdL a0L (b5K (rdL zR r (I.nat (i6 i)))) (I.nat (i6 q)))) hR
  have hT:up (up (d2R l r i) 1 (f8J (rdL dR r i) q)) 1 (g4T (rdL a0L (b5K (rdL zR r (I.nat (i6 i)))) (I.nat (i6 q)))).val = up (d2R l r i) 1 (f8J (rdL dR r i) (q + 1)):=by
   rw [hms,a3C (by omega),f1M (by rw [← hms]; exact hc2)]
   funext j
   unfold up
   split
   ·
    omega
   ·
    rfl
  rw [hT] at hA
  have hmu2:(b5K (rdL zR r (I.nat (i6 i)))).length - (I.add (i6 q) (I.of .i64 1)).val.toNat < (b5K (rdL zR r (I.nat (i6 i)))).length - (i6 q).val.toNat:=by rw [hn2,a0V (by omega),a0V (by omega)]; omega
  refine Wp.optF f1 (Wp.optF f2 (Wp.brn (fun ho=>?_) (fun ho=>Wp.optF f3 ?_)))
  ·
   have ho:w = true:=ho
   exact Wp.again ⟨q + 1,_,true,by omega,by rw [← hn2],hA.of (by rw [ho]; rfl)⟩ hmu2
  ·
   have ho:w = false:=ho
   exact Wp.again ⟨q + 1,_,_,by omega,by rw [← hn2],hA.of (by rw [ho]; rfl)⟩ hmu2
 ·
  have hc2:I.ltb (i6 q) (I.ofNat .i64 (a0G (b5K (rdL zR r (I.nat (i6 i)))))) = false:=hc2
  rw [e3] at hc2
  have hq2:q = (b5K (rdL dR r i)).length:=by have:=of_decide_eq_false hc2; rw [hms] at this hq; omega
  have hQ:RAcc v w (up (d2R l r i) 1 (g2J (rdL dR r i))) (1010 * i + 1000):=by rw [hq2] at hQ; exact hQ.mono (by omega)
  clear hms hc2 e3 hq
  have hrk:c1J (rdL zR r (I.nat (i6 i))) = c1J (rdL dR r i):=by rw [hrd]
  unfold g8A at hS
  refine Wp.done ?_
  refine Wp.brn (fun k6=>?_) (fun k6=>?_)
  ·
   have k6:(c1J (rdL zR r (I.nat (i6 i)))).val = 6:=iff_eqb.1 k6
   rw [hrk] at k6
   rw [if_neg (show ¬ (c1J (rdL dR r i)).val = 1 by omega),if_neg (show ¬ (c1J (rdL dR r i)).val = 2 by omega),if_pos k6] at hS
   obtain ⟨s1,r1,f1,f2,hR,f3⟩:=c0A hQ.i0 hQ.le (by omega) (c9E (rdL dS l (I.nat (i6 i))))
   have hA:=g9B hQ (c9E (rdL dS l (I.nat (i6 i)))) hR
   rw [← hls] at hS; rw [← hS] at hA
   refine Wp.optF f1 (Wp.optF f2 (Wp.brn (fun ho=>?_) (fun ho=>Wp.optF f3 ?_)))
   ·
    have ho:w = true:=ho
    exact hfin _ _ ((hA.mono (by omega)).of (by rw [ho]; rfl))
   ·
    have ho:w = false:=ho
    exact hfin _ _ ((hA.mono (by omega)).of (by rw [ho]; rfl))
  have k6:(c1J (rdL zR r (I.nat (i6 i)))).val ≠ 6:=niff_eqb.1 k6
  rw [hrk] at k6
  refine Wp.brn (fun k7=>?_) (fun k7=>?_)
  ·
   have k7:(c1J (rdL zR r (I.nat (i6 i)))).val = 7:=iff_eqb.1 k7
   rw [hrk] at k7
   rw [if_neg (show ¬ (c1J (rdL dR r i)).val = 1 by omega),if_neg (show ¬ (c1J (rdL dR r i)).val = 2 by omega),if_neg k6,if_pos k7] at hS
   obtain ⟨s1,r1,f1,f2,hR,f3⟩:=c0A hQ.i2 hQ.le (by omega) (c8R (e6W (rdL dS l (I.nat (i6 i)))))
   have hA:=g9T hQ (c8R (e6W (rdL dS l (I.nat (i6 i))))) hR
   rw [← hls] at hS; rw [← hS] at hA
   refine Wp.optF f1 (Wp.optF f2 (Wp.brn (fun ho=>?_) (fun ho=>Wp.optF f3 ?_)))
   ·
    have ho:w = true:=ho
    exact hfin _ _ ((hA.mono (by omega)).of (by rw [ho]; rfl))
   ·
    have ho:w = false:=ho
    exact hfin _ _ ((hA.mono (by omega)).of (by rw [ho]; rfl))
  have k7:(c1J (rdL zR r (I.nat (i6 i)))).val ≠ 7:=niff_eqb.1 k7
  rw [hrk] at k7
  refine Wp.brn (fun k1=>?_) (fun k1=>?_)
  ·
   have k1:(c1J (rdL zR r (I.nat (i6 i)))).val = 1:=iff_eqb.1 k1
   rw [hrk] at k1
   rw [if_pos k1] at hS
   rw [← hrd] at hQ hS
   obtain ⟨s3,r3,f3a,f3b,hR3,f3c⟩:=c0A hQ.i3 hQ.le (by omega) (d9J (d7T (rdL zR r (I.nat (i6 i)))))
   have h3:=g8L hQ (d9J (d7T (rdL zR r (I.nat (i6 i))))) hR3
   obtain ⟨s4,r4,f4a,f4b,hR4,f4c⟩:=c0A h3.i4 h3.le (by omega) (d0S (d7T (rdL zR r (I.nat (i6 i)))))
   have h4:=g7E h3 (d0S (d7T (rdL zR r (I.nat (i6 i))))) hR4
   obtain ⟨s5,r5,f5a,f5b,hR5,f5c⟩:=c0A h4.i5 h4.le (by omega) (g2I (d7T (rdL zR r (I.nat (i6 i)))))
   have h5:=g8F h4 (g2I (d7T (rdL zR r (I.nat (i6 i))))) hR5
   obtain ⟨s6,r6,f6a,f6b,hR6,f6c⟩:=c0A h5.i6 h5.le (by omega) (f2G (d7T (rdL zR r (I.nat (i6 i)))))
   have h6:=(g9Q h5 (f2G (d7T (rdL zR r (I.nat (i6 i))))) hR6).mono (show 1010 * i + 1000 + 1 + 1 + 1 + 1 ≤ 1010 * (i + 1) by omega)
   rw [← hS] at h6
   refine Wp.optF f3a (Wp.optF f3b ?_)
   refine Wp.brn (fun ho=>?_) (fun ho=>?_)
   ·
    have ho:w = true:=ho
    refine Wp.optF f4a (Wp.optF f4b (Wp.optF f5a (Wp.optF f5b (Wp.optF f6a (Wp.optF f6b (hfin _ _ (h6.of ?_)))))))
    rw [ho]; rfl
   have ho:w = false:=ho
   rw [ho] at h6
   refine Wp.optF f3c (Wp.optF f4a (Wp.optF f4b ?_))
   generalize decide (up (d2R l r i) 1 (g2J (rdL zR r (I.nat (i6 i)))) 3 + (d9J (d7T (rdL zR r (I.nat (i6 i))))).val < U.top) = d3 at *
   refine Wp.brn (fun o3=>?_) (fun o3=>?_)
   ·
    have o3:d3 = false:=f7S o3
    refine Wp.optF f5a (Wp.optF f5b (Wp.optF f6a (Wp.optF f6b (hfin _ _ (h6.of ?_)))))
    rw [o3]; rfl
   have o3:d3 = true:=g3U o3
   refine Wp.optF f4c (Wp.optF f5a (Wp.optF f5b ?_))
   generalize decide (up (up (d2R l r i) 1 (g2J (rdL zR r (I.nat (i6 i))))) 3 (d9J (d7T (rdL zR r (I.nat (i6 i))))).val 4 + (d0S (d7T (rdL zR r (I.nat (i6 i))))).val < U.top) = d4 at *
   refine Wp.brn (fun o4=>?_) (fun o4=>?_)
   ·
    have o4:d4 = false:=f7S o4
    refine Wp.optF f6a (Wp.optF f6b (hfin _ _ (h6.of ?_)))
    rw [o3,o4]; rfl
   have o4:d4 = true:=g3U o4
   refine Wp.optF f5c (Wp.optF f6a (Wp.optF f6b ?_))
   generalize decide (up (up (up (d2R l r i) 1 (g2J (rdL zR r (I.nat (i6 i))))) 3 (d9J (d7T (rdL zR r (I.nat (i6 i))))).val) 4 (d0S (d7T (rdL zR r (I.nat (i6 i))))).val 5 + (g2I (d7T (rdL zR r (I.nat (i6 i))))).val < U.top) = d5 at *
   refine Wp.brn (fun o5=>?_) (fun o5=>Wp.optF f6c (hfin _ _ (h6.of ?_)))
   ·
    have o5:d5 = false:=f7S o5
    refine hfin _ _ (h6.of ?_)
    rw [o3,o4,o5]; rfl
   ·
    have o5:d5 = true:=g3U o5
    rw [o3,o4,o5]; rfl
  have k1:(c1J (rdL zR r (I.nat (i6 i)))).val ≠ 1:=niff_eqb.1 k1
  rw [hrk] at k1
  refine Wp.brn (fun k2=>?_) (fun k2=>?_)
  ·
   have k2:(c1J (rdL zR r (I.nat (i6 i)))).val = 2:=iff_eqb.1 k2
   rw [hrk] at k2
   rw [if_neg k1,if_pos k2] at hS
   obtain ⟨s1,r1,f1,f2,hR,f3⟩:=c0A hQ.i7 hQ.le (by omega) (g1H (rdL zR r (I.nat (i6 i))))
   have hA:=g8E hQ (g1H (rdL zR r (I.nat (i6 i)))) hR
   rw [← hrd] at hS; rw [← hrd] at hA; rw [← hS] at hA
   refine Wp.optF f1 (Wp.optF f2 (Wp.brn (fun ho=>?_) (fun ho=>Wp.optF f3 ?_)))
   ·
    have ho:w = true:=ho
    exact hfin _ _ ((hA.mono (by omega)).of (by rw [ho]; rfl))
   ·
    have ho:w = false:=ho
    exact hfin _ _ ((hA.mono (by omega)).of (by rw [ho]; rfl))
  have k2:(c1J (rdL zR r (I.nat (i6 i)))).val ≠ 2:=niff_eqb.1 k2
  rw [hrk] at k2
  rw [if_neg k1,if_neg k2,if_neg k6,if_neg k7] at hS
  rw [← hS] at hQ
  exact hfin _ _ (hQ.mono (by omega))
end Sym

/- From what a row reads of the arguments to plain values, and from a contract to the row's answer. -/
namespace Sym
open Go
mutual
def f2B (P:Program):Ty→TypeId→Bool
 | .cons a b,id=>match P.underlying id with
  | some (.struct fs)=>(match fs.toList with
   | f :: r=>f2B P a f.type && f3N P b r
   | []=>false)
  | _=>false
 | .arr _ t,id=>match P.underlying id with
  | some (.array _ e)=>f2B P t e
  | _=>false
 | .sl t,id=>match P.underlying id with
  | some (.slice e)=>Nat.ble 1 t.sz && (Nat.ble 1 (P.bytesOf e) && f2B P t e)
  | _=>false
 | .opq,_=>false
 | _,_=>true
def f3N (P:Program):Ty→List Field→Bool
 | .cons a b,f :: r=>f2B P a f.type && f3N P b r
 | _,_=>true
end
theorem mapM_some {X Y:Type} {f:X→Option Y}:∀ {l:List X} {r:List Y},l.mapM f = some r→r.length = l.length∧∀ (i:Nat) (a:X),l[i]? = some a→∃ b,r[i]? = some b∧f a = some b
 | [],r,h=>by
  simp only [List.mapM_nil,Option.pure_def,Option.some.injEq] at h
  subst h
  exact ⟨rfl,fun i a h=>by simp at h⟩
 | a :: l,r,h=>by
  simp only [List.mapM_cons,Option.bind_eq_bind,Option.bind_eq_some_iff,Option.pure_def,Option.some.injEq] at h
  obtain ⟨b,hb,s,hs,rfl⟩:=h
  obtain ⟨h1,h2⟩:=mapM_some hs
  refine ⟨by simp [h1],fun i x hx=>?_⟩
  cases i with
  | zero =>
   simp only [List.getElem?_cons_zero,Option.some.injEq] at hx
   subst hx
   exact ⟨b,by simp,hb⟩
  | succ i =>
   simp only [List.getElem?_cons_succ] at hx
   obtain ⟨y,h3,h4⟩:=h2 i x hx
   exact ⟨y,by simp [h3],h4⟩
theorem e6J {Y:Type} {f:Nat→Option Y} {n:Nat} {r:List Y} (h:(List.range n).mapM f = some r):r.length = n∧∀ i,i < n→∃ b,r[i]? = some b∧f i = some b:=by
 obtain ⟨h1,h2⟩:=mapM_some h
 refine ⟨by simpa using h1,fun i hi=>h2 i i (by simp [hi])⟩
theorem d0J {X:Type}:∀ (n:Nat) (R:Nat→X→Prop),(∀ i,i < n→∃ x,R i x)→∃ l:List X,l.length = n∧∀ i x,l[i]? = some x→R i x
 | 0,_,_=>⟨[],rfl,fun i x h=>by simp at h⟩
 | n + 1,R,h=>by
  obtain ⟨x,hx⟩:=h 0 (by omega)
  obtain ⟨l,h1,h2⟩:=d0J n (fun i x=>R (i + 1) x) fun i hi=>h (i + 1) (by omega)
  refine ⟨x :: l,by simp [h1],fun i y hy=>?_⟩
  cases i with
  | zero=>simp only [List.getElem?_cons_zero,Option.some.injEq] at hy; subst hy; exact hx
  | succ i=>exact h2 i y (by simpa using hy)
theorem d4S {X:Type} {E:X→List Value→Prop} {s:Nat}:∀ (n:Nat) (cs:List Value),cs.length = n * s→(∀ i,i < n→∃ x,E x ((cs.drop (i * s)).take s))→∃ x,b3P E n x cs
 | 0,cs,hl,_=>⟨(),by simp at hl; exact hl⟩
 | n + 1,cs,hl,h=>by
  obtain ⟨x,hx⟩:=h 0 (by omega)
  simp only [Nat.zero_mul,List.drop_zero] at hx
  obtain ⟨y,hy⟩:=d4S (E:=E) (s:=s) n (cs.drop s) (by rw [List.length_drop,hl,Nat.succ_mul]; omega) fun i hi=>by
   obtain ⟨z,hz⟩:=h (i + 1) (by omega)
   refine ⟨z,?_⟩
   rw [List.drop_drop,show s + i * s = (i + 1) * s by rw [Nat.succ_mul]; omega]
   exact hz
  exact ⟨(x,y),cs.take s,cs.drop s,(List.take_append_drop s cs).symm,hx,hy⟩
theorem c0W {H:Type} {P:Program} {e:TypeId}:∀ {ds:List (DataW H)} {i:Nat} {d:DataW H},ds[i]? = some d→∀ n ∈ d.weights P e,n ∈ DataW.weightsAll P e ds
 | d0 :: ds,0,d,hd,n,hn=>by
  simp only [List.getElem?_cons_zero,Option.some.injEq] at hd
  subst hd
  simp only [DataW.weightsAll,List.mem_append]
  exact .inl hn
 | d0 :: ds,i + 1,d,hd,n,hn=>by
  simp only [List.getElem?_cons_succ] at hd
  simp only [DataW.weightsAll,List.mem_append]
  exact .inr (c0W hd n hn)
def strOf (s:ByteArray):List (I .u8):=s.data.toList.map fun b=>I.of .u8 b.toNat
theorem d5D (s:ByteArray):bytesOf (strOf s) = s:=by
 unfold bytesOf strOf
 cases s with | mk a =>
 congr 1
 rw [List.map_map]
 have:((fun c:I .u8=>UInt8.ofNat c.val.toNat) ∘ fun b:UInt8=>I.of .u8 b.toNat) = id:=by
  funext b
  simp only [Function.comp,id,I.of,IntKind.wrap,IntKind.bits,IntKind.signed,Bool.false_and,Bool.false_eq_true,if_false]
  have:=b.toNat_lt
  rw [show ((b.toNat:Int) % 2 ^ 8) = (b.toNat:Int) by omega,Int.toNat_natCast]
  exact UInt8.ofNat_toNat
 rw [this,List.map_id,Array.toArray_toList]
section
variable {H:Type} {enc:TypeId × Value→H} {P:Program} {W:World} {base:Nat} {spare:Nat→Bool} {held:Bool}
abbrev GW (W:World):Nat→Prop:=fun r=>r < W.heap.size
theorem g0W {a:Addr} {v:Value} (h:W.cell? a = some v):a.spot = none∧a.block < W.heap.size:=by
 unfold World.cell? at h
 split at h
 ·
  rename_i c _ _ hc
  split at h
  ·
   cases h
  ·
   rename_i hs
   refine ⟨by simpa using hs,?_⟩
   rw [Array.getElem?_eq_some_iff] at hc
   exact hc.1
 ·
  cases h
theorem f2E {base:Nat} {a:Addr} {n:Nat} {ds:List Value} (h:W.cells? base a n = some ds):ds.length = n∧∀ j d,ds[j]? = some d→W.cell? (a.add j) = some d:=by
 unfold World.cells? at h
 split at h
 ·
  obtain ⟨h1,h2⟩:=e6J h
  refine ⟨h1,fun j d hd=>?_⟩
  obtain ⟨b,h3,h4⟩:=h2 j (by rw [← h1]; exact (List.getElem?_eq_some_iff.1 hd).1)
  rw [h3] at hd
  rw [h4,hd]
 ·
  cases h
theorem addr_add {a:Addr} (hs:a.spot = none) (n:Nat):a.add n = ⟨a.block,a.off + n,none⟩:=by
 unfold Addr.add
 cases a
 simp only at hs
 subst hs
 split
 ·
  rename_i h; subst h; rfl
 ·
  rfl
theorem e0V:∀ (t:Ty),
  (∀ fuel id cs (d:DataW H) (p:List MemPlace),TOk P t id→f2B P t id = true→DataW.trod enc P W base spare held fuel id cs = some (d,p)→(∀ n ∈ d.weights P id,n ≤ reachBytes)→∃ x,Enc W (GW W) t x cs) ∧
  (∀ fuel (r:List Field) (o:Nat) (cs:List Value) (xs:List (DataW H × List MemPlace)),FOk P t r o→f3N P t r = true→xs.length = r.length →
   (∀ (i:Nat) (f:Field),r[i]? = some f→DataW.trod enc P W base spare held fuel f.type ((cs.drop f.offset).take (P.cellsOf f.type)) = xs[i]?) →
   (∀ n ∈ DataW.weightsEach P (r.map (·.type)) (xs.map (·.1)),n ≤ reachBytes)→cs.length = o + t.sz→∃ x,Enc W (GW W) t x (cs.drop o)):=by
 intro t
 have nofld:∀ t,(∀ a b,t ≠ .cons a b)→t ≠ .nil→∀ (r:List Field) (o:Nat),¬ FOk P t r o:=by
  intro t h1 h2 r o h
  cases t <;> first | exact h1 _ _ rfl | exact h2 rfl | (cases r <;> exact h.elim)
 induction t with
 | int k =>
  refine ⟨fun fuel id cs d p hT _ h _=>?_,fun fuel r o cs xs h=>(nofld _ (by simp) (by simp) _ _ h).elim⟩
  obtain ⟨n,hcs,_,hw⟩:=DataW.trod_int hT.2 h
  simp only [Lit.wf,Bool.and_eq_true,decide_eq_true_eq] at hw
  exact ⟨(⟨n,a7N hw⟩:I k),hcs⟩
 | bool =>
  refine ⟨fun fuel id cs d p hT _ h _=>?_,fun fuel r o cs xs h=>(nofld _ (by simp) (by simp) _ _ h).elim⟩
  obtain ⟨n,hcs,_⟩:=DataW.trod_bool hT.2 h
  exact ⟨n,hcs⟩
 | str =>
  refine ⟨fun fuel id cs d p hT _ h hw=>?_,fun fuel r o cs xs h=>(nofld _ (by simp) (by simp) _ _ h).elim⟩
  obtain ⟨s,hcs,hx,_⟩:=DataW.trod_string hT.2 h
  simp only [Prod.mk.injEq] at hx
  obtain ⟨rfl,rfl⟩:=hx
  refine ⟨strOf s,?_,?_⟩
  ·
   rw [d5D]; exact hcs
  ·
   have:=hw s.data.toList.length (by simp [DataW.weights])
   have h2:(strOf s).length = s.data.toList.length:=List.length_map _
   show (strOf s).length ≤ LIM
   rw [h2]
   simp only [reachBytes,LIM] at *
   omega
 | nil =>
  refine ⟨fun fuel id cs d p hT _ h hw=>?_,fun fuel r o cs xs h _ _ _ _ hl=>⟨(),?_⟩⟩
  ·
   obtain ⟨xs,n,_,_,hl,_⟩:=DataW.trod_struct hT.2 h
   rw [hT.1] at hl
   exact ⟨(),List.eq_nil_of_length_eq_zero hl⟩
  ·
   show cs.drop o = []
   simp only [Ty.sz,Nat.add_zero] at hl
   rw [List.drop_eq_nil_iff]; omega
 | cons a b iha ihb =>
  refine ⟨fun fuel id cs d p hT hA h hw=>?_,fun fuel r o cs xs hF hA hlen hf hw hl=>?_⟩
  ·
   obtain ⟨hsz,fs,f,r,hu,hfs,hf0,hTa,hFb⟩:=hT
   obtain ⟨xs,n,_,hx,hl,hlen,hfx⟩:=DataW.trod_struct hu h
   simp only [Prod.mk.injEq] at hx
   obtain ⟨rfl,rfl⟩:=hx
   simp only [f2B,hu,hfs,Bool.and_eq_true] at hA
   have hfl:∀ (i:Nat) (g:Field),(f :: r)[i]? = some g→DataW.trod enc P W base spare held n g.type ((cs.drop g.offset).take (P.cellsOf g.type)) = xs[i]?:=by
    intro i g hg
    refine hfx i g ?_
    rw [← Array.getElem?_toList,hfs]
    exact hg
   have hlen':xs.length = r.length + 1:=by rw [hlen,← Array.length_toList,hfs]; rfl
   match xs,hlen' with
   | y :: ys,hlen' =>
    simp only [DataW.weights,hu,hfs,List.map_cons,DataW.weightsEach,List.mem_append] at hw
    have h0:=hfl 0 f rfl
    simp only [List.getElem?_cons_zero] at h0
    rw [hf0,hTa.size,List.drop_zero] at h0
    obtain ⟨x,hx⟩:=iha.1 n f.type _ y.1 y.2 hTa hA.1 h0 (fun m hm=>hw m (.inl hm))
    obtain ⟨z,hz⟩:=ihb.2 n r a.sz cs ys hFb hA.2 (by simpa using hlen') (fun i g hg=>by simpa using hfl (i + 1) g hg) (fun m hm=>hw m (.inr hm)) (by rw [hl,hsz])
    exact ⟨(x,z),_,_,(List.take_append_drop a.sz cs).symm,hx,hz⟩
  ·
   cases r with
   | nil=>exact hF.elim
   | cons f r =>
    obtain ⟨hf0,hTa,hFb⟩:=hF
    simp only [f3N,Bool.and_eq_true] at hA
    match xs,hlen with
    | y :: ys,hlen =>
     simp only [List.map_cons,DataW.weightsEach,List.mem_append] at hw
     have h0:=hf 0 f rfl
     simp only [List.getElem?_cons_zero] at h0
     rw [hf0,hTa.size] at h0
     simp only [Ty.sz] at hl
     obtain ⟨x,hx⟩:=iha.1 fuel f.type _ y.1 y.2 hTa hA.1 h0 (fun m hm=>hw m (.inl hm))
     obtain ⟨z,hz⟩:=ihb.2 fuel r (o + a.sz) cs ys hFb hA.2 (by simpa using hlen) (fun i g hg=>by simpa using hf (i + 1) g hg) (fun m hm=>hw m (.inr hm)) (by omega)
     refine ⟨(x,z),_,_,(List.take_append_drop a.sz (cs.drop o)).symm,hx,?_⟩
     rw [List.drop_drop]
     exact hz
 | arr n t ih =>
  refine ⟨fun fuel id cs d p hT hA h hw=>?_,fun fuel r o cs xs h=>(nofld _ (by simp) (by simp) _ _ h).elim⟩
  obtain ⟨hsz,e,hu,hTe⟩:=hT
  obtain ⟨xs,m,_,hx,hl,hlen,hfx⟩:=DataW.trod_array hu h
  simp only [Prod.mk.injEq] at hx
  obtain ⟨rfl,rfl⟩:=hx
  simp only [f2B,hu] at hA
  simp only [DataW.weights,hu] at hw
  refine d4S n cs (by rw [hl,hsz]) fun i hi=>?_
  have h0:=hfx i hi
  rw [hTe.size,List.getElem?_eq_getElem (by omega)] at h0
  refine ih.1 m e _ (xs[i]'(by omega)).1 (xs[i]'(by omega)).2 hTe hA h0 fun k hk=>hw k (c0W (i:=i) ?_ k hk)
  rw [List.getElem?_map,List.getElem?_eq_getElem (by omega)]; rfl
 | sl t ih =>
  refine ⟨fun fuel id cs d p hT hA h hw=>?_,fun fuel r o cs xs h=>(nofld _ (by simp) (by simp) _ _ h).elim⟩
  obtain ⟨hsz,e,hu,hTe⟩:=hT
  simp only [f2B,hu,Bool.and_eq_true] at hA
  obtain ⟨hA1,hA2,hA⟩:=hA
  have hA1:=Nat.le_of_ble_eq_true hA1
  have hA2:=Nat.le_of_ble_eq_true hA2
  rcases DataW.trod_slice hu h with ⟨rfl,_⟩ | ⟨a,len,cap,elems,rest,m,_,rfl,hx,_,hlc,_,hel,hfx,_,_⟩
  ·
   refine ⟨([]:List t.D),none,0,rfl,Nat.le_refl _,by simp,.inl rfl⟩
  ·
   simp only [Prod.mk.injEq] at hx
   obtain ⟨rfl,rfl⟩:=hx
   simp only [DataW.weights,hu,List.mem_cons,List.mem_append] at hw
   have hb:=hw _ (.inl rfl)
   have hlim:len ≤ LIM:=by
    have h1:len ≤ (elems.length + rest.length) * P.bytesOf e:=by
     rw [← hel]
     refine Nat.le_trans ?_ (Nat.mul_le_mul_left _ hA2)
     omega
    simp only [List.length_map] at hb
    simp only [reachBytes,LIM] at *
    omega
   have key:∀ i,i < len→a.spot = none∧a.block < W.heap.size∧∃ x ds,Enc W (GW W) t x ds∧c0T W a.block (a.off + i * t.sz) ds:=by
    have one:∀ i,i < len→∃ (ds:List Value) (x:t.D),ds.length = t.sz∧Enc W (GW W) t x ds∧∀ j d,ds[j]? = some d→W.cell? ((a.add (i * t.sz)).add j) = some d:=by
     intro i hi
     have h0:=hfx i hi
     rw [List.getElem?_eq_getElem (by omega)] at h0
     simp only [Option.bind_eq_some_iff] at h0
     obtain ⟨ds,h1,h2⟩:=h0
     obtain ⟨h3,h4⟩:=f2E h1
     rw [hTe.size] at h3 h4
     obtain ⟨x,hx⟩:=ih.1 m e ds (elems[i]'(by omega)).1 (elems[i]'(by omega)).2 hTe hA h2 fun k hk=>hw k (.inr (.inl (c0W (i:=i) (by rw [List.getElem?_map,List.getElem?_eq_getElem (by omega)]; rfl) k hk)))
     exact ⟨ds,x,h3,hx,h4⟩
    intro i hi
    obtain ⟨ds,x,h1,h2,h3⟩:=one i hi
    obtain ⟨ds0,_,g1,_,g3⟩:=one 0 (by omega)
    have c0:=g3 0 (ds0[0]'(by omega)) (List.getElem?_eq_getElem _)
    simp only [Nat.zero_mul] at c0
    have e0:(a.add 0).add 0 = a:=by simp [Addr.add]
    rw [e0] at c0
    obtain ⟨hs,hlt⟩:=g0W c0
    refine ⟨hs,hlt,x,ds,h2,fun j d hd=>?_⟩
    have:=h3 j d hd
    rw [addr_add hs,addr_add rfl] at this
    exact this
   obtain ⟨l,hl1,hl2⟩:=d0J len (fun i x=>∃ ds,Enc W (GW W) t x ds∧c0T W a.block (a.off + i * t.sz) ds) fun i hi=>(key i hi).2.2
   refine ⟨l,some a,cap,?_,?_,?_,?_⟩
   ·
    show [Value.slice (some a) len cap] = [Value.slice (some a) l.length cap]; rw [hl1]
   ·
    show l.length ≤ cap; omega
   ·
    show l.length ≤ LIM; omega
   ·
    by_cases h0:len = 0
    ·
     left; show l = []; exact List.eq_nil_of_length_eq_zero (by omega)
    ·
     obtain ⟨h1,h2,_⟩:=key 0 (by omega)
     exact .inr ⟨a,rfl,h1,h2,hl2⟩
 | opq=>exact ⟨fun fuel id cs d p hT hA=>by simp [f2B] at hA,fun fuel r o cs xs h=>(nofld _ (by simp) (by simp) _ _ h).elim⟩
end
theorem f0J {P:Program} {W:World} {rr:Reach} {base:Nat} {id:TypeId} {v:Value} {t:Ty} (hT:TOk P t id) (hne:t ≠ .opq) (h:Value.okWide P W rr base id v):v = mkV t.isAgg v.cells.toList:=by
 have agg:(∃ cs,v = .agg cs)→v = mkV true v.cells.toList:=by
  rintro ⟨cs,rfl⟩
  show Value.agg cs = .agg _
  congr 1
 cases t with
 | int k=>obtain ⟨n,rfl⟩:=Go.WideShapes.okWide_int hT.2 h; rfl
 | bool=>obtain ⟨n,rfl⟩:=Go.WideShapes.okWide_bool hT.2 h; rfl
 | str=>obtain ⟨n,rfl⟩:=Go.WideShapes.okWide_string hT.2 h; rfl
 | sl t=>obtain ⟨_,e,hu,_⟩:=hT; obtain ⟨a,l,c,rfl⟩:=Go.WideShapes.okWide_slice hu h; rfl
 | opq=>exact (hne rfl).elim
 | nil=>obtain ⟨_,hu⟩:=hT; simp only [Value.okWide,hu] at h; exact agg ⟨_,h.choose_spec.1⟩
 | cons a b=>obtain ⟨_,fs,f,r,hu,_⟩:=hT; simp only [Value.okWide,hu] at h; exact agg ⟨_,h.choose_spec.1⟩
 | arr n t=>obtain ⟨_,e,hu,_⟩:=hT; simp only [Value.okWide,hu] at h; exact agg ⟨_,h.choose_spec.1⟩
def Arr.all {X:Type} (p:X→Prop):(n:Nat)→Arr X n→Prop
 | 0,_=>True
 | n + 1,x=>p x.1∧Arr.all p n x.2
def Ty.bd:(t:Ty)→t.D→Prop
 | .str,x=>(show List (I .u8) from x).length ≤ LIM
 | .cons a b,x=>a.bd x.1∧b.bd x.2
 | .arr n t,x=>Arr.all t.bd n x
 | .sl t,x=>(show List t.D from x).length ≤ LIM∧∀ (i:Nat) (y:t.D),(show List t.D from x)[i]? = some y→t.bd y
 | .int _,_=>True
 | .bool,_=>True
 | .nil,_=>True
 | .opq,_=>True
theorem d4E {X:Type} {E:X→List Value→Prop} {p:X→Prop} (h:∀ x cs,E x cs→p x):∀ (n:Nat) (x:Arr X n) (cs:List Value),b3P E n x cs→Arr.all p n x
 | 0,_,_,_=>trivial
 | n + 1,x,cs,he=>by
  obtain ⟨c1,c2,_,h1,h2⟩:=he
  exact ⟨h _ _ h1,d4E h n x.2 c2 h2⟩
theorem g2X {W:World} {G:Nat→Prop}:∀ (t:Ty) (x:t.D) (cs:List Value),Enc W G t x cs→t.bd x:=by
 intro t
 induction t with
 | int k=>intro x cs _; trivial
 | bool=>intro x cs _; trivial
 | nil=>intro x cs _; trivial
 | opq=>intro x cs _; trivial
 | str=>intro x cs h; exact h.2
 | cons a b iha ihb=>intro x cs h; obtain ⟨c1,c2,_,h1,h2⟩:=h; exact ⟨iha _ _ h1,ihb _ _ h2⟩
 | arr n t ih=>intro x cs h; exact d4E (fun x cs=>ih x cs) n x cs h
 | sl t ih =>
  intro x cs h
  obtain ⟨a,c,_,_,hl,hx⟩:=h
  refine ⟨hl,fun i y hy=>?_⟩
  rcases hx with hx | ⟨ad,_,_,_,hr⟩
  ·
   rw [hx] at hy; simp at hy
  ·
   obtain ⟨ds,h1,_⟩:=hr i y hy
   exact ih y ds h1
def g0L:(ts:List Ty)→ShD (ts.map .pl)→Prop
 | [],_=>True
 | t :: ts,x=>t.bd x.1∧g0L ts x.2
def e6R (P:Program):List Ty→List TypeId→Bool
 | [],[]=>true
 | t :: ts,id :: ids=>e1E P t id && (f2B P t id && (P.readableRec id && (Nat.blt id P.types.size && e6R P ts ids)))
 | _,_=>false
section
variable {H:Type} {enc:TypeId × Value→H} {P:Program} {W:World}
def cx0 (W:World):Cx:=⟨W,GW W,fun _=>.bool false,[]⟩
theorem e3W {rr:Reach} {base:Nat}:∀ (ts:List Ty) (ids:List TypeId) (vs:List Value) (ds:List (DataW H)) (ps:List MemPlace),e6R P ts ids = true →
  DataW.TrodAll enc P W 0 (fun _=>true) true ids vs ds ps→(∀ (j:Nat) t v,ids[j]? = some t→vs[j]? = some v→Value.okWide P W rr base t v) →
  (∀ n ∈ DataW.weightsEach P ids ds,n ≤ reachBytes)→ds.length = ts.length∧∃ x:ShD (ts.map .pl),g0L ts x∧All2 (VOk (cx0 W)) (a2A (ts.map .pl) x) vs
 | [],[],vs,ds,ps,_,hA,_,_=>by
  obtain ⟨rfl,rfl,rfl⟩:=Go.ChangeShapes.trodAll_nil hA
  exact ⟨rfl,(),trivial,trivial⟩
 | [],_ :: _,_,_,_,h,_,_,_=>by cases h
 | _ :: _,[],_,_,_,h,_,_,_=>by cases h
 | t :: ts,id :: ids,vs,ds,ps,h,hA,hv,hw=>by
  simp only [e6R,Bool.and_eq_true] at h
  obtain ⟨h1,h2,_,_,h5⟩:=h
  obtain ⟨v,vs',d,ds',p,q,rfl,rfl,rfl,⟨fuel,hd⟩,hrest⟩:=Go.ChangeShapes.trodAll_cons hA
  simp only [DataW.weightsEach,List.mem_append] at hw
  have hT:=(e5J P t).1 id h1
  obtain ⟨x,hx⟩:=(e0V t).1 fuel id _ d p hT h2 hd fun n hn=>hw n (.inl hn)
  obtain ⟨hl,y,hbd,hy⟩:=e3W ts ids vs' ds' q h5 hrest (fun j t v ht hv'=>hv (j + 1) t v (by simpa using ht) (by simpa using hv')) fun n hn=>hw n (.inr hn)
  refine ⟨by simp [hl],(x,y),⟨g2X t x _ hx,hbd⟩,?_,hy⟩
  refine ⟨_,hx,?_⟩
  exact f0J hT (by rintro rfl; simp [f2B] at h2) (hv 0 id v rfl rfl)
theorem c6Q (hl:laidOutB P = true) {W':World} (hb:Go.RowKit.Below W.heap.size W W'):∀ (ts:List Ty) (ids:List TypeId) (vs:List Value) (ds:List (DataW H)) (ps:List MemPlace),e6R P ts ids = true →
  DataW.TrodAll enc P W 0 (fun _=>true) true ids vs ds ps→(∀ x ∈ ps,x.block < W.heap.size)→DataW.TrodAll enc P W' 0 (fun b=>decide (b < W.heap.size)) true ids vs ds ps
 | [],[],vs,ds,ps,_,hA,_=>by
  obtain ⟨rfl,rfl,rfl⟩:=Go.ChangeShapes.trodAll_nil hA
  exact Go.ChangeShapes.trodAll_mk0
 | [],_ :: _,_,_,_,h,_,_=>by cases h
 | _ :: _,[],_,_,_,h,_,_=>by cases h
 | t :: ts,id :: ids,vs,ds,ps,h,hA,hlt=>by
  simp only [e6R,Bool.and_eq_true] at h
  obtain ⟨_,_,h3,h4,h5⟩:=h
  obtain ⟨v,vs',d,ds',p,q,rfl,rfl,rfl,hd,hrest⟩:=Go.ChangeShapes.trodAll_cons hA
  refine ⟨p,q,Go.RowKit.Below.trod hl h3 (Nat.lt_of_succ_le (Nat.le_of_ble_eq_true h4)) hd hb fun x hx=>hlt x (by simp [hx]),?_,rfl⟩
  exact c6Q hl hb ts ids vs' ds' q h5 hrest fun x hx=>hlt x (by simp [hx])
theorem g3W:Start (cx0 W):=by
 have hu:∀ b,a0M (cx0 W).H b = .unborn:=fun b=>by simp [cx0,a0M]
 refine ⟨fun b=>?_,fun b b' r h=>?_,fun r hr=>⟨hr,fun b h=>?_⟩⟩
 ·
  unfold BlkOk; rw [hu]; trivial
 ·
  rw [hu] at h; cases h
 ·
  rw [hu] at h; cases h
theorem e7U {C:Checked} {f:FuncId} {fn:Func} {s:ChangeSpec} {ts:List Ty} {bt:TypeId} {F:(⟨ts.map .pl,[]⟩:Tm).D→Option (⟨[.pl .bool],[]⟩:Tm).D}
  (hl : laidOutB C.prog = true) (hfn : C.prog.funcs[f]? = some fn) (hbody : fn.body.isSome = true) (hname : (fn.name == "runtime.NumGoroutine") = false)
  (hargs:e6R C.prog ts fn.params.toList = true) (hres:fn.resultTypes = #[bt]) (hbt:C.prog.underlying bt = some .bool) (hvars:s.vars = [])
  (hs:∀ ds:List (DataW H),ds.length = ts.length→s.fn H ds = { results:=[.lit (.bool true)],args:=ds })
  (hcon:a1Q C.prog f ⟨⟨ts.map .pl,[]⟩,⟨[.pl .bool],[]⟩,F⟩) (hF:∀ x,g0L ts x→F (x,()) = some ((true,()),()))
  (base:Nat) (args:Array Value) (ds gs:List (DataW H)) (before:List MemPlace)
  (hval:∀ (j:Nat) t v,fn.params[j]? = some t→args[j]? = some v→Value.okWide C.prog W .any base t v)
  (hW:DataW.Whole enc C.prog fn.params.toList s.vars false W args.toList ds gs before)
  (hsz:(DataW.weightsEach C.prog (fn.params.toList ++ s.plain.varTypes C.prog) (ds ++ gs)).all (· ≤ reachBytes) = true) :
  Calls C.prog f args W fun e W'=>∃ v,e = .returned v∧s.post enc C.prog fn false true false false W args v W':=by
 have hW':=hW
 obtain ⟨p,q,hA,hV,rfl,hfz,hnd⟩:=hW
 rw [hvars] at hV
 obtain ⟨rfl,rfl⟩:=Go.ChangeShapes.trodVars_none hV
 have hvt:s.plain.varTypes C.prog = []:=by simp [DataSpec.varTypes,ChangeSpec.plain,hvars]
 rw [hvt,List.append_nil,List.append_nil,List.all_eq_true] at hsz
 obtain ⟨hlen,x,hbd,hx⟩:=e3W (P:=C.prog) ts fn.params.toList args.toList ds p hargs hA
  (fun j t v h1 h2=>hval j t v (by rw [← Array.getElem?_toList]; exact h1) (by rw [← Array.getElem?_toList]; exact h2)) fun n hn=>of_decide_eq_true (hsz n hn)
 have key:=hcon (x,()) ((true,()),()) (hF x hbd) (cx0 W) args.toList g3W rfl hx
 rw [Array.toArray_toList] at key
 obtain ⟨b,hb⟩:=Option.isSome_iff_exists.1 hbody
 have hent:=b6T (args:=args) (w:=W) hfn hb hname
 rcases key with ⟨v,w',h1,_⟩ | ⟨_,h⟩
 ·
  change (callFunc f args).run C.prog W = _ at h1
  rw [hent] at h1
  cases h1
 ·
  refine h.mono fun e w' hr=>?_
  obtain ⟨v,he,c',hw,hH,hv,hM,_⟩:=hr
  subst he hw
  refine ⟨v,rfl,?_⟩
  have hown:∀ r,¬ c6K (cx0 W) r:=by
   rintro r ⟨b,hb,_⟩
   simp [cx0,a0M,live] at hb
  have bel:Go.RowKit.Below W.heap.size W c'.w:=⟨hM.os,hM.tape,hM.output,hM.size,fun k hk=>hM.frame k hk (hown k)⟩
  obtain ⟨cs,hcs,hv⟩:=hv
  have hcs:cs = [.bool true]:=hcs
  subst hcs
  have hv:v = .bool true:=hv
  subst hv
  have hfnH:=hs ds hlen
  refine ⟨ds,[],_,[],p,[],hW',?_,?_,?_,bel.frame _,fun h=>by cases h⟩
  ·
   rw [List.append_nil,hfnH,hres]
   exact Go.ChangeShapes.trodAll_mk1 (Go.RowKit.shut_bool hbt _)
  ·
   rw [List.append_nil,hfnH]
   refine c6Q hl bel ts _ _ _ _ hargs hA fun x hx=>?_
   exact DataW.TrodAll.lt hA x hx
  ·
   rw [List.append_nil,hfnH,hvars]
   rfl
end
end Sym

/- Audit: Total agrees with the reference. -/
namespace Sym
open Go
end Sym

/- Audit: sums in five words and big sums. -/
namespace Sym
open Go
abbrev S5:Type:=(I .u64) × U
def v5 (a:S5):Nat:=a.1.nat + 18446744073709551616 * U.val a.2
noncomputable abbrev Z5:S5:=((I.of .u64 0),Z_U)
def B5:Nat:=1099511627776 * U.top
theorem Wp.unrollK {X R:Type} {T:R→Prop} {fail:R} {f:X→Stp X R} {x:X} (j:Nat) (hj:j < 1000) (h:Wp (Nxt T fail f (K0 - (j + 1))) (f x)):Wp T (Sym.iter fail f (K0 - j) x):=by
 have e:K0 - j = (K0 - (j + 1)) + 1:=by rw [a6G]; omega
 rw [e]
 exact Wp.unroll h
theorem e8T {a b:I .u64} (h:a.nat + b.nat < 18446744073709551616):(I.add a b).nat = a.nat + b.nat:=by
 have h1:=a2F a
 have h2:=a2F b
 have h3:=a2F (I.add a b)
 have h4:(I.add a b).val = a.val + b.val:=e0Y (by omega)
 omega
theorem g3T {a b:S5} (h:v5 a = v5 b):a = b:=by
 have h1:=a3V a.1
 have h2:=a3V b.1
 unfold v5 at h
 have e1:a.1.nat = b.1.nat:=by omega
 have e2:U.val a.2 = U.val b.2:=by omega
 have e3:a.1 = b.1:=by rw [← e3H a.1,← e3H b.1,e1]
 exact Prod.ext e3 (U.ext e2)
theorem eq5 (a b:S5):Ty.eqb (.arr 5 (.int .u64)) a b = decide (v5 a = v5 b):=by
 by_cases h:v5 a = v5 b
 ·
  rw [decide_eq_true h]
  have:=g3T h
  subst this
  exact eqb_self' (t:=.arr 5 (.int .u64)) rfl a
 ·
  rw [decide_eq_false h]
  cases e:Ty.eqb (.arr 5 (.int .u64)) a b with
  | false=>rfl
  | true=>exact absurd (congrArg v5 ((e1I (.arr 5 (.int .u64)) rfl a b).1 e)) h
set_option maxHeartbeats 1000000 in
theorem d9R (a:S5) (b:U) (h:v5 a ≤ B5):∃ r:S5,a7A K0 ((a,(b,())),()) = some ((r,()),())∧v5 r = v5 a + b.val:=by
 obtain ⟨a0,a1,a2,a3,a4,⟨⟩⟩:=a
 obtain ⟨b0,b1,b2,b3,⟨⟩⟩:=b
 obtain ⟨z0,q0,h0,e0,l0⟩:=c7A a0 b0 (I.of .u64 0) (by decide)
 obtain ⟨z1,q1,h1,e1,l1⟩:=c7A a1 b1 q0 l0
 obtain ⟨z2,q2,h2,e2,l2⟩:=c7A a2 b2 q1 l1
 obtain ⟨z3,q3,h3,e3,l3⟩:=c7A a3 b3 q2 l2
 refine ⟨(z0,z1,z2,z3,I.add a4 q3,()),?_,?_⟩
 ·
  refine Wp.out (T:=fun o=>o = some (((z0,z1,z2,z3,I.add a4 q3,()),()),())) ?_
  unfold a7A
  refine Wp.unrollK 0 (by omega) (Wp.brnT rfl (Wp.brnT rfl (Wp.brnT rfl (Wp.optF h0 (Wp.brnT rfl (Wp.next ?_))))))
  refine Wp.unrollK 1 (by omega) (Wp.brnT rfl (Wp.brnT rfl (Wp.brnT rfl (Wp.optF h1 (Wp.brnT rfl (Wp.next ?_))))))
  refine Wp.unrollK 2 (by omega) (Wp.brnT rfl (Wp.brnT rfl (Wp.brnT rfl (Wp.optF h2 (Wp.brnT rfl (Wp.next ?_))))))
  refine Wp.unrollK 3 (by omega) (Wp.brnT rfl (Wp.brnT rfl (Wp.brnT rfl (Wp.optF h3 (Wp.brnT rfl (Wp.next ?_))))))
  refine Wp.unrollK 4 (by omega) (Wp.brnF rfl (Wp.stop rfl))
 ·
  have c0:(I.of .u64 0).nat = 0:=rfl
  unfold v5 U.val B5 U.top at h
  simp only at h
  have hadd:(I.add a4 q3).nat = a4.nat + q3.nat:=e8T (by omega)
  unfold v5 U.val
  simp only
  rw [hadd]
  omega
def tot {X:Type} (f:X→U) (l:List X):Nat:=(l.map (fun x=>(f x).val)).sum
theorem b4Z {X:Type} (f:X→U) (d:X) {l:List X} {i:Nat} (h:i < l.length):tot f (l.take (i + 1)) = tot f (l.take i) + (f (rdL d l i)).val:=by
 unfold tot
 rw [List.take_add_one,List.getElem?_eq_getElem h,a4N _ _ _ h,List.map_append,List.sum_append]
 simp
theorem e9X {X:Type} (f:X→U):∀ l:List X,tot f l ≤ l.length * U.top
 | []=>by simp [tot]
 | x :: l=>by
  have h1:=e9X f l
  have h2:=U.lt (f x)
  show (f x).val + tot f l ≤ (l.length + 1) * U.top
  rw [Nat.add_mul]
  omega
theorem d0U {X:Type} (f:X→U) (l:List X) (i:Nat) (n:Nat) (hn:l.length ≤ n):tot f (l.take i) ≤ n * U.top:=by
 have h1:=e9X f (l.take i)
 have h2:(l.take i).length ≤ n:=by rw [List.length_take]; omega
 exact Nat.le_trans h1 (Nat.mul_le_mul_right _ h2)
theorem d6S {X:Type} (d:X) (f:X→U) (l:List X) (z a0:S5) (hl:l.length ≤ 1073741824) (h0:v5 a0 ≤ 4 * U.top) :
  ∃ r:S5,Sym.iter (none) (fun (x0:((List X) × ((I .i64) × ((I .i64) × Unit))) × (S5 × (S5 × Unit))) =>
  brn (@I.ltb .i64 x0.1.2.2.1 x0.1.2.1)
  (brn (@inB .i64 x0.1.2.2.1 (@a0G X x0.1.1))
   (optF (.done (none)) (a7A K0 ((x0.2.2.1,(f (@rdL X d x0.1.1 (@I.nat .i64 x0.1.2.2.1)),())),())) fun y1 =>
   .again ((x0.1.1,(x0.1.2.1,((@I.add .i64 x0.1.2.2.1 (I.of .i64 1)),()))),(x0.2.1,(y1.1.1,()))))
   (.done (none)))
  (.done (some ((x0.2.2.1,()),()))))
  K0 ((l,((I.ofNat .i64 (@a0G X l)),((I.of .i64 0),()))),(z,(a0,()))) = some ((r,()),())∧v5 r = v5 a0 + tot f l:=by
 refine Wp.out (T:=fun o=>∃ r:S5,o = some ((r,()),())∧v5 r = v5 a0 + tot f l) ?_
 refine Wp.iter (fun x=>∃ (i:Nat) (c:S5),i ≤ l.length∧x = ((l,(i6 l.length,(i6 i,()))),(z,(c,())))∧v5 c = v5 a0 + tot f (l.take i)) (fun x=>l.length - x.1.2.2.1.val.toNat) ?_ ⟨0,a0,by omega,rfl,by simp [tot]⟩ (by rw [a6G]; show l.length - 0 < _; omega)
 rintro x ⟨i,c,hi,rfl,hc⟩
 have hn:I.add (i6 i) (I.of .i64 1) = i6 (i + 1):=a3H (m:=1) (by omega)
 have e2:I.ltb (i6 i) (i6 l.length) = decide (i < l.length):=a2M (by omega) (by omega)
 refine Wp.brn (fun hk=>?_) (fun hk=>?_)
 ·
  have hk:I.ltb (i6 i) (i6 l.length) = true:=hk
  rw [e2] at hk
  have hk:=of_decide_eq_true hk
  refine Wp.brnT (a3D (by show i < l.length; omega) (by omega)) ?_
  have hb:=d0U f l i 1073741824 hl
  have hB:B5 = 1099511627776 * U.top:=rfl
  obtain ⟨r,hr,hv⟩:=d9R c (f (rdL d l (I.nat (i6 i)))) (by rw [hc,hB]; have:=Nat.mul_le_mul_right U.top (show 4 + 1073741824 ≤ 1099511627776 by omega); rw [Nat.add_mul] at this; omega)
  refine Wp.optF hr ?_
  refine Wp.again ⟨i + 1,r,by omega,by show ((l,(i6 l.length,(I.add (i6 i) (I.of .i64 1),()))),_) = _; rw [hn],?_⟩ (by show l.length - (I.add (i6 i) (I.of .i64 1)).val.toNat < l.length - (i6 i).val.toNat; rw [hn,a0V (by omega),a0V (by omega)]; omega)
  rw [hv,hc,b4Z f d hk,a3C (by omega)]
  omega
 ·
  have hk:I.ltb (i6 i) (i6 l.length) = false:=hk
  rw [e2] at hk
  have hk:i = l.length:=by have:=of_decide_eq_false hk; omega
  subst hk
  refine Wp.done ⟨c,rfl,?_⟩
  rw [hc,List.take_length]
theorem g2O:v5 Z5 = 0:=rfl
theorem d6T (l:List U) (hl:l.length ≤ 1073741824):∃ r:S5,a9O K0 ((l,()),()) = some ((r,()),())∧v5 r = tot id l:=by
 obtain ⟨r,hr,hv⟩:=d6S Z_U id l Z5 Z5 hl (by rw [g2O]; omega)
 exact ⟨r,hr,by rw [hv,g2O]; omega⟩
theorem e5M (a:U):∃ r:S5,a9O K0 (((a :: []),()),()) = some ((r,()),())∧v5 r = a.val:=by
 obtain ⟨r,hr,hv⟩:=d6T [a] (by show 1 ≤ _; omega)
 exact ⟨r,hr,by rw [hv]; simp [tot]⟩
theorem e5F (a b:U):∃ r:S5,a9O K0 (((a :: (b :: [])),()),()) = some ((r,()),())∧v5 r = a.val + b.val:=by
 obtain ⟨r,hr,hv⟩:=d6T [a,b] (by show 2 ≤ _; omega)
 exact ⟨r,hr,by rw [hv]; simp [tot]⟩
theorem d1D {l:List Dg} {m:Nat} (h:IsB l m) (hm:m < P40) (n:U):∃ s r,a0B K0 ((n,()),()) = some ((s,()),())∧a0T K0 ((l,(s,())),()) = some ((r,()),())∧IsB r (m + n.val):=by
 obtain ⟨s,hs,hB⟩:=a0X n
 obtain ⟨r,hr,hR⟩:=a9P h hB (lenK' h hm) (d3R hB)
 exact ⟨s,r,hs,hr,hR⟩
theorem cmp_eq (m n:Nat):I.eqb (c0Z m n) (I.of .i64 0) = decide (m = n):=by
 unfold c0Z
 split
 ·
  rw [decide_eq_false (by omega)]; rfl
 ·
  split
  ·
   rw [decide_eq_false (by omega)]; rfl
  ·
   rw [decide_eq_true (by omega)]; rfl
theorem c6N {a b:List Dg} {m n:Nat} (ha:IsB a m) (hb:IsB b n) (hm:m < P40) (hn:n < P40) (hmn:m + n < P40) (c:U):a4U K0 ((a,(b,(c,()))),()) = some ((decide (m + n = c.val),()),()):=by
 refine Wp.out (T:=fun o=>o = some ((decide (m + n = c.val),()),())) ?_
 unfold a4U
 obtain ⟨r,hr,hR⟩:=a9P ha hb (lenK' ha hm) (lenK' hb hn)
 obtain ⟨s,hs,hS⟩:=a0X c
 refine Wp.optF hr (Wp.optF hs (Wp.optF (c1M hR hS (lenK' hR hmn) (d3R hS)) ?_))
 show some ((I.eqb (c0Z (m + n) c.val) (I.of .i64 0),()),()) = _
 rw [cmp_eq]
end Sym

/- Audit: Check agrees with the reference. -/
namespace Sym
open Go
abbrev Sta:Type:=a5S
abbrev c6G (s:Sta):List a0F:=s.2.2.2.2.2.1
abbrev b8L (s:Sta):b7P:=s.2.2.2.2.2.2.1
abbrev c9S (s:Sta):List a0C:=s.2.2.2.2.2.2.2.1
abbrev g6P (s:Sta):U:=s.2.2.2.2.2.2.2.2.2.1
abbrev c2D (s:Sta):List a0A:=s.2.2.2.2.1.2.2.2.2.2.1
abbrev c7K (x:a0F):U:=x.2.1
abbrev mAm (x:a0C):U:=x.2.2.1
abbrev d5J (x:a0A):U:=x.2.2.2.2.1
def e3K (v:b7P):Nat:=v.1.val + v.2.1.val + v.2.2.1.val + v.2.2.2.1.val
def okP (p:a0A):Prop:=p.2.1.val + p.2.2.2.2.1.val = p.2.2.1.val + p.2.2.2.1.val
instance (p:a0A):Decidable (okP p):=by unfold okP; exact inferInstance
def g6S (s:Sta) (t:e5A):Bool:=decide (tot c7K (c6G s) + e3K (b8L s) + t.2.1.val = t.1.val)
def d7E (s:Sta) (t:e5A):Bool :=
 a3I (Ty.eqb a1U (b8L s).1 t.2.2.2.2.2.1) || (a3I (Ty.eqb a1U (b8L s).2.1 t.2.2.2.2.1) || (a3I (Ty.eqb a1U (b8L s).2.2.2.1 t.2.2.2.2.2.2.1) || a3I (decide ((b8L s).2.2.1.val + t.2.2.2.2.2.2.2.1.val = t.2.2.2.1.val))))
def g2Q (s:Sta) (t:e5A):Bool:=decide ((g6P s).val + t.2.2.1.val = t.1.val)
def g2B (s:Sta) (t:e5A):Bool:=decide (tot mAm (c9S s) = t.2.1.val)
noncomputable def f3G (s:Sta):Bool:=decide (∀ i,i < (c2D s).length→okP (rdL dP (c2D s) i))
def g2T (s:Sta) (t:e5A):Bool:=decide (tot d5J (c2D s) = t.2.2.2.2.2.2.2.1.val)
noncomputable def g2R (s:Sta) (t:e5A):I .i64 :=
 if g6S s t = false then I.of .i64 1 else if d7E s t = true then I.of .i64 2 else if g2Q s t = false then I.of .i64 3 else if g2B s t = false then I.of .i64 4 else if f3G s = false then I.of .i64 5 else if g2T s t = false then I.of .i64 6 else I.of .i64 0
structure Few (s:Sta):Prop where
 ac:(c6G s).length ≤ 1073741824
 ms:(c9S s).length ≤ 1073741824
 po:(c2D s).length ≤ 1073741824
theorem d5Y (v:b7P):e3K v ≤ 4 * U.top:=by
 have h1:=U.lt v.1
 have h2:=U.lt v.2.1
 have h3:=U.lt v.2.2.1
 have h4:=U.lt v.2.2.2.1
 unfold e3K
 omega
theorem e5T (s:Sta) (h:Few s):∃ r:S5,c0G K0 ((s,()),()) = some ((r,()),())∧v5 r = tot c7K (c6G s) + e3K (b8L s):=by
 refine Wp.out (T:=fun o=>∃ r:S5,o = some ((r,()),())∧v5 r = tot c7K (c6G s) + e3K (b8L s)) ?_
 unfold c0G
 obtain ⟨r0,h0,e0⟩:=d6T [(b8L s).1,(b8L s).2.1,(b8L s).2.2.1,(b8L s).2.2.2.1] (by show 4 ≤ _; omega)
 have e0:v5 r0 = e3K (b8L s):=by rw [e0]; simp [tot,e3K]; omega
 refine Wp.optF h0 ?_
 obtain ⟨r,hr,hv⟩:=d6S a1F c7K (c6G s) Z5 r0 h.ac (by rw [e0]; exact d5Y _)
 exact ⟨r,hr,by rw [hv,e0]; omega⟩
theorem g0O (s:Sta) (h:Few s):∃ r:S5,b4K K0 ((s,()),()) = some ((r,()),())∧v5 r = tot mAm (c9S s):=by
 obtain ⟨r,hr,hv⟩:=d6S a0L mAm (c9S s) Z5 Z5 h.ms (by rw [g2O]; omega)
 exact ⟨r,hr,by rw [hv,g2O]; omega⟩
theorem g0V (l:List a0A) (h:l.length ≤ 1073741824):∃ r:S5,b9D K0 ((l,()),()) = some ((r,()),())∧v5 r = tot d5J l:=by
 obtain ⟨r,hr,hv⟩:=d6S a0D d5J l Z5 Z5 h (by rw [g2O]; omega)
 exact ⟨r,hr,by rw [hv,g2O]; omega⟩
theorem f5F (l:List a0A) (h:l.length ≤ 1073741824):b0S K0 ((l,()),()) = some ((decide (∀ i,i < l.length→okP (rdL dP l i)),()),()):=by
 refine Wp.out (T:=fun o=>o = some ((decide (∀ i,i < l.length→okP (rdL dP l i)),()),())) ?_
 unfold b0S
 refine Wp.iter (fun x=>∃ i,i ≤ l.length∧x = ((l,(i6 l.length,(i6 i,()))),())∧∀ k,k < i→okP (rdL dP l k)) (fun x=>l.length - x.1.2.2.1.val.toNat) ?_ ⟨0,by omega,rfl,fun k hk=>by omega⟩ (by rw [a6G]; show l.length - 0 < _; omega)
 rintro x ⟨i,hi,rfl,hc⟩
 have hn:I.add (i6 i) (I.of .i64 1) = i6 (i + 1):=a3H (m:=1) (by omega)
 have e2:I.ltb (i6 i) (i6 l.length) = decide (i < l.length):=a2M (by omega) (by omega)
 refine Wp.brn (fun hk=>?_) (fun hk=>?_)
 ·
  have hk:I.ltb (i6 i) (i6 l.length) = true:=hk
  rw [e2] at hk
  have hk:=of_decide_eq_true hk
  refine Wp.brnT (a3D (by show i < l.length; omega) (by omega)) ?_
  have hrd:rdL a0D l (I.nat (i6 i)) = rdL dP l i:=by rw [a3C (by omega)]
  obtain ⟨r1,h1,v1⟩:=e5F (rdL a0D l (I.nat (i6 i))).2.1 (rdL a0D l (I.nat (i6 i))).2.2.2.2.1
  obtain ⟨r2,h2,v2⟩:=e5F (rdL a0D l (I.nat (i6 i))).2.2.1 (rdL a0D l (I.nat (i6 i))).2.2.2.1
  refine Wp.optF h1 (Wp.optF h2 ?_)
  rw [hrd] at v1 v2
  refine Wp.brn (fun g=>?_) (fun g=>?_)
  ·
   have g:a3I (Ty.eqb (.arr 5 (.int .u64)) r1 r2) = true:=g
   rw [eq5] at g
   have g:=of_decide_eq_false (f7S g)
   refine Wp.done ?_
   rw [decide_eq_false (fun hh=>g (by rw [v1,v2]; exact hh i hk))]
   rfl
  ·
   have g:a3I (Ty.eqb (.arr 5 (.int .u64)) r1 r2) = false:=g
   rw [eq5] at g
   have g:v5 r1 = v5 r2:=by
    by_cases hx:v5 r1 = v5 r2
    ·
     exact hx
    ·
     rw [decide_eq_false hx] at g; cases g
   rw [v1,v2] at g
   refine Wp.again ⟨i + 1,by omega,by show ((l,(i6 l.length,(I.add (i6 i) (I.of .i64 1),()))),_) = _; rw [hn],fun k hk'=>?_⟩ (by show l.length - (I.add (i6 i) (I.of .i64 1)).val.toNat < l.length - (i6 i).val.toNat; rw [hn,a0V (by omega),a0V (by omega)]; omega)
   rcases (by omega:k < i ∨ k = i) with h3 | rfl
   ·
    exact hc k h3
   ·
    exact g
 ·
  have hk:I.ltb (i6 i) (i6 l.length) = false:=hk
  rw [e2] at hk
  have hk:i = l.length:=by have:=of_decide_eq_false hk; omega
  subst hk
  refine Wp.done ?_
  rw [decide_eq_true hc]
  rfl
theorem bnF {b:Bool} (h:a3I b = false):b = true:=by cases b <;> simp_all [a3I]
theorem bnT {b:Bool} (h:a3I b = true):b = false:=by cases b <;> simp_all [a3I]
theorem d9D (s:Sta) (t:e5A) (h:Few s):b2L K0 ((s,(t,())),()) = some ((g2R s t,()),()):=by
 refine Wp.out (T:=fun o=>o = some ((g2R s t,()),())) ?_
 unfold b2L
 obtain ⟨y0,h0,v0⟩:=e5T s h
 have hB:B5 = 1099511627776 * U.top:=rfl
 have hy0:v5 y0 ≤ B5:=by
  have h1:=e9X c7K (c6G s)
  have h2:=Nat.mul_le_mul_right U.top h.ac
  have h3:=d5Y (b8L s)
  have h4:=Nat.mul_le_mul_right U.top (show 4 + 1073741824 ≤ 1099511627776 by omega)
  rw [Nat.add_mul] at h4
  rw [v0,hB]; omega
 obtain ⟨y1,h1,v1⟩:=d9R y0 t.2.1 hy0
 obtain ⟨y2,h2,v2⟩:=e5M t.1
 have e1:Ty.eqb (.arr 5 (.int .u64)) y1 y2 = g6S s t:=by rw [eq5,v1,v2,v0]; rfl
 refine Wp.optF h0 (Wp.optF h1 (Wp.optF h2 ?_))
 unfold g2R
 refine Wp.brn (fun g=>?_) (fun g=>?_)
 ·
  have g:=bnT g
  rw [← e1,if_pos g]
  rfl
 have g:=bnF g
 rw [← e1,if_neg (by rw [g]; simp)]
 obtain ⟨y4,h4,v4⟩:=e5F (b8L s).2.2.1 t.2.2.2.2.2.2.2.1
 obtain ⟨y5,h5,v5e⟩:=e5M t.2.2.2.1
 have e2:Ty.eqb (.arr 5 (.int .u64)) y4 y5 = decide ((b8L s).2.2.1.val + t.2.2.2.2.2.2.2.1.val = t.2.2.2.1.val):=by rw [eq5,v4,v5e]
 refine Wp.jn (fun x=>x = ((d7E s t,()),(s,(t,())))) ?_ ?_
 ·
  rintro x rfl
  refine Wp.brn (fun g=>?_) (fun g=>?_)
  ·
   have g:d7E s t = true:=g
   rw [if_pos g]
   rfl
  have g:d7E s t = false:=g
  rw [if_neg (by rw [g]; simp)]
  obtain ⟨y6,h6,v6⟩:=e5F (g6P s) t.2.2.1
  have e3:Ty.eqb (.arr 5 (.int .u64)) y6 y2 = g2Q s t:=by rw [eq5,v6,v2]; rfl
  refine Wp.optF h6 (Wp.optF h2 ?_)
  refine Wp.brn (fun g=>?_) (fun g=>?_)
  ·
   have g:=bnT g
   rw [← e3,if_pos g]
   rfl
  have g:=bnF g
  rw [← e3,if_neg (by rw [g]; simp)]
  obtain ⟨y7,h7,v7⟩:=g0O s h
  obtain ⟨y8,h8,v8⟩:=e5M t.2.1
  have e4:Ty.eqb (.arr 5 (.int .u64)) y7 y8 = g2B s t:=by rw [eq5,v7,v8]; rfl
  refine Wp.optF h7 (Wp.optF h8 ?_)
  refine Wp.brn (fun g=>?_) (fun g=>?_)
  ·
   have g:=bnT g
   rw [← e4,if_pos g]
   rfl
  have g:=bnF g
  rw [← e4,if_neg (by rw [g]; simp)]
  refine Wp.optF (f5F (c2D s) h.po) ?_
  refine Wp.brn (fun g=>?_) (fun g=>?_)
  ·
   have g:f3G s = false:=bnT g
   rw [if_pos g]
   rfl
  have g:f3G s = true:=bnF g
  rw [if_neg (by rw [g]; simp)]
  obtain ⟨y9,h9,v9⟩:=g0V (c2D s) h.po
  obtain ⟨y10,h10,v10⟩:=e5M t.2.2.2.2.2.2.2.1
  have e6:Ty.eqb (.arr 5 (.int .u64)) y9 y10 = g2T s t:=by rw [eq5,v9,v10]; rfl
  refine Wp.optF h9 (Wp.optF h10 ?_)
  refine Wp.brn (fun g=>?_) (fun g=>?_)
  ·
   have g:=bnT g
   rw [← e6,if_pos g]
   rfl
  ·
   have g:=bnF g
   rw [← e6,if_neg (by rw [g]; simp)]
   rfl
 ·
  intro j hj
  have hj:∀ b:Bool,d7E s t = b→Wp (fun o=>o = some ((if d7E s t = true then I.of IntKind.i64 2 else if g2Q s t = false then I.of IntKind.i64 3 else if g2B s t = false then I.of IntKind.i64 4 else if f3G s = false then I.of IntKind.i64 5 else if g2T s t = false then I.of IntKind.i64 6 else I.of IntKind.i64 0,()),())) (j ((b,()),(s,(t,())))):=by
   rintro b rfl
   exact hj _ rfl
  refine Wp.brn (fun g=>hj true ?_) (fun g=>?_)
  ·
   unfold d7E
   rw [show a3I (Ty.eqb a1U (b8L s).1 t.2.2.2.2.2.1) = true from g]; rfl
  have g1:a3I (Ty.eqb a1U (b8L s).1 t.2.2.2.2.2.1) = false:=g
  refine Wp.brn (fun g=>hj true ?_) (fun g=>?_)
  ·
   unfold d7E
   rw [g1,show a3I (Ty.eqb a1U (b8L s).2.1 t.2.2.2.2.1) = true from g]; rfl
  have g2:a3I (Ty.eqb a1U (b8L s).2.1 t.2.2.2.2.1) = false:=g
  refine Wp.brn (fun g=>hj true ?_) (fun g=>?_)
  ·
   unfold d7E
   rw [g1,g2,show a3I (Ty.eqb a1U (b8L s).2.2.2.1 t.2.2.2.2.2.2.1) = true from g]; rfl
  have g3:a3I (Ty.eqb a1U (b8L s).2.2.2.1 t.2.2.2.2.2.2.1) = false:=g
  refine Wp.optF h4 (Wp.optF h5 (hj (a3I (Ty.eqb (.arr 5 (.int .u64)) y4 y5)) ?_))
  unfold d7E
  rw [g1,g2,g3,e2]
  rfl
end Sym

/- Audit: the reference's Check. -/
namespace Sym
open Go
theorem e8D {n:Nat} (h:n ≤ 2000000000 * U.top):n < P40:=Nat.lt_of_le_of_lt h (by decide +kernel)
theorem c2V {X:Type} (f:X→U) (l:List X) (i:Nat) (hn:l.length ≤ 1073741824) (m:Nat) (hm:m ≤ 20 * U.top):tot f (l.take i) + m < P40:=by
 have h1:=d0U f l i 1073741824 hn
 have h2:=Nat.mul_le_mul_right U.top (show 1073741824 + 20 ≤ 2000000000 by omega)
 rw [Nat.add_mul] at h2
 exact e8D (by omega)
theorem e4V {X:Type} (f:X→U) (l:List X) (hn:l.length ≤ 1073741824) (m:Nat) (hm:m ≤ 20 * U.top):tot f l + m < P40:=by
 have:=c2V f l l.length hn m hm
 rwa [List.take_length] at this
theorem g6A (s:Sta) (h:Few s):∃ r,b4E K0 ((s,()),()) = some ((r,()),())∧IsB r (tot c7K (c6G s) + e3K (b8L s)):=by
 refine Wp.out (T:=fun o=>∃ r,o = some ((r,()),())∧IsB r (tot c7K (c6G s) + e3K (b8L s))) ?_
 unfold b4E
 have hL:=h.ac
 refine Wp.iter (fun x=>∃ (i:Nat) (c:List Dg),i ≤ (c6G s).length∧x = ((c,(i6 i,())),(s,()))∧IsB c (tot c7K ((c6G s).take i))) (fun x=>(c6G s).length - x.1.2.1.val.toNat) ?_ ⟨0,[],by omega,rfl,c0R⟩ (by rw [a6G]; show (c6G s).length - 0 < _; omega)
 rintro x ⟨i,c,hi,rfl,hc⟩
 have hn:I.add (i6 i) (I.of .i64 1) = i6 (i + 1):=a3H (m:=1) (by omega)
 have e2:I.ltb (i6 i) (I.ofNat .i64 (a0G (c6G s))) = decide (i < (c6G s).length):=a2M (m:=(c6G s).length) (by omega) (by omega)
 refine Wp.brn (fun hk=>?_) (fun hk=>?_)
 ·
  have hk:I.ltb (i6 i) (I.ofNat .i64 (a0G (c6G s))) = true:=hk
  rw [e2] at hk
  have hk:=of_decide_eq_true hk
  refine Wp.brnT (a3D (by show i < (c6G s).length; omega) (by omega)) ?_
  have hlt:=c2V c7K (c6G s) i hL 0 (by omega)
  obtain ⟨y,r,hy,hr,hR⟩:=d1D hc (by omega) (c7K (rdL a1F (c6G s) (I.nat (i6 i))))
  refine Wp.optF hy (Wp.optF hr ?_)
  refine Wp.again ⟨i + 1,r,by omega,by show ((r,(I.add (i6 i) (I.of .i64 1),())),_) = _; rw [hn]; rfl,?_⟩ (by show (c6G s).length - (I.add (i6 i) (I.of .i64 1)).val.toNat < (c6G s).length - (i6 i).val.toNat; rw [hn,a0V (by omega),a0V (by omega)]; omega)
  rw [b4Z c7K a1F hk]
  rw [a3C (by omega)] at hR
  exact hR
 ·
  have hk:I.ltb (i6 i) (I.ofNat .i64 (a0G (c6G s))) = false:=hk
  rw [e2] at hk
  have hk:i = (c6G s).length:=by have:=of_decide_eq_false hk; omega
  subst hk
  rw [List.take_length] at hc
  have b1:=U.lt (b8L s).1
  have b2:=U.lt (b8L s).2.1
  have b3:=U.lt (b8L s).2.2.1
  have b4:=U.lt (b8L s).2.2.2.1
  have hlt:=e4V c7K (c6G s) hL (e3K (b8L s)) (by have:=d5Y (b8L s); omega)
  unfold e3K at hlt
  refine Wp.done ?_
  obtain ⟨y0,r0,hy0,hr0,hR0⟩:=d1D hc (by omega) (b8L s).1
  obtain ⟨y1,r1,hy1,hr1,hR1⟩:=d1D hR0 (by omega) (b8L s).2.1
  obtain ⟨y2,r2,hy2,hr2,hR2⟩:=d1D hR1 (by omega) (b8L s).2.2.1
  obtain ⟨y3,r3,hy3,hr3,hR3⟩:=d1D hR2 (by omega) (b8L s).2.2.2.1
  refine Wp.unrollK 0 (by omega) (Wp.brnT rfl (Wp.brnT rfl (Wp.optF hy0 (Wp.optF hr0 (Wp.next ?_)))))
  refine Wp.unrollK 1 (by omega) (Wp.brnT rfl (Wp.brnT rfl (Wp.optF hy1 (Wp.optF hr1 (Wp.next ?_)))))
  refine Wp.unrollK 2 (by omega) (Wp.brnT rfl (Wp.brnT rfl (Wp.optF hy2 (Wp.optF hr2 (Wp.next ?_)))))
  refine Wp.unrollK 3 (by omega) (Wp.brnT rfl (Wp.brnT rfl (Wp.optF hy3 (Wp.optF hr3 (Wp.next ?_)))))
  refine Wp.unrollK 4 (by omega) (Wp.brnF rfl (Wp.stop ⟨r3,rfl,?_⟩))
  have e:tot c7K (c6G s) + (b8L s).1.val + (b8L s).2.1.val + (b8L s).2.2.1.val + (b8L s).2.2.2.1.val = tot c7K (c6G s) + e3K (b8L s):=by unfold e3K; omega
  rw [← e]
  exact hR3
theorem f3R {P:Nat→Prop} {i:Nat} [Decidable (∀ k,k < i→P k)] [Decidable (∀ k,k < i + 1→P k)] [Decidable (P i)]:(decide (∀ k,k < i + 1→P k)) = (decide (∀ k,k < i→P k) && decide (P i)):=by
 rw [Bool.eq_iff_iff]
 simp only [decide_eq_true_eq,Bool.and_eq_true]
 constructor
 ·
  exact fun h=>⟨fun k hk=>h k (by omega),h i (by omega)⟩
 ·
  rintro ⟨h1,h2⟩ k hk
  rcases (by omega:k < i ∨ k = i) with h3 | rfl
  ·
   exact h1 k h3
  ·
   exact h2
set_option maxHeartbeats 1000000 in
theorem d8T (s:Sta) (t:e5A) (h:Few s):a9K K0 ((s,(t,())),()) = some ((g2R s t,()),()):=by
 refine Wp.out (T:=fun o=>o = some ((g2R s t,()),())) ?_
 unfold a9K
 have hL:=h.ms
 have hP:=h.po
 refine Wp.iter (fun x=>∃ (i:Nat) (c:List Dg),i ≤ (c9S s).length∧x = ((c,(i6 i,())),(s,(t,([],()))))∧IsB c (tot mAm ((c9S s).take i))) (fun x=>(c9S s).length - x.1.2.1.val.toNat) ?_ ⟨0,[],by omega,rfl,c0R⟩ (by rw [a6G]; show (c9S s).length - 0 < _; omega)
 rintro x ⟨i,c,hi,rfl,hc⟩
 have hn:I.add (i6 i) (I.of .i64 1) = i6 (i + 1):=a3H (m:=1) (by omega)
 have e2:I.ltb (i6 i) (I.ofNat .i64 (a0G (c9S s))) = decide (i < (c9S s).length):=a2M (m:=(c9S s).length) (by omega) (by omega)
 refine Wp.brn (fun hk=>?_) (fun hk=>?_)
 ·
  have hk:I.ltb (i6 i) (I.ofNat .i64 (a0G (c9S s))) = true:=hk
  rw [e2] at hk
  have hk:=of_decide_eq_true hk
  refine Wp.brnT (a3D (by show i < (c9S s).length; omega) (by omega)) ?_
  have hlt:=c2V mAm (c9S s) i hL 0 (by omega)
  obtain ⟨y,r,hy,hr,hR⟩:=d1D hc (by omega) (mAm (rdL a0L (c9S s) (I.nat (i6 i))))
  refine Wp.optF hy (Wp.optF hr ?_)
  refine Wp.again ⟨i + 1,r,by omega,by show ((r,(I.add (i6 i) (I.of .i64 1),())),_) = _; rw [hn]; rfl,?_⟩ (by show (c9S s).length - (I.add (i6 i) (I.of .i64 1)).val.toNat < (c9S s).length - (i6 i).val.toNat; rw [hn,a0V (by omega),a0V (by omega)]; omega)
  rw [b4Z mAm a0L hk]
  rw [a3C (by omega)] at hR
  exact hR
 have hk:I.ltb (i6 i) (I.ofNat .i64 (a0G (c9S s))) = false:=hk
 rw [e2] at hk
 have hk:i = (c9S s).length:=by have:=of_decide_eq_false hk; omega
 subst hk
 rw [List.take_length] at hc
 clear hn e2 hi
 refine Wp.done ?_
 refine Wp.iter (fun x=>∃ (i:Nat) (d:List Dg),i ≤ (c2D s).length∧x = ((c,(d,(decide (∀ k,k < i→okP (rdL dP (c2D s) k)),(i6 i,())))),(s,(t,())))∧IsB d (tot d5J ((c2D s).take i))) (fun x=>(c2D s).length - x.1.2.2.2.1.val.toNat) ?_ ⟨0,[],by omega,?_,c0R⟩ (by rw [a6G]; show (c2D s).length - 0 < _; omega)
 ·
  rintro x ⟨i,d,hi,rfl,hd⟩
  have hn:I.add (i6 i) (I.of .i64 1) = i6 (i + 1):=a3H (m:=1) (by omega)
  have e2:I.ltb (i6 i) (I.ofNat .i64 (a0G (c2D s))) = decide (i < (c2D s).length):=a2M (m:=(c2D s).length) (by omega) (by omega)
  refine Wp.brn (fun hk=>?_) (fun hk=>?_)
  ·
   have hk:I.ltb (i6 i) (I.ofNat .i64 (a0G (c2D s))) = true:=hk
   rw [e2] at hk
   have hk:=of_decide_eq_true hk
   refine Wp.brnT (a3D (by show i < (c2D s).length; omega) (by omega)) ?_
   have hlt:=c2V d5J (c2D s) i hP 0 (by omega)
   have hrd:rdL a0D (c2D s) (I.nat (i6 i)) = rdL dP (c2D s) i:=by rw [a3C (by omega)]
   obtain ⟨y,r,hy,hr,hR⟩:=d1D hd (by omega) (d5J (rdL a0D (c2D s) (I.nat (i6 i))))
   refine Wp.optF hy (Wp.optF hr ?_)
   have hmu:(c2D s).length - (I.add (i6 i) (I.of .i64 1)).val.toNat < (c2D s).length - (i6 i).val.toNat:=by rw [hn,a0V (by omega),a0V (by omega)]; omega
   have hR:IsB r (tot d5J ((c2D s).take (i + 1))):=by
    rw [b4Z d5J dP hk]
    rw [hrd] at hR
    exact hR
   have hs:=f3R (P:=fun k=>okP (rdL dP (c2D s) k)) (i:=i)
   refine Wp.brn (fun g=>?_) (fun g=>?_)
   ·
    have g:decide (∀ k,k < i→okP (rdL dP (c2D s) k)) = true:=g
    obtain ⟨s1,hs1,hS1⟩:=a0X (rdL a0D (c2D s) (I.nat (i6 i))).2.1
    obtain ⟨s2,hs2,hS2⟩:=a0X (rdL a0D (c2D s) (I.nat (i6 i))).2.2.2.2.1
    obtain ⟨s3,hs3,hS3⟩:=a9P hS1 hS2 (d3R hS1) (d3R hS2)
    obtain ⟨s4,hs4,hS4⟩:=a0X (rdL a0D (c2D s) (I.nat (i6 i))).2.2.1
    obtain ⟨s5,hs5,hS5⟩:=a0X (rdL a0D (c2D s) (I.nat (i6 i))).2.2.2.1
    obtain ⟨s6,hs6,hS6⟩:=a9P hS4 hS5 (d3R hS4) (d3R hS5)
    have l3:=lenK' hS3 (e8D (by have:=U.lt (rdL a0D (c2D s) (I.nat (i6 i))).2.1; have:=U.lt (rdL a0D (c2D s) (I.nat (i6 i))).2.2.2.2.1; omega))
    have l6:=lenK' hS6 (e8D (by have:=U.lt (rdL a0D (c2D s) (I.nat (i6 i))).2.2.1; have:=U.lt (rdL a0D (c2D s) (I.nat (i6 i))).2.2.2.1; omega))
    refine Wp.optF hs1 (Wp.optF hs2 (Wp.optF hs3 (Wp.optF hs4 (Wp.optF hs5 (Wp.optF hs6 (Wp.optF (c1M hS3 hS6 l3 l6) ?_))))))
    refine Wp.again ⟨i + 1,r,by omega,?_,hR⟩ hmu
    show ((c,(r,(I.eqb (c0Z _ _) (I.of .i64 0),(I.add (i6 i) (I.of .i64 1),())))),_) = _
    rw [hn,cmp_eq,hs,g,hrd,Bool.true_and]
    rfl
   ·
    have g:decide (∀ k,k < i→okP (rdL dP (c2D s) k)) = false:=g
    refine Wp.again ⟨i + 1,r,by omega,?_,hR⟩ hmu
    show ((c,(r,(false,(I.add (i6 i) (I.of .i64 1),())))),_) = _
    rw [hn,hs,g,Bool.false_and]; rfl
  have hk:I.ltb (i6 i) (I.ofNat .i64 (a0G (c2D s))) = false:=hk
  rw [e2] at hk
  have hk:i = (c2D s).length:=by have:=of_decide_eq_false hk; omega
  subst hk
  rw [List.take_length] at hd
  refine Wp.done ?_
  obtain ⟨r,hr,hR⟩:=g6A s h
  obtain ⟨w,hw,hW⟩:=a0X t.2.1
  have ht:=U.lt t.2.1
  have hv:=d5Y (b8L s)
  have hall:=e4V c7K (c6G s) h.ac (e3K (b8L s) + t.2.1.val) (by omega)
  refine Wp.optF hr (Wp.optF hw (Wp.optF (c6N hR hW (by omega) (e8D (by omega)) (by omega) t.1) ?_))
  unfold g2R
  refine Wp.brn (fun g=>?_) (fun g=>?_)
  ·
   have g:g6S s t = false:=bnT g
   rw [if_pos g]
   rfl
  have g:g6S s t = true:=bnF g
  rw [if_neg (by rw [g]; simp)]
  obtain ⟨w1,hw1,hW1⟩:=a0X (b8L s).2.2.1
  obtain ⟨w2,hw2,hW2⟩:=a0X t.2.2.2.2.2.2.2.1
  have t1:=U.lt (b8L s).2.2.1
  have t2:=U.lt t.2.2.2.2.2.2.2.1
  refine Wp.jn (fun x=>x = ((c,(d,(f3G s,(d7E s t,())))),(s,(t,())))) ?_ ?_
  ·
   rintro x rfl
   refine Wp.brn (fun g=>?_) (fun g=>?_)
   ·
    have g:d7E s t = true:=g
    rw [if_pos g]
    rfl
   have g:d7E s t = false:=g
   rw [if_neg (by rw [g]; simp)]
   obtain ⟨w3,hw3,hW3⟩:=a0X (g6P s)
   obtain ⟨w4,hw4,hW4⟩:=a0X t.2.2.1
   have t3:=U.lt (g6P s)
   have t4:=U.lt t.2.2.1
   refine Wp.optF hw3 (Wp.optF hw4 (Wp.optF (c6N hW3 hW4 (e8D (by omega)) (e8D (by omega)) (e8D (by omega)) t.1) ?_))
   refine Wp.brn (fun g=>?_) (fun g=>?_)
   ·
    have g:g2Q s t = false:=bnT g
    rw [if_pos g]
    rfl
   have g:g2Q s t = true:=bnF g
   rw [if_neg (by rw [g]; simp)]
   have hm:=e4V mAm (c9S s) hL 0 (by omega)
   have e4:decide (tot mAm (c9S s) + 0 = t.2.1.val) = g2B s t:=rfl
   refine Wp.optF (c6N hc c0R (by omega) (e8D (by omega)) (by omega) t.2.1) ?_
   refine Wp.brn (fun g=>?_) (fun g=>?_)
   ·
    have g:g2B s t = false:=bnT g
    rw [if_pos g]
    rfl
   have g:g2B s t = true:=bnF g
   rw [if_neg (by rw [g]; simp)]
   refine Wp.brn (fun g=>?_) (fun g=>?_)
   ·
    have g:f3G s = false:=bnT g
    rw [if_pos g]
    rfl
   have g:f3G s = true:=bnF g
   rw [if_neg (by rw [g]; simp)]
   have hq:=e4V d5J (c2D s) hP 0 (by omega)
   refine Wp.optF (c6N hd c0R (by omega) (e8D (by omega)) (by omega) t.2.2.2.2.2.2.2.1) ?_
   refine Wp.brn (fun g=>?_) (fun g=>?_)
   ·
    have g:g2T s t = false:=bnT g
    rw [if_pos g]
    rfl
   ·
    have g:g2T s t = true:=bnF g
    rw [if_neg (by rw [g]; simp)]
    rfl
  ·
   intro j hj
   have hj:∀ b:Bool,d7E s t = b→Wp (fun o=>o = some ((if d7E s t = true then I.of IntKind.i64 2 else if g2Q s t = false then I.of IntKind.i64 3 else if g2B s t = false then I.of IntKind.i64 4 else if f3G s = false then I.of IntKind.i64 5 else if g2T s t = false then I.of IntKind.i64 6 else I.of IntKind.i64 0,()),())) (j ((c,(d,(f3G s,(b,())))),(s,(t,())))):=by
    rintro b rfl
    exact hj _ rfl
   refine Wp.brn (fun g=>hj true ?_) (fun g=>?_)
   ·
    unfold d7E
    rw [show a3I (Ty.eqb a1U (b8L s).1 t.2.2.2.2.2.1) = true from g]; rfl
   have g1:a3I (Ty.eqb a1U (b8L s).1 t.2.2.2.2.2.1) = false:=g
   refine Wp.brn (fun g=>hj true ?_) (fun g=>?_)
   ·
    unfold d7E
    rw [g1,show a3I (Ty.eqb a1U (b8L s).2.1 t.2.2.2.2.1) = true from g]; rfl
   have g2:a3I (Ty.eqb a1U (b8L s).2.1 t.2.2.2.2.1) = false:=g
   refine Wp.brn (fun g=>hj true ?_) (fun g=>?_)
   ·
    unfold d7E
    rw [g1,g2,show a3I (Ty.eqb a1U (b8L s).2.2.2.1 t.2.2.2.2.2.2.1) = true from g]; rfl
   have g3:a3I (Ty.eqb a1U (b8L s).2.2.2.1 t.2.2.2.2.2.2.1) = false:=g
   refine Wp.optF hw1 (Wp.optF hw2 (Wp.optF (c6N hW1 hW2 (e8D (by omega)) (e8D (by omega)) (e8D (by omega)) t.2.2.2.1) (hj _ ?_)))
   unfold d7E
   rw [g1,g2,g3]
   rfl
 ·
  exact congrArg (fun b:Bool=>((c,(([]:List Dg),(b,(i6 0,())))),(s,(t,())))) (decide_eq_true (fun k hk=>absurd hk (Nat.not_lt_zero k))).symm
end Sym

/- Audit: the state of the reference machine. -/
namespace Sym
open Go
theorem e9P {X:Type} (f:X→U) (a b:List X):tot f (a ++ b) = tot f a + tot f b:=by simp [tot]
theorem f5E {X:Type} (f:X→U) (x:X) (l:List X):tot f (x :: l) = (f x).val + tot f l:=by simp [tot]
theorem g2F {X:Type} (f:X→U) (x:X) (l:List X) (j:Nat):tot f (l.take j ++ (x :: l.drop j)) = tot f l + (f x).val:=by
 have h:=e9P f (l.take j) (l.drop j)
 rw [List.take_append_drop] at h
 rw [e9P,f5E,h]
 omega
theorem d7D {X:Type} (x:X) (l:List X) (j:Nat):(l.take j ++ (x :: l.drop j)).length = l.length + 1:=by
 simp only [List.length_append,List.length_take,List.length_cons,List.length_drop]
 omega
set_option maxHeartbeats 1000000 in
theorem e1G (l:List Ac) (v:V4) (hl:l.length ≤ 1073741823):∃ out:List Ac,a5N K0 (((l,(v,())),()),()) = some ((),(out,()))∧out.length ≤ l.length∧tot c7K out = tot c7K l:=by
 refine Wp.out (T:=fun o=>∃ out:List Ac,o = some ((),(out,()))∧out.length ≤ l.length∧tot c7K out = tot c7K l) ?_
 unfold a5N
 refine Wp.iter (fun x=>∃ (i:Nat) (out:List Ac),i ≤ l.length∧x = (((l,(v,())),(i6 i,())),(out,()))∧out.length ≤ i∧tot c7K out = tot c7K (l.take i)) (fun x=>l.length - x.1.2.1.val.toNat) ?_ ⟨0,[],by omega,rfl,by show 0 ≤ _; omega,rfl⟩ (by rw [a6G]; show l.length - 0 < _; omega)
 rintro x ⟨i,out,hi,rfl,ho,hs⟩
 have hn:I.add (i6 i) (I.of .i64 1) = i6 (i + 1):=a3H (m:=1) (by omega)
 have e2:I.ltb (i6 i) (I.ofNat .i64 (a0G l)) = decide (i < l.length):=a2M (m:=l.length) (by omega) (by omega)
 refine Wp.brn (fun hk=>?_) (fun hk=>?_)
 ·
  have hk:I.ltb (i6 i) (I.ofNat .i64 (a0G l)) = true:=hk
  rw [e2] at hk
  have hk:=of_decide_eq_true hk
  have hmu:l.length - (I.add (i6 i) (I.of .i64 1)).val.toNat < l.length - (i6 i).val.toNat:=by rw [hn,a0V (by omega),a0V (by omega)]; omega
  have hrd:rdL a1F l (I.nat (i6 i)) = rdL a1F l i:=by rw [a3C (by omega)]
  have hsc:=b4Z c7K a1F hk
  refine Wp.brnT (a3D (by show i < l.length; omega) (by omega)) ?_
  refine Wp.jn (fun x=>x = (((l,(v,())),(i6 i,())),(out,(rdL a1F l i,())))) ?_ ?_
  ·
   rintro x rfl
   refine Wp.jn (fun x=>∃ j,j ≤ out.length∧x = (((l,(v,())),(i6 i,(i6 j,()))),(out,(rdL a1F l i,())))) ?_ ?_
   ·
    rintro x ⟨j,hj,rfl⟩
    have b1:inB' (i6 j) out.length = true:=i6_inB' hj (by omega)
    have ej:I.nat (i6 j) = j:=a3C (by omega)
    have en:a2D (a3W out 0 (I.nat (i6 j))) (a2D (rdL a1F l i :: []) (a3W out (I.nat (i6 j)) (a0G out - I.nat (i6 j)))) = out.take j ++ (rdL a1F l i :: out.drop j):=by
     rw [ej,b8U,a6F,b3O]; rfl
    have el1:a0G (a2D (rdL a1F l i :: []) (a3W out (I.nat (i6 j)) (a0G out - I.nat (i6 j)))) = out.length - j + 1:=by
     rw [ej,a6F,a6F,b3O]
     show (_ :: out.drop j).length = _
     simp
    refine Wp.brnT b1 (Wp.brnT (decide_eq_true rfl) (Wp.brnT b1 (Wp.brnT (by show a1I (a0G (a2D (rdL a1F l i :: []) (a3W out (I.nat (i6 j)) (a0G out - I.nat (i6 j))))) = true; rw [el1]; exact a8R (by omega)) (Wp.brnT (by show a1I (a0G (a2D (a3W out 0 (I.nat (i6 j))) (a2D (rdL a1F l i :: []) (a3W out (I.nat (i6 j)) (a0G out - I.nat (i6 j)))))) = true; rw [en,a6F,d7D]; exact a8R (by omega)) (Wp.brnF (by show c5M (a0G (a2D (rdL a1F l i :: []) (a3W out (I.nat (i6 j)) (a0G out - I.nat (i6 j))))) = false; rw [el1]; rfl) ?_)))))
    refine Wp.again ⟨i + 1,out.take j ++ (rdL a1F l i :: out.drop j),by omega,?_,by rw [d7D]; omega,by rw [g2F,hs,hsc]⟩ hmu
    show (((l,(v,())),(I.add (i6 i) (I.of .i64 1),())),(a2D (a3W out 0 (I.nat (i6 j))) (a2D (rdL a1F l i :: []) (a3W out (I.nat (i6 j)) (a0G out - I.nat (i6 j)))),())) = _
    rw [hn,en]
   ·
    intro j2 hj2
    refine Wp.iter (fun x=>∃ j,j ≤ out.length∧x = (((l,(v,())),(i6 i,(i6 j,()))),(out,(rdL a1F l i,())))) (fun x=>x.1.2.2.1.val.toNat) ?_ ⟨out.length,by omega,rfl⟩ (by rw [a6G]; show (i6 out.length).val.toNat < _; rw [a0V (by omega)]; omega)
    rintro x ⟨j,hj,rfl⟩
    have e3:I.ltb (I.of .i64 0) (i6 j) = decide (0 < j):=a2M (n:=0) (by omega) (by omega)
    refine Wp.brn (fun g=>?_) (fun g=>Wp.done (hj2 _ ⟨j,hj,rfl⟩))
    have g:I.ltb (I.of .i64 0) (i6 j) = true:=g
    rw [e3] at g
    have g:=of_decide_eq_true g
    have hsub:I.sub (i6 j) (I.of .i64 1) = i6 (j - 1):=b9I (m:=1) (by omega) (by omega)
    refine Wp.brnT (by show inB (I.sub (i6 j) (I.of .i64 1)) out.length = true; rw [hsub]; exact a3D (by omega) (by omega)) ?_
    refine Wp.brn (fun _=>?_) (fun _=>Wp.done (hj2 _ ⟨j,hj,rfl⟩))
    exact Wp.again ⟨j - 1,by omega,by show (((l,(v,())),(i6 i,(I.sub (i6 j) (I.of .i64 1),()))),_) = _; rw [hsub]⟩ (by show (I.sub (i6 j) (I.of .i64 1)).val.toNat < (i6 j).val.toNat; rw [hsub,a0V (by omega),a0V (by omega)]; omega)
  ·
   intro j1 hj1
   refine Wp.optF (c4X _) ?_
   have hgo:Wp (Rnd (fun o=>∃ out:List Ac,o = some ((),(out,()))∧out.length ≤ l.length∧tot c7K out = tot c7K l) (fun x=>∃ (i:Nat) (out:List Ac),i ≤ l.length∧x = (((l,(v,())),(i6 i,())),(out,()))∧out.length ≤ i∧tot c7K out = tot c7K (l.take i)) (fun x=>l.length - x.1.2.1.val.toNat) (l.length - (i6 i).val.toNat)) (j1 (((l,(v,())),(i6 i,())),(out,(rdL a1F l (I.nat (i6 i)),())))):=hj1 _ (by rw [hrd])
   refine Wp.brn (fun z=>?_) (fun z=>hgo)
   refine Wp.brn (fun z2=>?_) (fun z2=>hgo)
   have z:decide ((rdL a1F l (I.nat (i6 i))).2.1.val = 0) = true:=z
   rw [hrd] at z
   have z:=of_decide_eq_true z
   refine Wp.again ⟨i + 1,out,by omega,by show (((l,(v,())),(I.add (i6 i) (I.of .i64 1),())),_) = _; rw [hn],by omega,?_⟩ hmu
   rw [hsc,hs]
   show _ = _ + (rdL a1F l i).2.1.val
   rw [z]
   rfl
 ·
  have hk:I.ltb (i6 i) (I.ofNat .i64 (a0G l)) = false:=hk
  rw [e2] at hk
  have hk:i = l.length:=by have:=of_decide_eq_false hk; omega
  subst hk
  rw [List.take_length] at hs
  exact Wp.done ⟨out,rfl,ho,hs⟩
set_option maxHeartbeats 1000000 in
theorem f5A (b:U) (r:List Hs) (cl:List (I .u64)) (l:List Pay) (hl:l.length ≤ 1073741823):∃ out:List Pay,a4V K0 (((b,(r,(cl,(l,())))),()),()) = some ((),(out,()))∧out.length ≤ l.length:=by
 refine Wp.out (T:=fun o=>∃ out:List Pay,o = some ((),(out,()))∧out.length ≤ l.length) ?_
 unfold a4V
 refine Wp.iter (fun x=>∃ (i:Nat) (out:List Pay),i ≤ l.length∧x = (((b,(r,(cl,(l,())))),(i6 i,())),(out,()))∧out.length ≤ i) (fun x=>l.length - x.1.2.1.val.toNat) ?_ ⟨0,[],by omega,rfl,by show 0 ≤ _; omega⟩ (by rw [a6G]; show l.length - 0 < _; omega)
 rintro x ⟨i,out,hi,rfl,ho⟩
 have hn:I.add (i6 i) (I.of .i64 1) = i6 (i + 1):=a3H (m:=1) (by omega)
 have e2:I.ltb (i6 i) (I.ofNat .i64 (a0G l)) = decide (i < l.length):=a2M (m:=l.length) (by omega) (by omega)
 refine Wp.brn (fun hk=>?_) (fun hk=>?_)
 ·
  have hk:I.ltb (i6 i) (I.ofNat .i64 (a0G l)) = true:=hk
  rw [e2] at hk
  have hk:=of_decide_eq_true hk
  have hmu:l.length - (I.add (i6 i) (I.of .i64 1)).val.toNat < l.length - (i6 i).val.toNat:=by rw [hn,a0V (by omega),a0V (by omega)]; omega
  have hrd:rdL a1H l (I.nat (i6 i)) = rdL a1H l i:=by rw [a3C (by omega)]
  have bi:inB (i6 i) l.length = true:=a3D hk (by omega)
  refine Wp.jn (fun x=>∃ j,j ≤ out.length∧x = (((b,(r,(cl,(l,())))),(i6 i,(i6 j,()))),(out,()))) ?_ ?_
  ·
   rintro x ⟨j,hj,rfl⟩
   have b1:inB' (i6 j) out.length = true:=i6_inB' hj (by omega)
   have ej:I.nat (i6 j) = j:=a3C (by omega)
   have en:a2D (a3W out 0 (I.nat (i6 j))) (a2D (rdL a1H l (I.nat (i6 i)) :: []) (a3W out (I.nat (i6 j)) (a0G out - I.nat (i6 j)))) = out.take j ++ (rdL a1H l i :: out.drop j):=by
    rw [ej,hrd,b8U,a6F,b3O]; rfl
   have el1:a0G (a2D (rdL a1H l (I.nat (i6 i)) :: []) (a3W out (I.nat (i6 j)) (a0G out - I.nat (i6 j)))) = out.length - j + 1:=by
    rw [ej,a6F,a6F,b3O]
    show (_ :: out.drop j).length = _
    simp
   refine Wp.brnT b1 (Wp.brnT (decide_eq_true rfl) (Wp.brnT bi (Wp.brnT b1 (Wp.brnT (by show a1I (a0G (a2D (rdL a1H l (I.nat (i6 i)) :: []) (a3W out (I.nat (i6 j)) (a0G out - I.nat (i6 j))))) = true; rw [el1]; exact a8R (by omega)) (Wp.brnT (by show a1I (a0G (a2D (a3W out 0 (I.nat (i6 j))) (a2D (rdL a1H l (I.nat (i6 i)) :: []) (a3W out (I.nat (i6 j)) (a0G out - I.nat (i6 j)))))) = true; rw [en,a6F,d7D]; exact a8R (by omega)) (Wp.brnF (by show c5M (a0G (a2D (rdL a1H l (I.nat (i6 i)) :: []) (a3W out (I.nat (i6 j)) (a0G out - I.nat (i6 j))))) = false; rw [el1]; rfl) ?_))))))
   refine Wp.again ⟨i + 1,out.take j ++ (rdL a1H l i :: out.drop j),by omega,?_,by rw [d7D]; omega⟩ hmu
   show (((b,(r,(cl,(l,())))),(I.add (i6 i) (I.of .i64 1),())),(a2D (a3W out 0 (I.nat (i6 j))) (a2D (rdL a1H l (I.nat (i6 i)) :: []) (a3W out (I.nat (i6 j)) (a0G out - I.nat (i6 j)))),())) = _
   rw [hn,en]
  ·
   intro j2 hj2
   refine Wp.iter (fun x=>∃ j,j ≤ out.length∧x = (((b,(r,(cl,(l,())))),(i6 i,(i6 j,()))),(out,()))) (fun x=>x.1.2.2.1.val.toNat) ?_ ⟨out.length,by omega,rfl⟩ (by rw [a6G]; show (i6 out.length).val.toNat < _; rw [a0V (by omega)]; omega)
   rintro x ⟨j,hj,rfl⟩
   have e3:I.ltb (I.of .i64 0) (i6 j) = decide (0 < j):=a2M (n:=0) (by omega) (by omega)
   refine Wp.brn (fun g=>?_) (fun g=>Wp.done (hj2 _ ⟨j,hj,rfl⟩))
   have g:I.ltb (I.of .i64 0) (i6 j) = true:=g
   rw [e3] at g
   have g:=of_decide_eq_true g
   have hsub:I.sub (i6 j) (I.of .i64 1) = i6 (j - 1):=b9I (m:=1) (by omega) (by omega)
   refine Wp.brnT (by show inB (I.sub (i6 j) (I.of .i64 1)) out.length = true; rw [hsub]; exact a3D (by omega) (by omega)) (Wp.brnT bi ?_)
   refine Wp.brn (fun _=>?_) (fun _=>Wp.done (hj2 _ ⟨j,hj,rfl⟩))
   exact Wp.again ⟨j - 1,by omega,by show (((b,(r,(cl,(l,())))),(i6 i,(I.sub (i6 j) (I.of .i64 1),()))),_) = _; rw [hsub]⟩ (by show (I.sub (i6 j) (I.of .i64 1)).val.toNat < (i6 j).val.toNat; rw [hsub,a0V (by omega),a0V (by omega)]; omega)
 ·
  have hk:I.ltb (i6 i) (I.ofNat .i64 (a0G l)) = false:=hk
  rw [e2] at hk
  have hk:i = l.length:=by have:=of_decide_eq_false hk; omega
  subst hk
  exact Wp.done ⟨out,rfl,ho⟩
noncomputable def stO (m:MS):((I .u64) × (a2R × (a5T × ((I .u64) × ((U × ((I .u64) × ((I .u64) × ((I .u64) × (b0G × (Unit × Unit)))))) × (Unit × (b7P × (Unit × (Unit × (U × (Unit × Unit))))))))))) :=
 (m.steps,(m.pm,(m.bk,(m.bl,((m.pr.1,(m.pr.2.1,(m.pr.2.2.1,(m.pr.2.2.2.1,(m.pr.2.2.2.2.1,((),())))))),((),(m.v,((),((),(m.bal,((),())))))))))))
noncomputable def stZ:((I .u64) × (a2R × (a5T × ((I .u64) × ((U × ((I .u64) × ((I .u64) × ((I .u64) × (b0G × (Unit × Unit)))))) × (Unit × (b7P × (Unit × (Unit × (U × (Unit × Unit))))))))))) :=
 ((I.of .u64 0),(a5B,(a4D,((I.of .u64 0),((Z_U,((I.of .u64 0),((I.of .u64 0),((I.of .u64 0),(a2V,((),())))))),((),(c2J,((),((),(Z_U,((),())))))))))))
noncomputable def g7H (m:MS) (acc:List Ac) (bs:List Bool) (ba:List Pay) :=
 ((stO m,()),(m.j,(lgH m.v,(esH m.bal,(m.ms,(m.ac,(m.rt,(m.cl,(m.ba,(m.pr.posters,(acc,(m.ms,(bs,(ba,()))))))))))))))
theorem f3Y (m:MS) (h:Sz 1073741822 m):∃ (acc:List Ac) (bs:List Bool) (ba:List Pay),a2Q K0 ((),m.h) = some (g7H m acc bs ba)∧acc.length ≤ m.ac.length∧tot c7K acc = tot c7K m.ac∧bs.length = m.ms.length∧ba.length ≤ m.ba.length:=by
 obtain ⟨acc,ha,hal,has⟩:=e1G m.ac m.v (by have:=h.ac; omega)
 obtain ⟨ba,hb,hbl⟩:=f5A m.bal m.rt m.cl m.ba (by have:=h.ba; omega)
 have hms:=h.ms
 have hcl:=h.cl
 have hpr:=h.pr
 suffices hh:∃ bs:List Bool,a2Q K0 ((),m.h) = some (g7H m acc bs ba)∧bs.length = m.ms.length by
  obtain ⟨bs,h1,h2⟩:=hh
  exact ⟨acc,bs,ba,h1,hal,has,h2,hbl⟩
 refine Wp.out (T:=fun o=>∃ bs:List Bool,o = some (g7H m acc bs ba)∧bs.length = m.ms.length) ?_
 unfold a2Q
 refine Wp.optF ha (Wp.brnT (a8R (by show m.ms.length ≤ _; omega)) (Wp.optF hb (Wp.brnT (a8R (by show m.pr.posters.length ≤ _; omega)) ?_)))
 refine Wp.iter (fun x=>∃ (i:Nat) (bs:List Bool),i ≤ m.ms.length∧bs.length = i∧x = ((i6 i,()),(m.j,(lgH m.v,(m.ac,(m.ms,(esH m.bal,(m.rt,(m.cl,(m.ba,(stZ,([],([],([],([],([],(stO m,(m.pr.posters,(acc,(m.ms,(bs,(ba,())))))))))))))))))))))) (fun x=>m.ms.length - x.1.1.val.toNat) ?_ ⟨0,[],by omega,rfl,rfl⟩ (by rw [a6G]; show m.ms.length - 0 < _; omega)
 rintro x ⟨i,bs,hi,hbs,rfl⟩
 have hn:I.add (i6 i) (I.of .i64 1) = i6 (i + 1):=a3H (m:=1) (by omega)
 have e2:I.ltb (i6 i) (I.ofNat .i64 (a0G m.ms)) = decide (i < m.ms.length):=a2M (m:=m.ms.length) (by omega) (by omega)
 refine Wp.brn (fun hk=>?_) (fun hk=>?_)
 ·
  have hk:I.ltb (i6 i) (I.ofNat .i64 (a0G m.ms)) = true:=hk
  rw [e2] at hk
  have hk:=of_decide_eq_true hk
  have hcd:=d4T m.bal m.rt m.cl m.ba (I.conv (k:=.i64) .u64 (i6 i)) (by omega)
  refine Wp.optF hcd ?_
  refine Wp.brnT (a8R (by show (bs ++ [_]).length ≤ _; rw [List.length_append]; show bs.length + 1 ≤ _; omega)) ?_
  refine Wp.again ⟨i + 1,bs ++ [clB m.cl (I.conv (k:=.i64) .u64 (i6 i))],by omega,by rw [List.length_append]; show bs.length + 1 = _; omega,?_⟩ (by show m.ms.length - (I.add (i6 i) (I.of .i64 1)).val.toNat < m.ms.length - (i6 i).val.toNat; rw [hn,a0V (by omega),a0V (by omega)]; omega)
  show ((I.add (i6 i) (I.of .i64 1),()),_) = _
  rw [hn]
 ·
  have hk:I.ltb (i6 i) (I.ofNat .i64 (a0G m.ms)) = false:=hk
  rw [e2] at hk
  have hk:i = m.ms.length:=by have:=of_decide_eq_false hk; omega
  exact Wp.done ⟨bs,rfl,by omega⟩
end Sym

/- Audit: Check, the plain law. -/
namespace Sym
open Go
theorem f6F {k:I .i64} (h0:0 ≤ k.val) {n:Nat} (hn:0 < n) (hn2:n < 9223372036854775808):I.nz (I.ofNat .i64 n) = true∧inB (I.rem (I.quo k (I.of .i64 16)) (I.ofNat .i64 n)) n = true:=by
 have h1:(I.ofNat .i64 n).val = n:=a3F hn2
 have h16:(I.of .i64 16).val = 16:=rfl
 have h2:(I.quo k (I.of .i64 16)).val = k.val / 16:=b7H h0 (by omega)
 have h3:0 ≤ (I.quo k (I.of .i64 16)).val:=by rw [h2]; omega
 have h4:(I.rem (I.quo k (I.of .i64 16)) (I.ofNat .i64 n)).val = (I.quo k (I.of .i64 16)).val % (n:Int):=by rw [b6F h3 (by omega),h1]
 refine ⟨iff_nz.2 (by omega),iff_inB.2 ?_⟩
 rw [h4]
 exact ⟨Int.emod_nonneg _ (by omega),Int.emod_lt_of_pos _ (by omega)⟩
abbrev StX:Type:=((I .u64) × (a2R × (a5T × ((I .u64) × ((U × ((I .u64) × ((I .u64) × ((I .u64) × (b0G × (Unit × Unit)))))) × (Unit × (b7P × (Unit × (Unit × (U × (Unit × Unit)))))))))))
theorem e2T (a:Sta) (b:e5A) (c:List (I .i64)) (d:U) (e:I .i64) (ha:(c6G a).length ≤ LIM) (hm:(c9S a).length ≤ LIM) (hp:(c2D a).length ≤ LIM) (hc:c.length ≤ LIM) :
  a7V K0 ((a,(b,(c,(d,(e,()))))),()) = some ((true,()),()):=by
 refine Wp.out (T:=fun o=>o = some ((true,()),())) ?_
 unfold a7V
 have hL:LIM = 140737488355328:=rfl
 refine Wp.jn (fun x=>((c6G a).length ≤ 20∧(c9S a).length ≤ 20∧(c2D a).length ≤ 20∧c.length ≤ 20)∧x = ((c,(e,())),(a,(b,(d,()))))) ?_ ?_
 ·
  rintro x ⟨⟨ha,hm,hp,hc⟩,rfl⟩
  obtain ⟨l,p,hs,hR⟩:=g5R c true (by omega)
  refine Wp.optF hs ?_
  have hsz:=hR.sz
  obtain ⟨acc,bs,ba,hst,hacc,_,hbs,hba⟩:=f3Y p.1 (hsz.mono (by omega))
  have hpl:p.2.length = 8 + c.length:=by rw [hR.run,d7A,hR.len]
  have hmr:∀ x ∈ p.2,(b5K x).length ≤ 1000:=fun x hx=>by have:=hR.msgs x hx; omega
  refine Wp.optF hst (Wp.optF (f1I l p.2 (by rw [hR.len]; omega) (by omega) hmr) ?_)
  obtain ⟨k,hk,k0,k1⟩:=e8V e (I.of .i64 1048576) (by decide)
  refine Wp.optF hk ?_
  have hac:=hsz.ac
  have hms:=hsz.ms
  have hpr:=hsz.pr
  refine Wp.jn (fun x=>∃ (st:StX) (po:List a0A) (ac:List Ac) (ms:List Msg) (bs:List Bool) (ba:List Pay) (t:e5A),(po.length ≤ 1073741824∧ac.length ≤ 1073741824∧ms.length ≤ 1073741824)∧x = ((),(a,(b,(st,(po,(ac,(ms,(bs,(ba,(t,())))))))))) ) ?_ ?_
  ·
   rintro x ⟨st,po,ac,ms,bs,ba,t,⟨b1,b2,b3⟩,rfl⟩
   have hf:Few a:=⟨by omega,by omega,by omega⟩
   refine Wp.optF (d9D a b hf) (Wp.optF (d8T a b hf) (Wp.brnT (iff_eqb.2 rfl) ?_))
   have hf2:Few (st.1,(st.2.1,(st.2.2.1,(st.2.2.2.1,((st.2.2.2.2.1.1,(st.2.2.2.2.1.2.1,(st.2.2.2.2.1.2.2.1,(st.2.2.2.2.1.2.2.2.1,(st.2.2.2.2.1.2.2.2.2.1,(po,st.2.2.2.2.1.2.2.2.2.2.2)))))),(ac,(st.2.2.2.2.2.2.1,(ms,(bs,(st.2.2.2.2.2.2.2.2.2.1,(ba,st.2.2.2.2.2.2.2.2.2.2.2))))))))))):=⟨b2,b3,b1⟩
   exact Wp.optF (d9D _ t hf2) (Wp.optF (d8T _ t hf2) (Wp.brnT (iff_eqb.2 rfl) (Wp.optF e8R rfl)))
  ·
   intro j hj
   have hgo:∀ (st:StX) (po:List a0A) (ms:List Msg) (t:e5A),po.length = p.1.pr.posters.length→ms.length = p.1.ms.length→Wp (fun o=>o = some ((true,()),())) (j ((),(a,(b,(st,(po,(acc,(ms,(bs,(ba,(t,()))))))))))):=fun st po ms t h1 h2=>hj _ ⟨st,po,acc,ms,bs,ba,t,⟨by omega,by omega,by omega⟩,rfl⟩
   obtain ⟨q,hq,_,_⟩:=e8V e (I.of .i64 16) (by decide)
   refine Wp.optF hq ?_
   refine Wp.brn (fun _=>hgo _ _ _ _ rfl rfl) (fun _=>?_)
   refine Wp.brn (fun _=>hgo _ _ _ _ rfl rfl) (fun _=>?_)
   refine Wp.brn (fun _=>hgo _ _ _ _ rfl rfl) (fun _=>?_)
   refine Wp.brn (fun _=>hgo _ _ _ _ rfl rfl) (fun _=>?_)
   refine Wp.brn (fun _=>Wp.brnT (f6F (n:=4) k0 (by omega) (by omega)).2 (hgo _ _ _ _ rfl rfl)) (fun _=>?_)
   refine Wp.brn (fun _=>hgo _ _ _ _ rfl rfl) (fun _=>?_)
   refine Wp.brn (fun _=>?_) (fun _=>?_)
   ·
    have e3:I.ltb (I.of .i64 0) (I.ofNat .i64 (a0G p.1.ms)) = decide (0 < p.1.ms.length):=a2M (n:=0) (m:=p.1.ms.length) (by omega) (by omega)
    refine Wp.brn (fun g=>?_) (fun _=>hgo _ _ _ _ rfl rfl)
    have g:I.ltb (I.of .i64 0) (I.ofNat .i64 (a0G p.1.ms)) = true:=g
    rw [e3] at g
    have hh:=f6F (n:=p.1.ms.length) k0 (of_decide_eq_true g) (by omega)
    exact Wp.brnT hh.1 (Wp.brnT hh.2 (hgo _ _ _ _ rfl (c2G _ _ _)))
   refine Wp.brn (fun _=>?_) (fun _=>?_)
   ·
    have e3:I.ltb (I.of .i64 0) (I.ofNat .i64 (a0G p.1.pr.posters)) = decide (0 < p.1.pr.posters.length):=a2M (n:=0) (m:=p.1.pr.posters.length) (by omega) (by omega)
    refine Wp.brn (fun g=>?_) (fun _=>hgo _ _ _ _ rfl rfl)
    have g:I.ltb (I.of .i64 0) (I.ofNat .i64 (a0G p.1.pr.posters)) = true:=g
    rw [e3] at g
    have hh:=f6F (n:=p.1.pr.posters.length) k0 (of_decide_eq_true g) (by omega)
    exact Wp.brnT hh.1 (Wp.brnT hh.2 (hgo _ _ _ _ (c2G _ _ _) rfl))
   refine Wp.brn (fun _=>?_) (fun _=>?_)
   ·
    have e3:I.ltb (I.of .i64 0) (I.ofNat .i64 (a0G p.1.pr.posters)) = decide (0 < p.1.pr.posters.length):=a2M (n:=0) (m:=p.1.pr.posters.length) (by omega) (by omega)
    refine Wp.brn (fun g=>?_) (fun _=>hgo _ _ _ _ rfl rfl)
    have g:I.ltb (I.of .i64 0) (I.ofNat .i64 (a0G p.1.pr.posters)) = true:=g
    rw [e3] at g
    have hh:=f6F (n:=p.1.pr.posters.length) k0 (of_decide_eq_true g) (by omega)
    have hset:∀ v:a0A,I.nz (I.ofNat .i64 (a0G (b6Q p.1.pr.posters (I.nat (I.rem (I.quo k (I.of .i64 16)) (I.ofNat .i64 (a0G p.1.pr.posters)))) v))) = true∧inB (I.rem (I.quo k (I.of .i64 16)) (I.ofNat .i64 (a0G (b6Q p.1.pr.posters (I.nat (I.rem (I.quo k (I.of .i64 16)) (I.ofNat .i64 (a0G p.1.pr.posters)))) v)))) (a0G (b6Q p.1.pr.posters (I.nat (I.rem (I.quo k (I.of .i64 16)) (I.ofNat .i64 (a0G p.1.pr.posters)))) v)) = true:=by
     intro v
     rw [a6F,a6F,c2G]
     exact hh
    exact Wp.brnT hh.1 (Wp.brnT hh.2 (Wp.brnT (hset _).1 (Wp.brnT (hset _).2 (hgo _ _ _ _ ((c2G _ _ _).trans (c2G _ _ _)) rfl))))
   exact Wp.brn (fun _=>hgo _ _ _ _ rfl rfl) (fun _=>hgo _ _ _ _ rfl rfl)
 ·
  intro j hj
  refine Wp.jn (fun x=>∃ g:Bool,(g = false→(c6G a).length ≤ 20∧(c9S a).length ≤ 20∧(c2D a).length ≤ 20∧c.length ≤ 20)∧x = ((c,(e,(g,()))),(a,(b,(d,()))))) ?_ ?_
  ·
   rintro x ⟨g,hg,rfl⟩
   exact Wp.brn (fun _=>Wp.optF e8R rfl) (fun h=>hj _ ⟨hg h,rfl⟩)
  ·
   intro j2 hj2
   refine Wp.brn (fun _=>hj2 _ ⟨true,(fun h=>by cases h),rfl⟩) (fun h1=>?_)
   refine Wp.brn (fun _=>hj2 _ ⟨true,(fun h=>by cases h),rfl⟩) (fun h2=>?_)
   refine Wp.brn (fun _=>hj2 _ ⟨true,(fun h=>by cases h),rfl⟩) (fun h3=>?_)
   exact hj2 _ ⟨_,fun h4=>⟨d7N (n:=20) ha (by omega) h1,d7N (n:=20) hm (by omega) h2,d7N (n:=20) hp (by omega) h3,d7N (n:=20) hc (by omega) h4⟩,rfl⟩
end Sym
