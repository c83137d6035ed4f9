/- Payments: Apply, the laws that compare with the reference. -/
import Derived.Test.YtojogbnepbblgaaGreatPart5
import Derived.Test.YtojogbnepbblgaaGreatPart3
import Derived.Test.YtojogbnepbblgaaGreatPart4
namespace Sym
open Go
noncomputable def a2U:List Post→List Pay→List Post × I .i64
 | out,[]=>(out,I.of .i64 0)
 | out,q :: r=>if (b2C out q.1 q.2.1).2.val = 0 then a2U (b2C out q.1 q.2.1).1 r else ([],(b2C out q.1 q.2.1).2)
theorem e9A {l:List Post} {a:I .u64} {n:U} (h:(b2C l a n).2.val = 0):(b2C l a n).1.length = l.length:=by
 unfold b2C at h ⊢
 split at h
 ·
  split at h
  ·
   split at h
   ·
    split at h
    ·
     rename_i h1 h2 h3 h4
     rw [if_pos h1,if_pos h2,if_pos h3,if_pos h4]
     show (setAt l _ _).length = _
     rw [a6Q,List.length_set]
    ·
     exact absurd h (by decide)
   ·
    exact absurd h (by decide)
  ·
   exact absurd h (by decide)
 ·
  exact absurd h (by decide)
theorem f3C (l:List Post) (p:List Pay) (hl:l.length ≤ 1073741824) (hp:p.length ≤ 1073741824):b1X K0 ((l,(p,())),()) = some (((a2U l p).1,((a2U l p).2,())),()):=by
 refine Wp.out (T:=fun o=>o = _) ?_
 unfold b1X
 refine Wp.brnT (b0J (by show l.length ≤ _; exact hl)) ?_
 simp only [b0T,a9B,c0I,b4N]
 refine Wp.iter (fun s=>∃ i out,s = ((p,(out,(i6 i,()))),())∧i ≤ p.length∧out.length ≤ 1073741824∧a2U out (p.drop i) = a2U l p) (fun s=>p.length - s.1.2.2.1.val.toNat) ?_ ⟨0,l,rfl,by omega,hl,rfl⟩ ?_
 ·
  rintro s ⟨i,out,rfl,hi,ho,he⟩
  simp only [a3A (show i < 9223372036854775808 by omega) (show p.length < 9223372036854775808 by omega),a3N (show i < 9223372036854775808 by omega),a4C (show i + 1 < 9223372036854775808 by omega)]
  refine Wp.brn (fun hc=>?_) (fun hc=>?_)
  ·
   have hc:=of_decide_eq_true hc
   have bi:inB (i6 i) p.length = true:=a3S (by omega) (by omega)
   refine Wp.brnT bi (Wp.brnT bi ?_)
   rw [List.drop_eq_getElem_cons hc,← a3X dY p i hc] at he
   simp only [a2U] at he
   refine Wp.optF (e8T out _ _ ho) ?_
   refine Wp.brn (fun h=>?_) (fun h=>?_)
   ·
    have h:=iff_neb.1 h
    have h:¬ (b2C out (rdL dY p i).1 (rdL dY p i).2.1).2.val = 0:=h
    rw [if_neg h] at he
    rw [← he]
    exact Wp.done rfl
   ·
    have h:=niff_neb.1 h
    have h:(b2C out (rdL dY p i).1 (rdL dY p i).2.1).2.val = 0:=h
    rw [if_pos h] at he
    exact Wp.again ⟨i + 1,_,rfl,by omega,by rw [e9A h]; exact ho,he⟩ (by show p.length - (i6 (i + 1)).val.toNat < p.length - (i6 i).val.toNat; rw [a0V (by omega),a0V (by omega)]; omega)
  ·
   have hc:=of_decide_eq_false hc
   rw [List.drop_eq_nil_iff.2 (by omega)] at he
   refine Wp.done ?_
   rw [← he]
   rfl
 ·
  rw [a7S]
  show p.length - _ < _
  omega
theorem g3M {n:Nat} {X:Type} {l:List X} (h:l.length ≤ LIM) (hn:n < 1000000) (hc:I.ltb (I.of .i64 (n:Int)) (I.ofNat .i64 (a0I l)) = false):l.length ≤ n:=by
 have h:l.length ≤ 140737488355328:=h
 rw [g9G,a9B,b0T,a3A (by omega) (by omega)] at hc
 have:=of_decide_eq_false hc
 omega
end Sym

/- Payments: the law of sums and of Apply. -/
namespace Sym
open Go
end Sym

/- Payments: what a plan pays, and what the table is behind it. -/
namespace Sym
open Go
theorem f0B {l m:List Nat} (h:l.Perm m):a9I l = a9I m:=by
 induction h with
 | nil=>rfl
 | cons x _ ih=>simp only [a9I,List.foldr_cons] at *; omega
 | swap x y l=>simp only [a9I,List.foldr_cons]; omega
 | trans _ _ ih1 ih2=>exact ih1.trans ih2
theorem ow_iff {p:Post}:ow p = true ↔ b8B p ≠ 0:=by
 unfold ow
 rw [h2H]
 simp [b8B]
theorem e7L (l:List Post):a9I ((l.filter ow).map b8B) = a9I (l.map b8B):=by
 induction l with
 | nil=>rfl
 | cons p l ih =>
  rw [List.filter_cons]
  split
  ·
   simp only [a9I,List.map_cons,List.foldr_cons] at *; omega
  ·
   rename_i h
   have:b8B p = 0:=by
    have:=mt ow_iff.2 h
    omega
   simp only [a9I,List.map_cons,List.foldr_cons] at *; omega
noncomputable abbrev ord (x:List Post):List Post:=(d4D x).map (·.1)
theorem g0L (x:List Post):a9I ((ord x).map b8B) = a9I (x.map b8B):=by
 rw [← e7L x]
 exact f0B ((c3X x).map b8B)
theorem g1B {x:List Post} {p:Post} (h:p ∈ ord x):p ∈ x∧ow p = true:=List.mem_filter.1 ((c3X x).mem_iff.1 h)
theorem f0T {x:List Post} (hx:TableOk x):(ord x).Pairwise fun p q=>Post.addr p ≠ Post.addr q:=by
 have h:=(table_iff.1 hx).2.2
 have h2:(x.filter ow).Pairwise fun p q=>Post.addr p ≠ Post.addr q:=(h.filter ow).imp fun {p q} hlt e=>by rw [e] at hlt; omega
 exact (List.Perm.pairwise_iff (fun {p q} h e=>h e.symm) (c3X x)).2 h2
theorem e5L:∀ (o:List Post) (n:Nat),n < U.top→a9I ((b2T o n).map amt) = min n (a9I (o.map b8B))
 | [],n,_=>by simp [b2T,a9I]
 | p :: r,n,hn=>by
  simp only [b2T]
  split
  ·
   rename_i h
   subst h
   simp [a9I]
  ·
   have ih:=e5L r (n - min (b8B p) n) (by omega)
   have hv:(U.of (min (b8B p) n)).val = min (b8B p) n:=U.val_of (by omega)
   have:amt (p.addr,(U.of (min (b8B p) n),())) = min (b8B p) n:=hv
   simp only [a9I,List.map_cons,List.foldr_cons,this] at *
   omega
theorem f0V:∀ (l:List Post) (k:Nat) (v:Post),k < l.length→a9I ((setAt l k v).map b8B) + b8B (rdL dP l k) = a9I (l.map b8B) + b8B v
 | [],k,v,h=>by simp at h
 | p :: l,0,v,_=>by simp only [setAt,rdL,a9I,List.map_cons,List.foldr_cons]; omega
 | p :: l,k + 1,v,h=>by
  have:=f0V l k v (by simpa using h)
  simp only [setAt,rdL,a9I,List.map_cons,List.foldr_cons] at *
  omega
theorem f4Z {out:List Post} (h:TableOk out) {p:Post} (hp:p ∈ out):atN out p.addr < out.length∧rdL dP out (atN out p.addr) = p:=by
 obtain ⟨k,hk,rfl⟩:=b9H dP hp
 have e:atN out (Post.addr (rdL dP out k)) = k:=f9J hk (iff_eqb.2 rfl) (fun j hj=>niff_eqb.2 (by have:=h.lt k hk j hj; omega))
 rw [e]
 exact ⟨hk,rfl⟩
theorem e9O {out:List Post} (h:TableOk out) {i j:Nat} (hi:i < out.length) (hj:j < out.length) (e:Post.addr (rdL dP out i) = Post.addr (rdL dP out j)):i = j:=by
 rcases Nat.lt_trichotomy i j with h1 | h1 | h1
 ·
  have:=h.lt j hj i h1; rw [e] at this; omega
 ·
  exact h1
 ·
  have:=h.lt i hi j h1; rw [e] at this; omega
theorem d4X:∀ (o:List Post) (n:Nat) (out:List Post),n < U.top→TableOk out→(∀ p ∈ o,p ∈ out∧ow p = true)→(o.Pairwise fun p q=>Post.addr p ≠ Post.addr q) →
  (a2U out (b2T o n)).2 = I.of .i64 4 ∨ ((a2U out (b2T o n)).2 = I.of .i64 0∧TableOk (a2U out (b2T o n)).1∧(a2U out (b2T o n)).1.length = out.length ∧
   (∀ i,Post.addr (rdL dP (a2U out (b2T o n)).1 i) = Post.addr (rdL dP out i)) ∧
   a9I ((a2U out (b2T o n)).1.map b8B) + a9I ((b2T o n).map amt) = a9I (out.map b8B) ∧
   (∀ i,(∀ p ∈ o,Post.addr p ≠ Post.addr (rdL dP out i))→rdL dP (a2U out (b2T o n)).1 i = rdL dP out i) ∧
   (∀ t,t + 1 < (b2T o n).length→∀ i,i < out.length→Post.addr (rdL dP out i) = Post.addr (rdL dP o t)→b8B (rdL dP (a2U out (b2T o n)).1 i) = 0))
 | [],n,out,_,ht,_,_=>.inr ⟨rfl,ht,rfl,fun _=>rfl,by simp [b2T,a2U,a9I],fun _ _=>rfl,fun t h=>by simp [b2T] at h⟩
 | p :: r,n,out,hn,ht,hin,hap=>by
  by_cases h0:n = 0
  ·
   subst h0
   rw [c8L]
   exact .inr ⟨rfl,ht,rfl,fun _=>rfl,by simp [a2U,a9I],fun _ _=>rfl,fun t h=>by simp at h⟩
  ·
   have hpl:b2T (p :: r) n = (p.addr,(U.of (min (b8B p) n),())) :: b2T r (n - min (b8B p) n):=if_neg h0
   rw [hpl]
   simp only [a2U]
   have ⟨hk,hkp⟩:=f4Z ht (hin p (by simp)).1
   obtain ⟨m,hm⟩:∃ m,m = min (b8B p) n:=⟨_,rfl⟩
   rw [← hm]
   have hmv:(U.of m).val = m:=U.val_of (by omega)
   have hmd:m ≤ b8B p:=by omega
   have hst:b2C out p.addr (U.of m) = if (Post.paid p).val + m < U.top then (setAt out (atN out p.addr) (settled p (U.of m)),I.of .i64 0) else ([],I.of .i64 4):=by
    unfold b2C
    rw [if_pos (tabB_t.2 ht),if_pos hk,hkp,hmv,if_pos (show m ≤ (Post.due p).val from hmd)]
   rw [hst]
   by_cases hpd:(Post.paid p).val + m < U.top
   ·
    rw [if_pos hpd]
    simp only [show (I.of .i64 0).val = 0 from rfl,if_true]
    obtain ⟨k,hkk⟩:∃ k,k = atN out p.addr:=⟨_,rfl⟩
    rw [← hkk] at hk hkp ⊢
    have hT:TableOk (setAt out k (settled p (U.of m))):=f8V ht hk (e6Y ((table_iff.1 ht).2.1 p (hin p (by simp)).1) (by rw [hmv]; exact hmd) (by rw [hmv]; exact hpd)) (by rw [hkp]; rfl)
    have ⟨hap1,hap2⟩:=List.pairwise_cons.1 hap
    have hlen:(setAt out k (settled p (U.of m))).length = out.length:=by rw [a6Q,List.length_set]
    have haddr:∀ i,Post.addr (rdL dP (setAt out k (settled p (U.of m))) i) = Post.addr (rdL dP out i):=by
     intro i
     rw [b5D]
     split
     ·
      rename_i e
      rw [e.1,hkp]
      rfl
     ·
      rfl
    have hin':∀ q ∈ r,q ∈ setAt out k (settled p (U.of m))∧ow q = true:=by
     intro q hq
     have ⟨h1,h2⟩:=hin q (List.mem_cons_of_mem _ hq)
     refine ⟨?_,h2⟩
     obtain ⟨i,hi,e⟩:=b9H dP h1
     have hik:i ≠ k:=by
      rintro rfl
      rw [hkp] at e
      exact hap1 q hq (by rw [e])
     have:rdL dP (setAt out k (settled p (U.of m))) i = q:=by rw [b5D,if_neg (by omega),e]
     rw [← this]
     exact b7E dP _ i (by rw [hlen]; exact hi)
    have hsum:=f0V out k (settled p (U.of m)) hk
    rw [hkp] at hsum
    have hdn:b8B (settled p (U.of m)) = b8B p - m:=by
     show (U.of ((Post.due p).val - (U.of m).val)).val = _
     rw [hmv,U.val_of (by have:=U.lt (Post.due p); omega)]
     rfl
    have ham:amt (p.addr,(U.of m,())) = m:=hmv
    rcases d4X r (n - m) (setAt out k (settled p (U.of m))) (by omega) hT hin' hap2 with h | ⟨g1,g2,g3,g4,g5,g6,g7⟩
    ·
     exact .inl h
    ·
     refine .inr ⟨g1,g2,g3.trans hlen,fun i=>(g4 i).trans (haddr i),?_,fun i hi=>?_,fun t htl i hi he=>?_⟩
     ·
      simp only [List.map_cons,ham]
      have:a9I (m :: (b2T r (n - m)).map amt) = m + a9I ((b2T r (n - m)).map amt):=rfl
      rw [this]
      omega
     ·
      rw [g6 i (fun q hq=>by rw [haddr]; exact hi q (List.mem_cons_of_mem _ hq)),b5D,if_neg]
      rintro ⟨rfl,_⟩
      exact hi p (by simp) (by rw [hkp])
     ·
      cases t with
      | zero =>
       have hr:0 < (b2T r (n - m)).length:=by simpa using htl
       have hmn:m ≠ n:=by
        rintro rfl
        rw [Nat.sub_self,c8L] at hr
        simp at hr
       have hmd:m = b8B p:=by omega
       have hik:i = k:=e9O ht hi hk (by rw [he,hkp]; rfl)
       subst hik
       have hpr:∀ q ∈ r,Post.addr q ≠ Post.addr (rdL dP (setAt out i (settled p (U.of m))) i):=fun q hq=>by
        rw [haddr,hkp]
        exact fun e=>hap1 q hq e.symm
       rw [g6 i hpr,b5D,if_pos ⟨rfl,hk⟩,hdn]
       omega
      | succ t =>
       exact g7 t (by simpa using htl) i (by rw [hlen]; exact hi) (by rw [haddr]; exact he)
   ·
    rw [if_neg hpd]
    exact .inl rfl
end Sym

/- Payments: a greater pool pays nobody less. -/
namespace Sym
open Go
theorem f4S {x:List Post} (hx:TableOk x) (n:U):f6L x n = (b2T (ord x) n.val,I.of .i64 0):=if_pos (tabB_t.2 hx)
theorem g0F (x:List Post):(ord x).length ≤ x.length:=by rw [List.length_map]; exact d9G x
end Sym

/- Payments: the oldest debts first. -/
namespace Sym
open Go
end Sym

/- Payments: the payments total the smaller of the pool and the debts. -/
namespace Sym
open Go
end Sym

/- The length of a number in bits. -/
namespace Sym
open Go
def Bits (n k:Nat):Prop:=∀ m,k ≤ m ↔ n < 2 ^ m
theorem Bits.zero:Bits 0 0:=fun m=>⟨fun _=>Nat.pow_pos (by decide),fun _=>Nat.zero_le _⟩
end Sym

/- Pricer: the length of a number, who is found, shares of units. -/
namespace Sym
open Go
theorem Wp.jnI {X R:Type} {T:R→Prop} {J:X→R} {f:(X→R)→R} (h:Wp T (f J)):Wp T (Sym.jn J f):=h
def b7T (units last upto now:I .u64):Nat:=if now.nat = last.nat then units.nat else units.nat * (upto.nat - last.nat) / (now.nat - last.nat)
theorem e9Z {n:Nat} (h:n < 18446744073709551616):(U.of n).1 = I.of .u64 (n:Int):=by
 show I.of .u64 ((n % 18446744073709551616:Nat):Int) = _
 rw [Nat.mod_eq_of_lt h]
theorem d1H {x y:I .u64}:I.eqb x y = decide (x.nat = y.nat):=by
 have:=a2A x
 have:=a2A y
 by_cases h:x.nat = y.nat
 ·
  rw [decide_eq_true h]; exact iff_eqb.2 (by omega)
 ·
  rw [decide_eq_false h]; exact niff_eqb.2 (by omega)
theorem sub_nat_le' (a b:I .u64) (h:b.nat ≤ a.nat):(I.sub a b).nat = a.nat - b.nat:=by
 have:=a2A a
 have:=a2A b
 have:=f3F (a:=a) (b:=b) (by omega)
 have:=a2A (I.sub a b)
 omega
theorem d3D {units last upto now:I .u64} (h1:last.nat ≤ upto.nat) (h2:upto.nat ≤ now.nat):b7T units last upto now ≤ units.nat:=by
 unfold b7T
 split
 ·
  omega
 ·
  refine Nat.div_le_of_le_mul ?_
  rw [Nat.mul_comm]
  exact Nat.mul_le_mul_right _ (by omega)
end Sym

/- Pricer: what its functions compute. -/
namespace Sym
open Go
abbrev PrT:Type:=a5K
abbrev PrT.price (s:PrT):U:=s.1
abbrev PrT.units (s:PrT):I .u64:=s.2.1
abbrev PrT.last (s:PrT):I .u64:=s.2.2.1
abbrev PrT.reports (s:PrT):I .u64:=s.2.2.2.1
abbrev PrT.surplus (s:PrT):S:=s.2.2.2.2.1
abbrev PrT.posters (s:PrT):List Post:=s.2.2.2.2.2.1
abbrev RepT:Type:=b4Q
abbrev f5L:Type:=d0H
def Prm.rpu (p:Prm):U:=p.2.2.2.2.2.2.2.1
noncomputable def f8J (l:List Post) (n:I .u64):Bool:=l.all fun p=>decide ((Post.since p).nat ≤ n.nat)
noncomputable def prV (s:PrT):Bool:=f8J s.posters s.reports && (c4V s.posters && a9F s.surplus)
theorem prV_t {s:PrT}:prV s = true ↔ (∀ p ∈ s.posters,(Post.since p).nat ≤ s.reports.nat)∧TableOk s.posters∧a9F s.surplus = true:=by
 unfold prV f8J
 simp only [Bool.and_eq_true,List.all_eq_true,decide_eq_true_eq,tabB_t]
noncomputable def b9K (p:Post) (c w:U) (since:I .u64):Post :=
 (p.1,(U.of (p.due.val + (c.val + w.val)),(U.of (p.costs.val + c.val),(U.of (p.rewards.val + w.val),(p.paid,((if p.due.val = 0∧0 < p.due.val + (c.val + w.val) then since else p.since),()))))))
def e2A (p:Post) (c w:U):Prop:=p.due.val + (c.val + w.val) < U.top∧p.costs.val + c.val < U.top∧p.rewards.val + w.val < U.top
open Classical in
noncomputable def b7C (l:List Post) (a:I .u64) (c w:U) (since:I .u64):List Post × I .i64 :=
 if e2A (rdL dP l (atN l a)) c w then (setAt l (atN l a) (b9K (rdL dP l (atN l a)) c w since),I.of .i64 0) else ([],I.of .i64 4)
theorem e9I {n:Nat}:I.neb (c3R n).2 (I.of .i64 0) = decide (¬ n < U.top):=by
 by_cases h:n < U.top
 ·
  rw [c4A h,decide_eq_false (by simpa using h)]; rfl
 ·
  rw [d7A (by omega),decide_eq_true h]; rfl
end Sym

/- Pricer: a report. -/
namespace Sym
open Go
abbrev RepT.from' (r:RepT):I .u64:=r.1
abbrev RepT.upto (r:RepT):I .u64:=r.2.1
abbrev RepT.cost (r:RepT):U:=r.2.2.1
abbrev c6H:Nat:=340282366920938463463374607431768211456
noncomputable def c5P (s:PrT) (p:Prm) (r:RepT) (now:I .u64):I .i64 :=
 if prV s = true then
  if a6W p = true then
   if atN s.posters r.from' < s.posters.length then
    if s.last.nat ≤ r.upto.nat∧r.upto.nat ≤ now.nat then
     if r.cost.val < c6H then
      if s.reports.nat = 18446744073709551615 then I.of .i64 4 else I.of .i64 0
     else I.of .i64 2
    else I.of .i64 14
   else I.of .i64 8
  else I.of .i64 15
 else I.of .i64 2
theorem g2W {n k:Nat} (h:Bits n k) (hk:k ≤ 256):I.ltb (I.of .i64 128) (i6 k) = decide (¬ n < c6H):=by
 have e:I.of .i64 128 = i6 128:=rfl
 rw [e,a3A (by omega) (by omega)]
 have:=h 128
 have e2:(2:Nat) ^ 128 = c6H:=by decide
 rw [e2] at this
 by_cases hc:n < c6H
 ·
  rw [decide_eq_false (by omega),decide_eq_false (by simpa using hc)]
 ·
  rw [decide_eq_true (by omega),decide_eq_true hc]
noncomputable abbrev zPr:PrT:=(Z_U,((I.of .u64 0),((I.of .u64 0),((I.of .u64 0),(a2V,([],()))))))
noncomputable abbrev g3Q:f5L:=(I.of .u64 0,(Z_U,([],())))
def c3S (s:PrT) (r:RepT) (now:I .u64):Nat:=b7T s.units s.last r.upto now
noncomputable def c4F (pool:U) (l:List Post) (pay:List Pay):S:=S.of (((pool.val - a9I (pay.map amt):Nat):Int) - (a9I (l.map b8B):Int))
open Classical in
noncomputable def c6F (s:PrT) (p:Prm) (pool:U) (t:f5L):PrT × I .i64 :=
 if a9I (s.posters.map b8B) < U.top then
  if t.1.nat = 0 then (s,I.of .i64 0)
  else if I.neb (c2M s.price (c4F pool s.posters t.2.2.1) s.surplus t.1 p).2 (I.of .i64 0) = true then (zPr,(c2M s.price (c4F pool s.posters t.2.2.1) s.surplus t.1 p).2)
  else (((c2M s.price (c4F pool s.posters t.2.2.1) s.surplus t.1 p).1,(s.units,(s.last,(s.reports,(c4F pool s.posters t.2.2.1,(s.posters,())))))),I.of .i64 0)
 else (zPr,I.of .i64 4)
end Sym

/- Pricer: a report as a whole. -/
namespace Sym
open Go
theorem d5W {l:List Post} {a:I .u64} {c w:U} {since:I .u64} (hT:TableOk l) (hf:atN l a < l.length) (hs:since.nat ≠ 0) :
  ((b7C l a c w since).2 = I.of .i64 4∧(b7C l a c w since).1 = []) ∨
  ((b7C l a c w since).2 = I.of .i64 0∧e2A (rdL dP l (atN l a)) c w∧(b7C l a c w since).1 = setAt l (atN l a) (b9K (rdL dP l (atN l a)) c w since)∧TableOk (b7C l a c w since).1):=by
 unfold b7C
 split
 ·
  rename_i h
  refine .inr ⟨rfl,h,rfl,?_⟩
  have hv:=a2A since
  refine f8V hT hf ?_ rfl
  refine e7V (hT.2 _ hf).1 c w since (by omega) h.1 h.2.1 h.2.2 _ ?_
  by_cases hd:(Post.due (rdL dP l (atN l a))).val = 0∧0 < (Post.due (rdL dP l (atN l a))).val + (c.val + w.val)
  ·
   rw [if_pos hd]; exact .inl ⟨rfl,hd.1,hd.2⟩
  ·
   rw [if_neg hd]; exact .inr ⟨rfl,hd⟩
 ·
  exact .inl ⟨rfl,rfl⟩
noncomputable def b4M (s:PrT) (p:Prm) (r:RepT) (now:I .u64):List Post × I .i64:=b7C s.posters r.from' r.cost (U.of (p.rpu.val * c3S s r now)) (I.add s.reports (I.of .u64 1))
noncomputable def a2D (l:List Post) (pool:U):List Pay:=b2T (ord l) pool.val
noncomputable def c1G (s:PrT) (l:List Post):PrT:=(s.price,(s.units,(s.last,(I.add s.reports (I.of .u64 1),(s.surplus,(l,()))))))
noncomputable def b8S (s:PrT) (p:Prm) (r:RepT) (now:I .u64) (pay:List Pay):f5L:=(I.of .u64 (c3S s r now:Int),(U.of (p.rpu.val * c3S s r now),(pay,())))
noncomputable def g6C (s:PrT) (n:Nat) (r:RepT) (q:PrT):PrT:=(q.1,(I.sub q.2.1 (I.of .u64 (n:Int)),(r.upto,q.2.2.2)))
noncomputable def b3M (s:PrT) (p:Prm) (pool:U) (r:RepT) (now:I .u64):PrT × f5L × I .i64 :=
 if (c5P s p r now).val = 0 then
  if p.rpu.val * c3S s r now < U.top then
   if (b4M s p r now).2.val = 0 then
    if (a2U (b4M s p r now).1 (a2D (b4M s p r now).1 pool)).2.val = 0 then
     if (c6F (c1G s (a2U (b4M s p r now).1 (a2D (b4M s p r now).1 pool)).1) p pool (b8S s p r now (a2D (b4M s p r now).1 pool))).2.val = 0 then
      (g6C s (c3S s r now) r (c6F (c1G s (a2U (b4M s p r now).1 (a2D (b4M s p r now).1 pool)).1) p pool (b8S s p r now (a2D (b4M s p r now).1 pool))).1,b8S s p r now (a2D (b4M s p r now).1 pool),I.of .i64 0)
     else (zPr,g3Q,I.of .i64 4)
    else (zPr,g3Q,I.of .i64 4)
   else (zPr,g3Q,I.of .i64 4)
  else (zPr,g3Q,I.of .i64 4)
 else (zPr,g3Q,c5P s p r now)
structure Chk (s:PrT) (p:Prm) (r:RepT) (now:I .u64):Prop where
 since:∀ q ∈ s.posters,(Post.since q).nat ≤ s.reports.nat
 tab:TableOk s.posters
 sur:a9F s.surplus = true
 par:a6W p = true
 fnd:atN s.posters r.from' < s.posters.length
 lo:s.last.nat ≤ r.upto.nat
 hi:r.upto.nat ≤ now.nat
 cost:r.cost.val < c6H
 cnt:s.reports.nat < 18446744073709551615
theorem d5J {s:PrT} {p:Prm} {r:RepT} {now:I .u64} (h:(c5P s p r now).val = 0):Chk s p r now:=by
 unfold c5P at h
 split at h
 ·
  rename_i h1
  split at h
  ·
   rename_i h2
   split at h
   ·
    rename_i h3
    split at h
    ·
     rename_i h4
     split at h
     ·
      rename_i h5
      split at h
      ·
       exact absurd h (by decide)
      ·
       rename_i h6
       have ⟨a,b,c⟩:=prV_t.1 h1
       have:=a3I s.reports
       exact ⟨a,b,c,h2,h3,h4.1,h4.2,h5,by omega⟩
     ·
      exact absurd h (by decide)
    ·
     exact absurd h (by decide)
   ·
    exact absurd h (by decide)
  ·
   exact absurd h (by decide)
 ·
  exact absurd h (by decide)
theorem d2R {s:PrT} {p:Prm} {r:RepT} {now:I .u64} (h:Chk s p r now):(I.add s.reports (I.of .u64 1)).nat = s.reports.nat + 1:=by
 have:=h.cnt
 have:=a2A s.reports
 have h1:(I.of .u64 1).val = 1:=rfl
 have:=f3D (a:=s.reports) (b:=I.of .u64 1) (by omega)
 have:=a2A (I.add s.reports (I.of .u64 1))
 omega
theorem d4O (l:List Post) (pool:U):(a2D l pool).length ≤ l.length:=Nat.le_trans (e1K _ _) (g0F l)
theorem d4S (l:List Post) (pool:U):a9I ((a2D l pool).map amt) = min pool.val (a9I (l.map b8B)):=by
 unfold a2D
 rw [e5L (ord l) pool.val pool.lt,g0L]
theorem e1A {l:List Post} (hT:TableOk l) (pool:U) :
  (a2U l (a2D l pool)).2 = I.of .i64 4 ∨ ((a2U l (a2D l pool)).2 = I.of .i64 0∧TableOk (a2U l (a2D l pool)).1∧(a2U l (a2D l pool)).1.length = l.length ∧
   (∀ i,Post.addr (rdL dP (a2U l (a2D l pool)).1 i) = Post.addr (rdL dP l i))∧a9I ((a2U l (a2D l pool)).1.map b8B) + a9I ((a2D l pool).map amt) = a9I (l.map b8B)):=by
 rcases d4X (ord l) pool.val l pool.lt hT (fun p hp=>g1B hp) (f0T hT) with h | ⟨h1,h2,h3,h4,h5,_,_⟩
 ·
  exact .inl h
 ·
  exact .inr ⟨h1,h2,h3,h4,h5⟩
theorem b5W:(I.of .i64 4).val ≠ 0:=by decide
end Sym

/- Pricer: posters and units added. -/
namespace Sym
open Go
noncomputable def f8D (a:I .u64):Post:=(a,(Z_U,(Z_U,(Z_U,(Z_U,((I.of .u64 0),()))))))
noncomputable def d0K:List Post→I .u64→List Post
 | [],a=>[f8D a]
 | p :: r,a=>if (Post.addr p).nat < a.nat then p :: d0K r a else f8D a :: p :: r
theorem f2M {l:List Post} {a:I .u64} {i:Nat} (hi:i < l.length) (h:(Post.addr (rdL dP l i)).nat < a.nat):d0K (l.drop i) a = rdL dP l i :: d0K (l.drop (i + 1)) a:=by
 rw [List.drop_eq_getElem_cons hi,← a3X dP l i hi]
 exact if_pos h
theorem f1N {l:List Post} {a:I .u64} {i:Nat} (hi:i < l.length) (h:¬ (Post.addr (rdL dP l i)).nat < a.nat):d0K (l.drop i) a = f8D a :: l.drop i:=by
 rw [List.drop_eq_getElem_cons hi,← a3X dP l i hi]
 exact if_neg h
theorem d0T:∀ {l:List Post} {a:I .u64} {p:Post},p ∈ d0K l a→p = f8D a ∨ p ∈ l
 | [],a,p,h=>by simp only [d0K,List.mem_singleton] at h; exact .inl h
 | q :: r,a,p,h=>by
  unfold d0K at h
  split at h
  ·
   rcases List.mem_cons.1 h with rfl | h
   ·
    exact .inr (List.mem_cons_self ..)
   ·
    rcases d0T h with h | h
    ·
     exact .inl h
    ·
     exact .inr (List.mem_cons_of_mem _ h)
  ·
   rcases List.mem_cons.1 h with rfl | h
   ·
    exact .inl rfl
   ·
    exact .inr h
theorem d8J:∀ (l:List Post) (a:I .u64),(d0K l a).length = l.length + 1
 | [],a=>rfl
 | p :: r,a=>by
  unfold d0K
  split
  ·
   simp [d8J r a]
  ·
   rfl
theorem d2X:∀ {l:List Post} {a:I .u64},(l.Pairwise fun p q=>(Post.addr p).val < (Post.addr q).val)→(∀ p ∈ l,(Post.addr p).val ≠ a.val)→(d0K l a).Pairwise fun p q=>(Post.addr p).val < (Post.addr q).val
 | [],a,_,_=>by simp [d0K]
 | p :: r,a,h,hn=>by
  have hp:=hn p (List.mem_cons_self ..)
  have ⟨h1,h2⟩:=List.pairwise_cons.1 h
  have e1:=a2A (Post.addr p)
  have e2:=a2A a
  unfold d0K
  split
  ·
   rename_i hlt
   refine List.pairwise_cons.2 ⟨fun q hq=>?_,d2X h2 fun q hq=>hn q (List.mem_cons_of_mem _ hq)⟩
   rcases d0T hq with rfl | hq
   ·
    show (Post.addr p).val < a.val; omega
   ·
    exact h1 q hq
  ·
   rename_i hge
   refine List.pairwise_cons.2 ⟨fun q hq=>?_,h⟩
   show a.val < _
   rcases List.mem_cons.1 hq with rfl | hq
   ·
    omega
   ·
    have:=h1 q hq; omega
theorem g2B {l:List Post} {a:I .u64} (hT:TableOk l) (ha:a.nat ≠ 0) (hf:¬ atN l a < l.length) (h64:l.length ≠ 64):TableOk (d0K l a):=by
 have ⟨h1,h2,h3⟩:=table_iff.1 hT
 have hv:=a2A a
 refine table_iff.2 ⟨by rw [d8J]; omega,fun p hp=>?_,d2X h3 fun p hp=>?_⟩
 ·
  rcases d0T hp with rfl | hp
  ·
   exact g2Z (by omega)
  ·
   exact h2 p hp
 ·
  obtain ⟨k,hk,rfl⟩:=b9H dP hp
  exact e4I hf k hk
open Classical in
noncomputable def c6Z (l:List Post) (a:I .u64):List Post × I .i64 :=
 if c4V l = true∧a.nat ≠ 0 then
  if atN l a < l.length then ([],I.of .i64 9)
  else if l.length = 64 then ([],I.of .i64 7) else (d0K l a,I.of .i64 0)
 else ([],I.of .i64 2)
theorem f9P {l:List Post} {a:I .u64} (hl:l.length ≤ 1073741824):I.leb (I.of .i64 0) (atI l a) = decide (atN l a < l.length):=by
 have:=d7N (l:=l) (a:=a) hl
 by_cases h:atN l a < l.length
 ·
  rw [decide_eq_false (by simpa using h)] at this
  rw [decide_eq_true h]
  exact iff_leb.2 (niff_ltb.1 this)
 ·
  rw [decide_eq_true h] at this
  rw [decide_eq_false h]
  exact niff_leb.2 (iff_ltb.1 this)
open Classical in
noncomputable def a5Z (s:PrT) (a:I .u64):PrT × I .i64 :=
 if prV s = true then
  if (c6Z s.posters a).2.val = 0 then ((s.price,(s.units,(s.last,(s.reports,(s.surplus,((c6Z s.posters a).1,())))))),I.of .i64 0)
  else (zPr,(c6Z s.posters a).2)
 else (zPr,I.of .i64 2)
noncomputable def a4F (s:PrT) (n:I .u64):PrT × I .i64 :=
 if prV s = true then
  if s.units.nat + n.nat < 18446744073709551616 then ((s.price,(I.of .u64 ((s.units.nat + n.nat:Nat):Int),s.2.2)),I.of .i64 0)
  else (zPr,I.of .i64 4)
 else (zPr,I.of .i64 2)
end Sym

/- Pricer: what an accepted report has done. -/
namespace Sym
open Go
theorem d4J {Q:Post→Prop} (hQ:∀ p n,Q p→Q (settled p n)):∀ (ps:List Pay) (l:List Post),(∀ q ∈ l,Q q)→∀ q ∈ (a2U l ps).1,Q q
 | [],l,h=>h
 | y :: ps,l,h=>by
  simp only [a2U]
  split
  ·
   refine d4J hQ ps _ fun q hq=>?_
   unfold b2C at hq
   split at hq
   ·
    split at hq
    ·
     split at hq
     ·
      split at hq
      ·
       obtain ⟨i,hi,rfl⟩:=b9H dP hq
       rw [b5D]
       split
       ·
        rename_i hk _ _ _
        exact hQ _ _ (h _ (b7E dP l _ hk))
       ·
        refine h _ (b7E dP l _ ?_)
        have:(setAt l (atN l y.1) (settled (rdL dP l (atN l y.1)) y.2.1)).length = l.length:=by rw [a6Q,List.length_set]
        rw [← this]; exact hi
      ·
       cases hq
     ·
      cases hq
    ·
     cases hq
   ·
    cases hq
  ·
   intro q hq; cases hq
noncomputable def a9M (s:PrT) (p:Prm) (r:RepT) (now:I .u64):List Post :=
 setAt s.posters (atN s.posters r.from') (b9K (rdL dP s.posters (atN s.posters r.from')) r.cost (U.of (p.rpu.val * c3S s r now)) (I.add s.reports (I.of .u64 1)))
structure RepOk (s:PrT) (p:Prm) (pool:U) (r:RepT) (now:I .u64) (x:PrT) (t:f5L):Prop where
 chk:Chk s p r now
 w:p.rpu.val * c3S s r now < U.top
 fits:e2A (rdL dP s.posters (atN s.posters r.from')) r.cost (U.of (p.rpu.val * c3S s r now))
 tab1:TableOk (a9M s p r now)
 ap:(a2U (a9M s p r now) (a2D (a9M s p r now) pool)).2.val = 0
 tab2:TableOk x.posters
 len:x.posters.length = s.posters.length
 addr:∀ i,Post.addr (rdL dP x.posters i) = Post.addr (rdL dP s.posters i)
 posters:x.posters = (a2U (a9M s p r now) (a2D (a9M s p r now) pool)).1
 due:a9I (x.posters.map b8B) + a9I ((a2D (a9M s p r now) pool).map amt) = a9I ((a9M s p r now).map b8B)
 total:a9I (x.posters.map b8B) < U.top
 units:x.units = I.sub s.units (I.of .u64 (c3S s r now:Int))
 last:x.last = r.upto
 reports:x.reports = I.add s.reports (I.of .u64 1)
 surplus:x.surplus = (if c3S s r now = 0 then s.surplus else c4F pool x.posters (a2D (a9M s p r now) pool))
 price:x.price = (if c3S s r now = 0 then s.price else (c2M s.price (c4F pool x.posters (a2D (a9M s p r now) pool)) s.surplus (I.of .u64 (c3S s r now:Int)) p).1)
 out:t = b8S s p r now (a2D (a9M s p r now) pool)
theorem e3N {s:PrT} {p:Prm} {r:RepT} {now:I .u64} (h:Chk s p r now):c3S s r now ≤ s.units.nat∧(I.of .u64 (c3S s r now:Int)).nat = c3S s r now:=by
 have h1:=d3D (units:=s.units) h.lo h.hi
 have h2:=a3I s.units
 exact ⟨h1,b5P (by unfold c3S; omega)⟩
theorem f7Z {s:PrT} {p:Prm} {pool:U} {r:RepT} {now:I .u64} (h:(b3M s p pool r now).2.2.val = 0):RepOk s p pool r now (b3M s p pool r now).1 (b3M s p pool r now).2.1:=by
 unfold b3M at h ⊢
 by_cases h0:(c5P s p r now).val = 0
 case neg=>rw [if_neg h0] at h; exact absurd h h0
 rw [if_pos h0] at h ⊢
 have hC:=d5J h0
 by_cases hw:p.rpu.val * c3S s r now < U.top
 case neg=>rw [if_neg hw] at h; exact absurd h b5W
 rw [if_pos hw] at h ⊢
 have hcnt:=d2R hC
 have ⟨hn1,hn2⟩:=e3N hC
 have hA:=d5W (c:=r.cost) (w:=U.of (p.rpu.val * c3S s r now)) (since:=I.add s.reports (I.of .u64 1)) hC.tab hC.fnd (by rw [hcnt]; omega)
 rw [show b7C s.posters r.from' r.cost (U.of (p.rpu.val * c3S s r now)) (I.add s.reports (I.of .u64 1)) = b4M s p r now from rfl] at hA
 rcases hA with ⟨hA,_⟩ | ⟨hA,hfit,hl1,hT⟩
 ·
  rw [if_neg (by rw [hA]; exact b5W)] at h; exact absurd h b5W
 rw [if_pos (by rw [hA]; rfl)] at h ⊢
 have hl1:(b4M s p r now).1 = a9M s p r now:=hl1
 rw [hl1] at h ⊢
 rw [hl1] at hT
 rcases e1A hT pool with hB | ⟨hB,hT2,hlen,hadr,hdue⟩
 ·
  rw [if_neg (by rw [hB]; exact b5W)] at h; exact absurd h b5W
 have hB0:(a2U (a9M s p r now) (a2D (a9M s p r now) pool)).2.val = 0:=by rw [hB]; rfl
 rw [if_pos hB0] at h ⊢
 have hl0:(a9M s p r now).length = s.posters.length:=by unfold a9M; rw [a6Q,List.length_set]
 have ha0:∀ i,Post.addr (rdL dP (a9M s p r now) i) = Post.addr (rdL dP s.posters i):=by
  intro i
  unfold a9M
  rw [b5D]
  split
  ·
   rename_i e; rw [e.1]; rfl
  ·
   rfl
 by_cases hD:(c6F (c1G s (a2U (a9M s p r now) (a2D (a9M s p r now) pool)).1) p pool (b8S s p r now (a2D (a9M s p r now) pool))).2.val = 0
 case neg=>rw [if_neg hD] at h; exact absurd h b5W
 rw [if_pos hD] at h ⊢
 have key:a9I ((a2U (a9M s p r now) (a2D (a9M s p r now) pool)).1.map b8B) < U.top ∧
   (c6F (c1G s (a2U (a9M s p r now) (a2D (a9M s p r now) pool)).1) p pool (b8S s p r now (a2D (a9M s p r now) pool))).1 =
    ((if c3S s r now = 0 then s.price else (c2M s.price (c4F pool (a2U (a9M s p r now) (a2D (a9M s p r now) pool)).1 (a2D (a9M s p r now) pool)) s.surplus (I.of .u64 (c3S s r now:Int)) p).1),
     (s.units,(s.last,(I.add s.reports (I.of .u64 1),((if c3S s r now = 0 then s.surplus else c4F pool (a2U (a9M s p r now) (a2D (a9M s p r now) pool)).1 (a2D (a9M s p r now) pool)),((a2U (a9M s p r now) (a2D (a9M s p r now) pool)).1,())))))):=by
  unfold c6F at hD ⊢
  have e1:(c1G s (a2U (a9M s p r now) (a2D (a9M s p r now) pool)).1).posters = (a2U (a9M s p r now) (a2D (a9M s p r now) pool)).1:=rfl
  have e2:(b8S s p r now (a2D (a9M s p r now) pool)).1.nat = c3S s r now:=hn2
  rw [e1] at hD ⊢
  split at hD
  ·
   rename_i hs
   refine ⟨hs,?_⟩
   rw [if_pos hs]
   rw [e2] at hD ⊢
   split at hD
   ·
    rename_i hz
    rw [if_pos hz,if_pos hz,if_pos hz]
    rfl
   ·
    rename_i hz
    rw [if_neg hz,if_neg hz,if_neg hz]
    split at hD
    ·
     rename_i hN
     exact absurd hD (iff_neb.1 hN)
    ·
     rename_i hN
     rw [if_neg hN]
     rfl
  ·
   exact absurd hD b5W
 rw [key.2]
 exact ⟨hC,hw,hfit,hT,hB0,hT2,hlen.trans hl0,fun i=>(hadr i).trans (ha0 i),rfl,hdue,key.1,rfl,rfl,rfl,rfl,rfl,rfl⟩
theorem f2H {s:PrT} {p:Prm} {pool:U} {r:RepT} {now:I .u64} {x:PrT} {t:f5L} (h:RepOk s p pool r now x t):prV x = true:=by
 have hcnt:=d2R h.chk
 refine prV_t.2 ⟨?_,h.tab2,?_⟩
 ·
  rw [h.reports,hcnt,h.posters]
  refine d4J (Q:=fun q=>(Post.since q).nat ≤ s.reports.nat + 1) ?_ _ _ ?_
  ·
   intro q n hq
   show (if _ then I.of .u64 0 else q.since).nat ≤ _
   split
   ·
    exact Nat.zero_le _
   ·
    exact hq
  ·
   intro q hq
   obtain ⟨i,hi,rfl⟩:=b9H dP hq
   unfold a9M at hi ⊢
   rw [a6Q,List.length_set] at hi
   rw [b5D]
   split
   ·
    show (if _ then I.add s.reports (I.of .u64 1) else Post.since _).nat ≤ _
    split
    ·
     rw [hcnt]; exact Nat.le_refl _
    ·
     have:=h.chk.since _ (b7E dP s.posters _ h.chk.fnd)
     exact Nat.le_succ_of_le this
   ·
    have:=h.chk.since _ (b7E dP s.posters i hi)
    omega
 ·
  rw [h.surplus]
  split
  ·
   exact h.chk.sur
  ·
   unfold c4F
   have:=pool.lt
   have:=h.total
   refine S.of_valid ?_
   omega
end Sym

/- Pricer: the reference's parts. -/
namespace Sym
open Go
theorem f6N {n i:Nat}:n % 2 ^ (i + 1) = n % 2 ^ i + 2 ^ i * (n / 2 ^ i % 2):=by
 rw [Nat.pow_succ,Nat.mod_mul]
theorem Bits.top {m i:Nat} (h1:2 ^ i ≤ m) (h2:m < 2 ^ (i + 1)):Bits m (i + 1):=by
 intro k
 constructor
 ·
  intro h; exact Nat.lt_of_lt_of_le h2 (Nat.pow_le_pow_right (by decide) h)
 ·
  intro h
  refine Classical.byContradiction fun hk=>?_
  have:2 ^ k ≤ 2 ^ i:=Nat.pow_le_pow_right (by decide) (by omega)
  omega
theorem e6V (a:U):∃ y,b1Q K0 ((a,()),()) = some y∧∃ k,y = ((i6 k,()),())∧Bits a.val k∧k ≤ 256:=by
 refine Wp.out (T:=fun o=>∃ y,o = some y∧∃ k,y = ((i6 k,()),())∧Bits a.val k∧k ≤ 256) ?_
 unfold b1Q
 have e256:I.of .i64 256 = i6 256:=rfl
 have e64:I.of .i64 64 = i6 64:=rfl
 simp only [c0I,b4N,e256,e64]
 refine Wp.iter (fun s=>∃ i n,s = ((i6 n,(i6 i,())),(a,()))∧i ≤ 256∧n ≤ i∧Bits (a.val % 2 ^ i) n) (fun s=>256 - s.1.2.1.val.toNat) ?_ ⟨0,0,rfl,by omega,by omega,by rw [Nat.pow_zero,Nat.mod_one]; exact Bits.zero⟩ (by rw [a7S]; show 256 - _ < _; omega)
 rintro s ⟨i,n,rfl,hi,hn,hB⟩
 simp only [a3A (show i < 9223372036854775808 by omega) (show 256 < 9223372036854775808 by omega),a4C (show i + 1 < 9223372036854775808 by omega)]
 refine Wp.brn (fun hc=>?_) (fun hc=>?_)
 ·
  have hc:=of_decide_eq_true hc
  have hm:256 - (i6 (i + 1)).val.toNat < 256 - (i6 i).val.toNat:=by rw [a0V (by omega),a0V (by omega)]; omega
  have hq:I.quo (i6 i) (i6 64) = i6 (i / 64):=by
   apply I.ext'
   rw [b9M (by rw [a0V (by omega)]; omega) (by rw [a0V (by omega)]; omega),a0V (by omega),a0V (by omega),a0V (by omega)]
   omega
  have hr:I.rem (i6 i) (i6 64) = i6 (i % 64):=by
   apply I.ext'
   rw [b7H (by rw [a0V (by omega)]; omega) (by rw [a0V (by omega)]; omega),a0V (by omega),a0V (by omega),a0V (by omega)]
   omega
  have hcv:(I.conv (k:=.i64) .u64 (i6 (i % 64))).val = ((i % 64:Nat):Int):=by
   show (I.of .u64 (i6 (i % 64)).val).val = _
   rw [a0V (by omega),b9B (by omega)]
  have hcn:(I.conv (k:=.i64) .u64 (i6 (i % 64))).nat = i % 64:=by
   have:=a2A (I.conv (k:=.i64) .u64 (i6 (i % 64)))
   omega
  simp only [hq,hr,a3N (show i / 64 < 9223372036854775808 by omega)]
  refine Wp.brnT (a3S (by omega) (by omega)) (Wp.brnT (iff_nn.2 (by rw [hcv]; omega)) ?_)
  have hsh:(I.shr (Arr.sel (I.of .u64 0) 4 a (i / 64)) (I.conv (k:=.i64) .u64 (i6 (i % 64)))).nat = limb' a (i / 64) / 2 ^ (i % 64):=by
   have h:=g3C (Arr.sel (I.of .u64 0) 4 a (i / 64)) (I.conv (k:=.i64) .u64 (i6 (i % 64))) (by rw [hcn]; omega)
   rw [hcn] at h
   exact h
  have hb:(I.and (I.shr (Arr.sel (I.of .u64 0) 4 a (i / 64)) (I.conv (k:=.i64) .u64 (i6 (i % 64)))) (I.of .u64 1)).nat = a.val / 2 ^ i % 2:=by
   rw [g2I _ 1 _ (by decide) (by rfl),hsh,g5A a i (by omega)]
  have hs:=f6N (n:=a.val) (i:=i)
  have hlt:a.val % 2 ^ i < 2 ^ i:=Nat.mod_lt _ (Nat.pow_pos (by decide))
  rw [d1H,hb,show (I.of .u64 1).nat = 1 from rfl]
  refine Wp.brn (fun h=>?_) (fun h=>?_)
  ·
   have h:=of_decide_eq_true h
   rw [h,Nat.mul_one] at hs
   refine Wp.again ⟨i + 1,i + 1,rfl,by omega,by omega,?_⟩ hm
   exact Bits.top (by rw [hs]; omega) (by rw [hs,Nat.pow_succ]; omega)
  ·
   have h:=of_decide_eq_false h
   have h0:a.val / 2 ^ i % 2 = 0:=by omega
   rw [h0,Nat.mul_zero,Nat.add_zero] at hs
   exact Wp.again ⟨i + 1,n,rfl,by omega,by omega,by rw [hs]; exact hB⟩ hm
 ·
  have hc:=of_decide_eq_false hc
  have hi':i = 256:=by omega
  subst hi'
  have ha:=a.lt
  rw [g1Z] at ha
  rw [Nat.mod_eq_of_lt ha] at hB
  exact Wp.done ⟨_,rfl,n,rfl,hB,hn⟩
theorem e7R (a b:U):b1P K0 ((a,(b,())),()) = some (((c3R (a.val * b.val)).1,((c3R (a.val * b.val)).2,())),()):=by
 refine Wp.out (T:=fun o=>o = _) ?_
 unfold b1P
 refine Wp.call (b2N a) ?_
 rintro _ ⟨x,rfl,hx⟩
 refine Wp.call (b2N b) ?_
 rintro _ ⟨y,rfl,hy⟩
 obtain ⟨z,hz,hz2⟩:=b2L hx hy (c0Z hx) (c0Z hy)
 refine Wp.optF hz (Wp.optF (Checked_ok' hz2 ?_) rfl)
 refine a9C hz2 64 ?_ (by decide)
 have h1:=a.lt
 have h2:=b.lt
 have h3:a.val * b.val < U.top * U.top:=Nat.mul_lt_mul_of_lt_of_le h1 (Nat.le_of_lt h2) (by decide)
 exact Nat.lt_trans h3 (by decide)
theorem f2R (units last upto now:I .u64) (h1:last.nat ≤ upto.nat) (h2:upto.nat ≤ now.nat) :
  a9A K0 ((units,(last,(upto,(now,())))),()) = some ((I.of .u64 (b7T units last upto now:Int),(I.of .i64 0,())),()):=by
 have hle:=d3D (units:=units) h1 h2
 have hu:=a3I units
 refine Wp.out (T:=fun o=>o = _) ?_
 unfold a9A
 refine Wp.jnI ?_
 simp only [c2V]
 refine Wp.brnF (decide_eq_false (by omega)) (Wp.brnF (decide_eq_false (by omega)) ?_)
 simp only [d1H]
 refine Wp.brn (fun h=>?_) (fun h=>?_)
 ·
  have h:=of_decide_eq_true h
  have:I.of .u64 (b7T units last upto now:Int) = units:=by
   unfold b7T
   rw [if_pos h,a2A]
   exact I.ext' units.ok
  rw [this]
  rfl
 ·
  have h:=of_decide_eq_false h
  have d1:=sub_nat_le' upto last h1
  have d2:=sub_nat_le' now last (by omega)
  obtain ⟨x,gx,hx⟩:=a1K units
  obtain ⟨y,gy,hy⟩:=a1K (I.sub upto last)
  obtain ⟨z,gz,hz⟩:=a1K (I.sub now last)
  obtain ⟨m,gm,hm⟩:=b2L hx hy (Nat.le_trans (e2F hx) (by decide)) (Nat.le_trans (e2F hy) (by decide))
  have hml:m.length ≤ 1000000:=by
   refine a9C hm 64 ?_ (by decide)
   have:=a3I (I.sub upto last)
   exact Nat.lt_trans (Nat.mul_lt_mul_of_lt_of_le hu (Nat.le_of_lt this) (by decide)) (by decide)
  obtain ⟨q,r,gq,hq,_⟩:=c4H hm hz (by omega) hml (Nat.le_trans (e2F hz) (by decide))
  have e:b7T units last upto now = units.nat * (upto.nat - last.nat) / (now.nat - last.nat):=if_neg h
  rw [d1,d2,← e] at hq
  refine Wp.optF gx (Wp.optF gy (Wp.optF gm (Wp.optF gz (Wp.optF gq (Wp.optF (a2Z hq (Nat.lt_trans (Nat.lt_of_le_of_lt hle hu) (by decide))) ?_)))))
  show some (((U.of (b7T units last upto now)).1,(I.of .i64 0,())),()) = _
  rw [e9Z (by omega)]
theorem e1E {l:List Post} (hl:l.length ≤ 1073741824) (hT:TableOk l):a9G K0 ((l,()),()) = some (((c3R (a9I (l.map b8B))).1,((c3R (a9I (l.map b8B))).2,())),()):=by
 refine Wp.out (T:=fun o=>o = _) ?_
 unfold a9G
 simp only [b0T,a9B,c0I,b4N]
 refine Wp.optF (c1S hl) (Wp.brnF (f3U hT) ?_)
 have h64:=hT.1
 have hb:∀ i,a9I ((l.take i).map b8B) ≤ 64 * U.top:=fun i=>by
  have h1:=c9B b8B U.top (fun p=>U.lt _) (l.take i)
  have h2:(l.take i).length * U.top ≤ 64 * U.top:=Nat.mul_le_mul_right _ (by rw [List.length_take]; omega)
  omega
 have hbig:64 * U.top < 65536 ^ 64:=by decide
 refine Wp.iter (fun s=>∃ i b,s = ((l,(b,(i6 i,()))),(Z_U,()))∧i ≤ l.length∧IsB b (a9I ((l.take i).map b8B))) (fun s=>l.length - s.1.2.2.1.val.toNat) ?_ ⟨0,[],rfl,by omega,d2U⟩ (by rw [a7S]; show l.length - _ < _; omega)
 rintro s ⟨i,b,rfl,hi,hB⟩
 simp only [a3A (show i < 9223372036854775808 by omega) (show l.length < 9223372036854775808 by omega),a3N (show i < 9223372036854775808 by omega),a4C (show i + 1 < 9223372036854775808 by omega)]
 have hbl:b.length ≤ 1000000:=a9C hB 64 (by have:=hb i; omega) (by decide)
 refine Wp.brn (fun hc=>?_) (fun hc=>?_)
 ·
  have hc:=of_decide_eq_true hc
  refine Wp.brnT (a3S (by omega) (by omega)) ?_
  refine Wp.call (b2N (Post.due (rdL dP l i))) ?_
  rintro _ ⟨x,rfl,hx⟩
  obtain ⟨z,gz,hz⟩:=b2F hB hx hbl (c0Z hx)
  refine Wp.optF gz ?_
  exact Wp.again ⟨i + 1,z,rfl,by omega,by rw [d8X dP b8B hc]; exact hz⟩ (by show l.length - (i6 (i + 1)).val.toNat < l.length - (i6 i).val.toNat; rw [a0V (by omega),a0V (by omega)]; omega)
 ·
  have hc:=of_decide_eq_false hc
  rw [List.take_of_length_le (by omega)] at hB
  exact Wp.done (Wp.optF (Checked_ok' hB hbl) rfl)
end Sym

/- Pricer: the reference computes the same. -/
namespace Sym
open Go
theorem e8I (l:List Post) (a:I .u64) (c w:U) (since:I .u64) (h:TableOk l) (hf:atN l a < l.length) (hs:since.nat ≠ 0) :
  b0L K0 ((l,(a,(c,(w,(since,()))))),()) = some (((b7C l a c w since).1,((b7C l a c w since).2,())),()):=by
 refine Wp.out (T:=fun o=>o = _) ?_
 have hl:=h.1
 unfold b0L b7C
 refine Wp.jnI (Wp.optF (c1S (l:=l) (by omega)) (Wp.brnF (f3U h) (Wp.brnF (by rw [d1H]; exact decide_eq_false hs) ?_)))
 refine Wp.optF (d0O (l:=l) a (by omega)) ?_
 have e:atI l a = i6 (atN l a):=if_pos hf
 rw [e]
 have hE:=(h.2 _ hf).1
 generalize atN l a = k at hf hE ⊢
 refine Wp.brnF (by rw [c0I,a3A (by omega) (by omega)]; exact decide_eq_false (by omega)) ?_
 have en:a2B ([]:List Post) l = l:=rfl
 simp only [a3N (show k < 9223372036854775808 by omega),pw,d1W,b5D,en]
 simp only [true_and,hf,if_true]
 have bi:inB (i6 k) l.length = true:=a3S hf (by omega)
 generalize rdL dP l k = p at *
 refine Wp.brnT (b0J (by show l.length ≤ _; omega)) (Wp.brnT bi ?_)
 refine Wp.call (b2N (Post.due p)) ?_
 rintro _ ⟨d1,rfl,b1⟩
 refine Wp.call (b2N c) ?_
 rintro _ ⟨d2,rfl,b2⟩
 refine Wp.call (b2N w) ?_
 rintro _ ⟨d3,rfl,b3⟩
 have t1:=U.lt (Post.due p)
 have t2:=c.lt
 have t3:=w.lt
 have t4:=U.lt (Post.costs p)
 have t5:=U.lt (Post.rewards p)
 have hp:U.top + U.top + U.top ≤ 65536 ^ 17:=by decide
 obtain ⟨d4,g4,b4⟩:=b2F b2 b3 (c0Z b2) (c0Z b3)
 refine Wp.optF g4 ?_
 obtain ⟨d5,g5,b5⟩:=b2F b1 b4 (c0Z b1) (a9C b4 17 (by omega) (by decide))
 refine Wp.optF g5 ?_
 refine Wp.call (b2N (Post.costs p)) ?_
 rintro _ ⟨d6,rfl,b6⟩
 refine Wp.call (b2N c) ?_
 rintro _ ⟨d7,rfl,b7⟩
 obtain ⟨d8,g8,b8⟩:=b2F b6 b7 (c0Z b6) (c0Z b7)
 refine Wp.optF g8 ?_
 refine Wp.call (b2N (Post.rewards p)) ?_
 rintro _ ⟨d9,rfl,b9⟩
 refine Wp.call (b2N w) ?_
 rintro _ ⟨d10,rfl,b10⟩
 obtain ⟨d11,g11,b11⟩:=b2F b9 b10 (c0Z b9) (c0Z b10)
 refine Wp.optF g11 ?_
 have l5:=a9C b5 17 (by omega) (by decide)
 have l8:=a9C b8 17 (by omega) (by decide)
 have l11:=a9C b11 17 (by omega) (by decide)
 refine Wp.optF (d9Z b5 l5) ?_
 refine Wp.brn (fun f1=>?_) (fun f1=>?_)
 ·
  have f1:=of_decide_eq_false (b3J f1)
  rw [if_neg (fun hh=>f1 hh.1)]; rfl
 have f1:=of_decide_eq_true (b3G f1)
 refine Wp.optF (d9Z b8 l8) ?_
 refine Wp.brn (fun f2=>?_) (fun f2=>?_)
 ·
  have f2:=of_decide_eq_false (b3J f2)
  rw [if_neg (fun hh=>f2 hh.2.1)]; rfl
 have f2:=of_decide_eq_true (b3G f2)
 refine Wp.optF (d9Z b11 l11) ?_
 refine Wp.brn (fun f3=>?_) (fun f3=>?_)
 ·
  have f3:=of_decide_eq_false (b3J f3)
  rw [if_neg (fun hh=>f3 hh.2.2)]; rfl
 have f3:=of_decide_eq_true (b3G f3)
 rw [if_pos ⟨f1,f2,f3⟩]
 refine Wp.optF (c8V (Post.due p)) ?_
 have hpos:=g0U b5 l5
 refine Wp.brn (fun z=>?_) (fun z=>?_)
 ·
  have z:=of_decide_eq_true z
  refine Wp.brn (fun y=>?_) (fun y=>?_)
  ·
   have y:=of_decide_eq_true (hpos.symm.trans y)
   refine Wp.optF (a2Z b5 f1) (Wp.optF (a2Z b8 f2) (Wp.optF (a2Z b11 f3) ?_))
   have e:b9K p c w since = (p.1,(U.of (p.due.val + (c.val + w.val)),(U.of (p.costs.val + c.val),(U.of (p.rewards.val + w.val),(p.paid,(since,())))))):=by unfold b9K; rw [if_pos ⟨z,y⟩]
   rw [e]; rfl
  ·
   have y:=of_decide_eq_false (hpos.symm.trans y)
   refine Wp.optF (a2Z b5 f1) (Wp.optF (a2Z b8 f2) (Wp.optF (a2Z b11 f3) ?_))
   have e:b9K p c w since = (p.1,(U.of (p.due.val + (c.val + w.val)),(U.of (p.costs.val + c.val),(U.of (p.rewards.val + w.val),(p.paid,(p.since,())))))):=by unfold b9K; rw [if_neg (fun hh=>y hh.2)]
   rw [e]; rfl
 ·
  have z:=of_decide_eq_false z
  refine Wp.optF (a2Z b5 f1) (Wp.optF (a2Z b8 f2) (Wp.optF (a2Z b11 f3) ?_))
  have e:b9K p c w since = (p.1,(U.of (p.due.val + (c.val + w.val)),(U.of (p.costs.val + c.val),(U.of (p.rewards.val + w.val),(p.paid,(p.since,())))))):=by unfold b9K; rw [if_neg (fun hh=>z hh.1)]
  rw [e]; rfl
theorem f4V (l:List Post) (a:I .u64) (hl:l.length ≤ 1073741824):b4H K0 ((l,(a,())),()) = some (((c6Z l a).1,((c6Z l a).2,())),()):=by
 refine Wp.out (T:=fun o=>o = _) ?_
 unfold b4H c6Z
 refine Wp.jnI (Wp.optF (c1S hl) ?_)
 have e0:(I.of .u64 0).nat = 0:=rfl
 refine Wp.brn (fun h=>?_) (fun h=>?_)
 ·
  have h:c4V l = false:=b3J h
  simp only [if_neg (show ¬ (c4V l = true∧a.nat ≠ 0) by rw [h]; simp)]; rfl
 have hT:c4V l = true:=b3G h
 rw [d1H,e0]
 refine Wp.brn (fun h=>?_) (fun h=>?_)
 ·
  have h:a.nat = 0:=of_decide_eq_true h
  simp only [if_neg (show ¬ (c4V l = true∧a.nat ≠ 0) from fun hh=>hh.2 h)]; rfl
 have ha:a.nat ≠ 0:=of_decide_eq_false h
 simp only [if_pos (show c4V l = true∧a.nat ≠ 0 from ⟨hT,ha⟩)]
 refine Wp.optF (d0O (l:=l) a hl) ?_
 rw [show (((atI l a,()),()):((I .i64) × Unit) × Unit).1.1 = atI l a from rfl,f9P hl]
 refine Wp.brn (fun h=>?_) (fun h=>?_)
 ·
  have h:=of_decide_eq_true h
  simp only [if_pos h]; rfl
 have hf:=of_decide_eq_false h
 simp only [if_neg hf]
 have hne:=e4I hf
 have hlim:l.length ≤ 64:=(tabB_t.1 hT).1
 have e64:I.of .i64 64 = i6 64:=rfl
 simp only [b0T,a9B,c0I,b4N,e64,e0M (show 64 < 9223372036854775808 by omega) (show l.length < 9223372036854775808 by omega)]
 refine Wp.brn (fun h=>?_) (fun h=>?_)
 ·
  have h:=of_decide_eq_true h
  simp only [if_pos (show l.length = 64 by omega)]; rfl
 have h64:=of_decide_eq_false h
 simp only [if_neg (show ¬ l.length = 64 by omega)]
 have hva:=a2A a
 refine Wp.iter (fun s=>∃ i put out,s = ((l,(a,(put,(i6 i,())))),(out,()))∧i ≤ l.length∧out.length ≤ i + (if put = true then 1 else 0) ∧
   ((put = false∧out ++ d0K (l.drop i) a = d0K l a) ∨ (put = true∧out ++ l.drop i = d0K l a)))
  (fun s=>l.length - s.1.2.2.2.1.val.toNat) ?_ ⟨0,false,[],rfl,by omega,by simp,.inl ⟨rfl,rfl⟩⟩ (by rw [a7S]; show l.length - _ < _; omega)
 rintro s ⟨i,put,out,rfl,hi,hol0,hcase⟩
 have hol:out.length ≤ i + 1:=by revert hol0; split <;> omega
 simp only [a3A (show i < 9223372036854775808 by omega) (show l.length < 9223372036854775808 by omega),a3N (show i < 9223372036854775808 by omega)]
 refine Wp.brn (fun hc=>?_) (fun hc=>?_)
 ·
  have hc:=of_decide_eq_true hc
  have hm:l.length - (i6 (i + 1)).val.toNat < l.length - (i6 i).val.toNat:=by rw [a0V (by omega),a0V (by omega)]; omega
  have bi:inB (i6 i) l.length = true:=a3S (by omega) (by omega)
  have hdr:l.drop i = rdL dP l i :: l.drop (i + 1):=by rw [List.drop_eq_getElem_cons hc,a3X dP l i hc]
  have hvi:=a2A (Post.addr (rdL dP l i))
  have hnei:=hne i hc
  refine Wp.jnI ?_
  have place:put = false→a.nat < (Post.addr (rdL dP l i)).nat→out ++ f8D a :: rdL dP l i :: l.drop (i + 1) = d0K l a:=by
   intro hp hlt
   rcases hcase with ⟨_,h⟩ | ⟨h,_⟩
   ·
    rw [f1N hc (by omega),hdr] at h; exact h
   ·
    rw [hp] at h; cases h
  have keep:put = false→¬ a.nat < (Post.addr (rdL dP l i)).nat→(out ++ [rdL dP l i]) ++ d0K (l.drop (i + 1)) a = d0K l a:=by
   intro hp hlt
   rcases hcase with ⟨_,h⟩ | ⟨h,_⟩
   ·
    rw [f2M hc (by omega)] at h; rw [← h]; simp
   ·
    rw [hp] at h; cases h
  have keep2:put = true→(out ++ [rdL dP l i]) ++ l.drop (i + 1) = d0K l a:=by
   intro hp
   rcases hcase with ⟨h,_⟩ | ⟨_,h⟩
   ·
    rw [hp] at h; cases h
   ·
    rw [hdr] at h; rw [← h]; simp
  have hfit:a1G (a0I (a2B out [rdL dP l i])) = true:=b0J (by show (out ++ [_]).length ≤ _; simp; omega)
  refine Wp.brn (fun hp=>?_) (fun hp=>?_)
  ·
   have hp:put = false:=b3J hp
   refine Wp.brnT bi ?_
   rw [c2V]
   simp only [a3N (show i < 9223372036854775808 by omega),a4C (show i + 1 < 9223372036854775808 by omega)]
   refine Wp.brn (fun hlt=>?_) (fun hlt=>?_)
   ·
    have hlt:a.nat < (Post.addr (rdL dP l i)).nat:=of_decide_eq_true hlt
    refine Wp.brnT (b0J (by show (out ++ [_]).length ≤ _; simp; omega)) (Wp.brnT bi (Wp.brnT (b0J (by show (out ++ [_] ++ [_]).length ≤ _; simp; omega)) ?_))
    refine Wp.again ⟨i + 1,true,_,rfl,by omega,?_,.inr ⟨rfl,?_⟩⟩ hm
    ·
     rw [hp] at hol0
     simp [a2B] at hol0 ⊢
     omega
    ·
     rw [← place hp hlt]; simp [a2B,f8D]
   ·
    have hlt:¬ a.nat < (Post.addr (rdL dP l i)).nat:=of_decide_eq_false hlt
    exact Wp.brnT bi (Wp.brnT hfit (Wp.again ⟨i + 1,put,_,rfl,by omega,by rw [hp] at hol0 ⊢; simp [a2B] at hol0 ⊢; omega,.inl ⟨hp,keep hp hlt⟩⟩ hm))
  ·
   have hp:put = true:=b3G hp
   simp only [a3N (show i < 9223372036854775808 by omega),a4C (show i + 1 < 9223372036854775808 by omega)]
   exact Wp.brnF rfl (Wp.brnT bi (Wp.brnT hfit (Wp.again ⟨i + 1,put,_,rfl,by omega,by rw [hp] at hol0 ⊢; simp [a2B] at hol0 ⊢; omega,.inr ⟨hp,keep2 hp⟩⟩ hm)))
 ·
  have hc:=of_decide_eq_false hc
  have hi':i = l.length:=by omega
  subst hi'
  refine Wp.done ?_
  rcases hcase with ⟨rfl,h⟩ | ⟨rfl,h⟩
  ·
   rw [List.drop_length] at h
   refine Wp.brnT rfl (Wp.brnT (b0J (by show (out ++ [_]).length ≤ _; simp; omega)) ?_)
   show some ((out ++ [f8D a],(I.of .i64 0,())),()) = _
   rw [← h]; rfl
  ·
   rw [List.drop_length,List.append_nil] at h
   refine Wp.brnF rfl ?_
   rw [h]; rfl
end Sym

/- Pricer: the reference's report. -/
namespace Sym
open Go
theorem c6A (s:PrT) (hl:s.posters.length ≤ 1073741824):a7B K0 ((s,()),()) = some ((prV s,()),()):=by
 refine Wp.out (T:=fun o=>o = _) ?_
 unfold a7B
 refine Wp.jnI (Wp.optF (c1S (l:=s.posters) hl) ?_)
 refine Wp.brn (fun h=>?_) (fun h=>?_)
 ·
  have h:c4V s.posters = false:=b3J h
  unfold prV; rw [h,Bool.false_and,Bool.and_false]; rfl
 have hT:c4V s.posters = true:=b3G h
 refine Wp.optF (b8M s.surplus) ?_
 refine Wp.brn (fun h=>?_) (fun h=>?_)
 ·
  have h:a9F s.surplus = false:=b3J h
  unfold prV; rw [h,Bool.and_false,Bool.and_false]; rfl
 have hS:a9F s.surplus = true:=b3G h
 simp only [b0T,a9B,c0I,b4N]
 obtain ⟨l,hl'⟩:∃ l,l = s.posters:=⟨_,rfl⟩
 rw [← hl'] at hl
 refine Wp.iter (fun t=>∃ i,t = ((i6 i,()),(s,()))∧i ≤ l.length∧∀ k,k < i→(Post.since (rdL dP l k)).nat ≤ s.reports.nat) (fun t=>l.length - t.1.1.val.toNat) ?_ ⟨0,rfl,by omega,by intro k hk; omega⟩ (by rw [a7S]; show l.length - _ < _; omega)
 rintro t ⟨i,rfl,hi,hinv⟩
 have e:s.2.2.2.2.2.1 = l:=hl'.symm
 simp only [e,a3A (show i < 9223372036854775808 by omega) (show l.length < 9223372036854775808 by omega),a3N (show i < 9223372036854775808 by omega),a4C (show i + 1 < 9223372036854775808 by omega)]
 refine Wp.brn (fun hc=>?_) (fun hc=>?_)
 ·
  have hc:=of_decide_eq_true hc
  refine Wp.brnT (a3S (by omega) (by omega)) ?_
  simp only [c2V]
  refine Wp.brn (fun h=>?_) (fun h=>?_)
  ·
   have h:s.reports.nat < (Post.since (rdL dP l i)).nat:=of_decide_eq_true h
   refine Wp.done ?_
   have:prV s = false:=by
    cases hv:prV s with
    | false=>rfl
    | true =>
     have:=(prV_t.1 hv).1 (rdL dP l i) (by rw [← hl']; exact b7E dP _ i hc)
     omega
   rw [this]
   rfl
  ·
   have h:¬ s.reports.nat < (Post.since (rdL dP l i)).nat:=of_decide_eq_false h
   refine Wp.again ⟨i + 1,rfl,by omega,fun k hk=>?_⟩ (by show l.length - (i6 (i + 1)).val.toNat < l.length - (i6 i).val.toNat; rw [a0V (by omega),a0V (by omega)]; omega)
   by_cases hki:k = i
   ·
    subst hki; omega
   ·
    exact hinv k (by omega)
 ·
  have hc:=of_decide_eq_false hc
  refine Wp.done ?_
  have:prV s = true:=by
   refine prV_t.2 ⟨fun p hp=>?_,tabB_t.1 hT,hS⟩
   rw [← hl'] at hp
   obtain ⟨k,hk,rfl⟩:=b9H dP hp
   exact hinv k (by omega)
  rw [this]
  rfl
theorem d7L (s:PrT) (a:I .u64) (hl:s.posters.length ≤ 1073741824):a8F K0 ((s,(a,())),()) = some (((a5Z s a).1,((a5Z s a).2,())),()):=by
 refine Wp.out (T:=fun o=>o = _) ?_
 unfold a8F a5Z
 refine Wp.optF (c6A s hl) ?_
 refine Wp.brn (fun h=>?_) (fun h=>?_)
 ·
  have h:prV s = false:=b3J h
  rw [if_neg (by rw [h]; simp)]; rfl
 have h:prV s = true:=b3G h
 rw [if_pos h]
 refine Wp.optF (f4V s.posters a hl) ?_
 refine Wp.brn (fun h=>?_) (fun h=>?_)
 ·
  have h:¬ (c6Z s.posters a).2.val = 0:=iff_neb.1 h
  rw [if_neg h]; rfl
 ·
  have h:(c6Z s.posters a).2.val = 0:=niff_neb.1 h
  rw [if_pos h]; rfl
theorem c8Q (a b:I .u64):I.add a b = I.of .u64 ((a.nat + b.nat:Nat):Int):=by
 unfold I.add
 rw [← a2A a,← a2A b]
 rfl
theorem d9A (s:PrT) (n:I .u64) (hl:s.posters.length ≤ 1073741824):a8Y K0 ((s,(n,())),()) = some (((a4F s n).1,((a4F s n).2,())),()):=by
 refine Wp.out (T:=fun o=>o = _) ?_
 unfold a8Y a4F
 refine Wp.optF (c6A s hl) ?_
 refine Wp.brn (fun h=>?_) (fun h=>?_)
 ·
  have h:prV s = false:=b3J h
  rw [if_neg (by rw [h]; simp)]; rfl
 have h:prV s = true:=b3G h
 rw [if_pos h]
 have hu:=a3I s.units
 have hn:=a3I n
 have hw:(I.add s.units n).nat = (s.units.nat + n.nat) % 18446744073709551616:=by
  rw [c8Q]
  have h1:(I.of .u64 ((s.units.nat + n.nat:Nat):Int)).val = ((s.units.nat + n.nat:Nat):Int) % 18446744073709551616:=rfl
  have:=a2A (I.of .u64 ((s.units.nat + n.nat:Nat):Int))
  omega
 refine Wp.brn (fun h=>?_) (fun h=>?_)
 ·
  rw [c2V] at h
  have h:(I.add s.units n).nat < n.nat:=of_decide_eq_true h
  rw [if_neg (by omega)]; rfl
 ·
  rw [c2V] at h
  have h:¬ (I.add s.units n).nat < n.nat:=of_decide_eq_false h
  rw [if_pos (by omega)]
  refine Wp.brnT (b0J hl) ?_
  rw [← c8Q]
  rfl
noncomputable def c5R (s:PrT) (p:Prm) (r:RepT) (now:I .u64):I .i64 :=
 if prV s = true then
  if a6W p = true then
   if atN s.posters r.from' < s.posters.length then
    if s.last.nat ≤ r.upto.nat∧r.upto.nat ≤ now.nat then
     if r.cost.val < c6H then I.of .i64 0
     else I.of .i64 2
    else I.of .i64 14
   else I.of .i64 8
  else I.of .i64 15
 else I.of .i64 2
theorem e2L (s:PrT) (p:Prm) (r:RepT) (now:I .u64) :
  ((c5R s p r now).val = 0∧((c5P s p r now).val = 0 ∨ (s.reports.nat = 18446744073709551615∧c5P s p r now = I.of .i64 4))) ∨ ((c5R s p r now).val ≠ 0∧c5P s p r now = c5R s p r now):=by
 unfold c5R c5P
 split
 ·
  split
  ·
   split
   ·
    split
    ·
     split
     ·
      left
      refine ⟨rfl,?_⟩
      split
      ·
       rename_i h; exact .inr ⟨h,rfl⟩
      ·
       exact .inl rfl
     ·
      exact .inr ⟨by decide,rfl⟩
    ·
     exact .inr ⟨by decide,rfl⟩
   ·
    exact .inr ⟨by decide,rfl⟩
  ·
   exact .inr ⟨by decide,rfl⟩
 ·
  exact .inr ⟨by decide,rfl⟩
theorem e0F {s:PrT} {p:Prm} {r:RepT} {now:I .u64} (h:(c5R s p r now).val = 0):prV s = true∧a6W p = true∧atN s.posters r.from' < s.posters.length∧(s.last.nat ≤ r.upto.nat∧r.upto.nat ≤ now.nat)∧r.cost.val < c6H:=by
 unfold c5R at h
 split at h
 ·
  rename_i h1
  split at h
  ·
   rename_i h2
   split at h
   ·
    rename_i h3
    split at h
    ·
     rename_i h4
     split at h
     ·
      rename_i h5; exact ⟨h1,h2,h3,h4,h5⟩
     ·
      exact absurd h (by decide)
    ·
     exact absurd h (by decide)
   ·
    exact absurd h (by decide)
  ·
   exact absurd h (by decide)
 ·
  exact absurd h (by decide)
theorem f1J (s:PrT) (p:Prm) (r:RepT) (now:I .u64) (hl:s.posters.length ≤ 1073741824) :
  b1W K0 ((s,(p,(r,(now,())))),()) = some ((c5R s p r now,()),()):=by
 refine Wp.out (T:=fun o=>o = _) ?_
 unfold b1W c5R
 refine Wp.optF (c6A s hl) ?_
 refine Wp.brn (fun h=>?_) (fun h=>?_)
 ·
  have h:prV s = false:=b3J h
  rw [if_neg (by rw [h]; simp)]; rfl
 have h:prV s = true:=b3G h
 rw [if_pos h]
 refine Wp.optF (b6B p) ?_
 refine Wp.brn (fun h=>?_) (fun h=>?_)
 ·
  have h:a6W p = false:=b3J h
  rw [if_neg (by rw [h]; simp)]; rfl
 have h:a6W p = true:=b3G h
 rw [if_pos h]
 refine Wp.optF (d0O (l:=s.posters) r.from' hl) ?_
 rw [show (((atI s.posters r.from',()),()):((I .i64) × Unit) × Unit).1.1 = atI s.posters r.from' from rfl,d7N hl]
 refine Wp.brn (fun h=>?_) (fun h=>?_)
 ·
  rw [if_neg (of_decide_eq_true h)]; rfl
 rw [if_pos (by simpa using of_decide_eq_false h)]
 refine Wp.jnI ?_
 simp only [c2V]
 refine Wp.brn (fun h=>?_) (fun h=>?_)
 ·
  have h:r.upto.nat < s.last.nat:=of_decide_eq_true h
  rw [if_neg (by omega)]; rfl
 have h1:¬ r.upto.nat < s.last.nat:=of_decide_eq_false h
 refine Wp.brn (fun h=>?_) (fun h=>?_)
 ·
  have h:now.nat < r.upto.nat:=of_decide_eq_true h
  rw [if_neg (by omega)]; rfl
 have h2:¬ now.nat < r.upto.nat:=of_decide_eq_false h
 rw [if_pos (by omega)]
 refine Wp.call (e6V r.cost) ?_
 rintro _ ⟨k,rfl,hB,hk⟩
 rw [show (((i6 k,()),()):((I .i64) × Unit) × Unit).1.1 = i6 k from rfl,g2W hB hk]
 refine Wp.brn (fun h=>?_) (fun h=>?_)
 ·
  rw [if_neg (of_decide_eq_true h)]; rfl
 rw [if_pos (Classical.byContradiction (of_decide_eq_false h))]
 rfl
theorem e8H (s:PrT) (p:Prm) (pool:U) (r:RepT) (now:I .u64) (hl:s.posters.length ≤ 1073741824) :
  b0I K0 ((s,(p,(pool,(r,(now,()))))),()) = some (((b3M s p pool r now).1,((b3M s p pool r now).2.1,((b3M s p pool r now).2.2,()))),()):=by
 refine Wp.out (T:=fun o=>o = _) ?_
 unfold b0I b3M
 refine Wp.optF (f1J s p r now hl) ?_
 have hcc:=e2L s p r now
 refine Wp.brn (fun h=>?_) (fun h=>?_)
 ·
  have h:¬ (c5R s p r now).val = 0:=iff_neb.1 h
  rcases hcc with ⟨h',_⟩ | ⟨_,h'⟩
  ·
   exact absurd h' h
  rw [h',if_neg h]
  rfl
 have h0:(c5R s p r now).val = 0:=niff_neb.1 h
 have ⟨f1,f2,f3,f4,f5⟩:=e0F h0
 refine Wp.optF (f2R s.units s.last r.upto now f4.1 f4.2) ?_
 have hle:=d3D (units:=s.units) f4.1 f4.2
 have hu:=a3I s.units
 have hnv:(I.of .u64 (b7T s.units s.last r.upto now:Int)).nat = b7T s.units s.last r.upto now:=b5P (by omega)
 have e:U.val (I.of .u64 (b7T s.units s.last r.upto now:Int),(I.of .u64 0,(I.of .u64 0,(I.of .u64 0,())))) = c3S s r now:=(c5F _).trans hnv
 have hM:=e7R p.rpu (I.of .u64 (b7T s.units s.last r.upto now:Int),(I.of .u64 0,(I.of .u64 0,(I.of .u64 0,()))))
 rw [e] at hM
 refine Wp.optF hM (Wp.jnI ?_)
 rcases hcc with ⟨_,hcs⟩ | ⟨h',_⟩
 case inr=>exact absurd h0 h'
 simp only [e9I]
 refine Wp.brn (fun hw=>?_) (fun hw=>?_)
 ·
  have hw:¬ p.rpu.val * c3S s r now < U.top:=of_decide_eq_true hw
  rcases hcs with hcs | ⟨_,hcs⟩
  ·
   rw [if_pos hcs,if_neg hw]; rfl
  ·
   rw [hcs,if_neg b5W]; rfl
 have hw:=of_decide_eq_false hw
 have hw:p.rpu.val * c3S s r now < U.top:=by omega
 rw [c4A hw]
 rcases hcs with hcs | ⟨hmax,hcs⟩
 case inr =>
  refine Wp.brnT ?_ ?_
  ·
   have hv:=a2A s.reports
   rw [c8Q,hmax]
   rfl
  ·
   rw [hcs,if_neg b5W]; rfl
 have hC:=d5J hcs
 have hcnt:=d2R hC
 rw [if_pos hcs,if_pos hw]
 refine Wp.brnF (by rw [d1H]; exact decide_eq_false (by show ¬ (I.add s.reports (I.of .u64 1)).nat = 0; rw [hcnt]; omega)) ?_
 refine Wp.optF (e8I s.posters r.from' r.cost (U.of (p.rpu.val * c3S s r now)) (I.add s.reports (I.of .u64 1)) hC.tab hC.fnd (by rw [hcnt]; omega)) ?_
 have hA:=d5W (c:=r.cost) (w:=U.of (p.rpu.val * c3S s r now)) (since:=I.add s.reports (I.of .u64 1)) hC.tab hC.fnd (by rw [hcnt]; omega)
 have hL:b7C s.posters r.from' r.cost (U.of (p.rpu.val * c3S s r now)) (I.add s.reports (I.of .u64 1)) = b4M s p r now:=rfl
 rw [hL] at hA ⊢
 rcases hA with ⟨hA,_⟩ | ⟨hA,_,_,hT⟩
 ·
  rw [if_neg (by rw [hA]; exact b5W)]
  simp only [hA]
  exact Wp.brnT rfl rfl
 rw [if_pos (by rw [hA]; rfl)]
 simp only [hA]
 refine Wp.brnF rfl ?_
 generalize (b4M s p r now).1 = l at hT ⊢
 have hl64:=hT.1
 have hP:=f4L l pool (by omega)
 rw [f4S hT pool] at hP
 refine Wp.optF hP ?_
 have hpl:=d4O l pool
 refine Wp.optF (f3C l (b2T (ord l) pool.val) (by omega) (by show (a2D l pool).length ≤ _; omega)) ?_
 rw [show b2T (ord l) pool.val = a2D l pool from rfl]
 rcases e1A hT pool with hB | ⟨hB,hT2,_,_,hdu⟩
 ·
  rw [if_neg (by rw [hB]; exact b5W)]
  simp only [hB]
  exact Wp.brnT rfl rfl
 rw [if_pos (by rw [hB]; rfl)]
 simp only [hB]
 refine Wp.brnF rfl ?_
 have hsum:=d4S l pool
 have hpo:=pool.lt
 have hps:a9I ((a2D l pool).map amt) < U.top:=by omega
 refine Wp.optF (f3V (l:=a2D l pool) (by omega)) ?_
 rw [c4A hps]
 refine Wp.optF (c1H pool _) ?_
 have hsv:(U.of (a9I ((a2D l pool).map amt))).val = a9I ((a2D l pool).map amt):=U.val_of hps
 have hsub:(e9R pool (U.of (a9I ((a2D l pool).map amt)))).1 = U.of (pool.val - a9I ((a2D l pool).map amt)):=by
  unfold e9R
  rw [hsv,if_pos (by omega)]
 refine Wp.optF (e1E (by have:=hT2.1; omega) hT2) ?_
 unfold c6F
 have e1:(c1G s (a2U l (a2D l pool)).1).posters = (a2U l (a2D l pool)).1:=rfl
 rw [e1]
 simp only [e9I]
 refine Wp.brn (fun hd=>?_) (fun hd=>?_)
 ·
  have hd:=of_decide_eq_true hd
  simp only [if_neg hd]
  rw [if_neg b5W]; rfl
 have hd:=of_decide_eq_false hd
 have hd:a9I ((a2U l (a2D l pool)).1.map b8B) < U.top:=by omega
 simp only [if_pos hd,hsub]
 rw [c4A hd]
 refine Wp.optF (f6U _ _) (Wp.jnI ?_)
 have hz:S.of (((U.of (pool.val - a9I ((a2D l pool).map amt))).val:Int) - ((U.of (a9I ((a2U l (a2D l pool)).1.map b8B))).val:Int)) = c4F pool (a2U l (a2D l pool)).1 (a2D l pool):=by
  unfold c4F
  rw [U.val_of hd,U.val_of (by omega)]
 simp only [hz]
 have hn1:(b8S s p r now (a2D l pool)).1.nat = c3S s r now:=hnv
 rw [hn1]
 have e0:(I.of .u64 0).nat = 0:=rfl
 simp only [c2V]
 rw [e0,show (I.of .u64 (b7T s.units s.last r.upto now:Int)).nat = c3S s r now from hnv]
 refine Wp.brn (fun hp=>?_) (fun hp=>?_)
 ·
  have hp:=of_decide_eq_true hp
  simp only [if_neg (show ¬ c3S s r now = 0 by omega)]
  refine Wp.optF (f7W _ _ _ _ _) ?_
  refine Wp.brn (fun hN=>?_) (fun hN=>?_)
  ·
   have hN:I.neb (c2M s.price (c4F pool (a2U l (a2D l pool)).1 (a2D l pool)) s.surplus (I.of .u64 (b7T s.units s.last r.upto now:Int)) p).2 (I.of .i64 0) = true:=hN
   have hN2:I.neb (c2M (c1G s (a2U l (a2D l pool)).1).price (c4F pool (a2U l (a2D l pool)).1 (b8S s p r now (a2D l pool)).2.2.1) (c1G s (a2U l (a2D l pool)).1).surplus (b8S s p r now (a2D l pool)).1 p).2 (I.of .i64 0) = true:=hN
   simp only [if_pos hN2]
   have:¬ (c2M (c1G s (a2U l (a2D l pool)).1).price (c4F pool (a2U l (a2D l pool)).1 (b8S s p r now (a2D l pool)).2.2.1) (c1G s (a2U l (a2D l pool)).1).surplus (b8S s p r now (a2D l pool)).1 p).2.val = 0:=iff_neb.1 hN2
   rw [if_neg this]; rfl
  ·
   have hN:I.neb (c2M s.price (c4F pool (a2U l (a2D l pool)).1 (a2D l pool)) s.surplus (I.of .u64 (b7T s.units s.last r.upto now:Int)) p).2 (I.of .i64 0) = false:=hN
   have hN2:¬ I.neb (c2M (c1G s (a2U l (a2D l pool)).1).price (c4F pool (a2U l (a2D l pool)).1 (b8S s p r now (a2D l pool)).2.2.1) (c1G s (a2U l (a2D l pool)).1).surplus (b8S s p r now (a2D l pool)).1 p).2 (I.of .i64 0) = true:=fun h=>by
    have h:I.neb (c2M s.price (c4F pool (a2U l (a2D l pool)).1 (a2D l pool)) s.surplus (I.of .u64 (b7T s.units s.last r.upto now:Int)) p).2 (I.of .i64 0) = true:=h
    rw [hN] at h; cases h
   simp only [if_neg hN2]
   rw [if_pos (show (I.of .i64 0).val = 0 from rfl)]; rfl
 ·
  have hp:=of_decide_eq_false hp
  have hp0:c3S s r now = 0:=by omega
  simp only [if_pos hp0]
  rw [if_pos (show (I.of .i64 0).val = 0 from rfl)]; rfl
end Sym

/- The machine of the reference: numbers that need not fit, the ledger. -/
namespace Sym
open Go
theorem f7A (a q:Nat):U.of (a + U.top * q) = U.of a:=by
 unfold U.of U.top
 have h0:(a + 115792089237316195423570985008687907853269984665640564039457584007913129639936 * q) % 18446744073709551616 = a % 18446744073709551616:=by omega
 have h1:(a + 115792089237316195423570985008687907853269984665640564039457584007913129639936 * q) / 18446744073709551616 % 18446744073709551616 = a / 18446744073709551616 % 18446744073709551616:=by omega
 have h2:(a + 115792089237316195423570985008687907853269984665640564039457584007913129639936 * q) / 340282366920938463463374607431768211456 % 18446744073709551616 = a / 340282366920938463463374607431768211456 % 18446744073709551616:=by omega
 have h3:(a + 115792089237316195423570985008687907853269984665640564039457584007913129639936 * q) / 6277101735386680763835789423207666416102355444464034512896 % 18446744073709551616 = a / 6277101735386680763835789423207666416102355444464034512896 % 18446744073709551616:=by omega
 rw [h0,h1,h2,h3]
theorem c4Q {l:List Dg} {n:Nat} (hl:IsB l n) (hlen:l.length ≤ 1000000):a0Q K0 ((l,()),()) = some ((U.of n,()),()):=by
 have ht:U.top = 65536 ^ 16:=by decide
 have c16:(I.of .i64 16).val = 16:=rfl
 have c4:(I.of .i64 4).val = 4:=rfl
 have c1:(I.of .i64 1).val = 1:=rfl
 have hol:(I.ofNat .i64 (a0I l)).val = l.length:=a3H (by show l.length < _; omega)
 have key:Wp (fun o=>o = some ((U.of n,()),())) (a0Q K0 ((l,()),())):=by
  unfold a0Q
  refine Wp.iter (fun x=>x.1.1 = l∧0 ≤ x.1.2.1.val∧x.1.2.1.val ≤ (l.length:Int)∧x.1.2.1.val ≤ 16∧U.val x.2.2.1 = bv (l.take x.1.2.1.val.toNat)) (fun x=>((l.length:Int) - x.1.2.1.val).toNat) ?_ ?_ ?_
  ·
   rintro ⟨⟨l',i,⟨⟩⟩,r0,u,⟨⟩⟩ ⟨e1,hi0,hi1,hi2,hu⟩
   simp only at e1 hi0 hi1 hi2 hu
   subst e1
   have fin:i.val.toNat = min 16 l'.length→u = U.of n:=by
    intro e
    have e16:l'.take i.val.toNat = l'.take 16:=by rw [e,List.take_eq_take_iff]; simp
    rw [e16] at hu
    have hn:n = bv (l'.take 16) + U.top * bv (l'.drop 16):=by
     rw [← hl.val]
     conv=>lhs; rw [← List.take_append_drop 16 l',c3I]
     by_cases hc:l'.length ≤ 16
     ·
      rw [List.drop_eq_nil_of_le hc]
      rfl
     ·
      rw [List.length_take,Nat.min_eq_left (by omega),ht]
    rw [hn,f7A,← hu]
    exact (U.of_val u).symm
   refine Wp.brn (fun h=>?_) (fun h=>?_)
   ·
    have h:=iff_ltb.1 h
    simp only [hol] at h
    have hlt:i.val.toNat < l'.length:=by omega
    refine Wp.brn (fun h16=>?_) (fun h16=>?_)
    case refine_2 =>
     have h16:(I.of .i64 16).val ≤ i.val:=niff_ltb.1 h16
     have:=fin (by omega)
     subst this
     exact Wp.done rfl
    have h16:i.val < (I.of .i64 16).val:=iff_ltb.1 h16
    have hq:(I.quo i (I.of .i64 4)).val = i.val / 4:=b9M hi0 (by decide)
    have hr:(I.rem i (I.of .i64 4)).val = i.val % 4:=b7H hi0 (by decide)
    have hs:(I.add i (I.of .i64 1)).val = i.val + 1:=by rw [a5N (by omega)]; omega
    have hm:(I.mul (I.of .i64 16) (I.rem i (I.of .i64 4))).val = 16 * (i.val % 4):=by rw [c4O (by rw [c16,hr]; omega),hr,c16]
    have hin:inB (I.quo i (I.of .i64 4)) 4 = true:=iff_inB.2 ⟨by omega,by omega⟩
    refine Wp.brnT hin ?_
    refine Wp.brnT (iff_inB.2 ⟨hi0,by show i.val < ((l'.length:Nat):Int); omega⟩) ?_
    refine Wp.brnT (c3E _) ?_
    refine Wp.brnT hin ?_
    have hdig:DigOk l'[i.val.toNat]:=hl.dig _ (List.getElem_mem hlt)
    have hrd:rdL (I.of .i64 0) l' (I.nat i) = l'[i.val.toNat]:=a3X _ _ _ hlt
    have e1:I.nat (I.quo i (I.of .i64 4)) = i.val.toNat / 4:=by unfold I.nat; omega
    have e2:I.conv .u64 (I.mul (I.of .i64 16) (I.rem i (I.of .i64 4))) = I.of .u64 (16 * (i.val.toNat % 4):Nat):=by
     show I.of .u64 _ = _
     rw [hm]
     congr 1
     omega
    have e3:I.conv .u64 (rdL (I.of .i64 0) l' (I.nat i)) = I.of .u64 ((l'[i.val.toNat]).nat:Int):=by
     show I.of .u64 _ = _
     rw [hrd,hdig.nat.1]
    have hub:U.val u < 65536 ^ i.val.toNat:=by
     rw [hu]
     have:=e1W (c1N hl.dig i.val.toNat)
     rw [List.length_take] at this
     rwa [Nat.min_eq_left (by omega)] at this
    have st:=e4E u (l'[i.val.toNat]).nat i.val.toNat (by omega) hub hdig.nat.2
    refine Wp.again ⟨rfl,?_,?_,by show (I.add i (I.of .i64 1)).val ≤ 16; omega,?_⟩ ?_
    ·
     show 0 ≤ (I.add i (I.of .i64 1)).val; omega
    ·
     show (I.add i (I.of .i64 1)).val ≤ _; omega
    ·
     show U.val (Arr.upd 4 u (I.nat (I.quo i (I.of .i64 4))) (I.add (Arr.sel (I.of .u64 0) 4 u (I.nat (I.quo i (I.of .i64 4)))) (I.shl (I.conv .u64 (rdL (I.of .i64 0) l' (I.nat i))) (I.conv .u64 (I.mul (I.of .i64 16) (I.rem i (I.of .i64 4))))))) = bv (l'.take (I.add i (I.of .i64 1)).val.toNat)
     have e4:(I.add i (I.of .i64 1)).val.toNat = i.val.toNat + 1:=by omega
     rw [e1,e2,e3,e4,st,c4G hlt,← hu]
    ·
     show ((l'.length:Int) - (I.add i (I.of .i64 1)).val).toNat < _
     simp only; omega
   ·
    have h:=niff_ltb.1 h
    simp only [hol] at h
    have:=fin (by omega)
    subst this
    exact Wp.done rfl
  ·
   refine ⟨rfl,by show 0 ≤ (I.of .i64 0).val; decide,by show (I.of .i64 0).val ≤ (l.length:Int); have:(I.of .i64 0).val = 0:=rfl; omega,by show (I.of .i64 0).val ≤ 16; decide,?_⟩
   show U.val _ = bv (l.take (I.of .i64 0).val.toNat)
   rfl
  ·
   exact b8C _ (by show ((l.length:Int) - (I.of .i64 0).val).toNat < _; have:(I.of .i64 0).val = 0:=rfl; omega)
 exact key.out
end Sym

/- The ledger of the reference. -/
namespace Sym
open Go
abbrev Ac:Type:=a0E
abbrev V4:Type:=c7V
noncomputable abbrev dA:Ac:=a5B
abbrev LgH:Type:=a0N
def aAt (l:List Ac) (a:I .u64):Nat:=l.findIdx fun p=>I.eqb p.1 a
def aAI (l:List Ac) (a:I .u64):I .i64:=if aAt l a < l.length then i6 (aAt l a) else I.of .i64 (-1)
theorem f0O {l:List Ac} {a:I .u64} {i:Nat} (hi:i < l.length) (h1:I.eqb (rdL dA l i).1 a = true) (h2:∀ k,k < i→I.eqb (rdL dA l k).1 a = false):aAt l a = i:=by
 unfold aAt
 rw [List.findIdx_eq hi]
 refine ⟨by rw [← a3X dA l i hi]; exact h1,fun k hk=>?_⟩
 rw [← a3X dA l k (by omega)]
 exact h2 k hk
theorem f4U {l:List Ac} {a:I .u64} (h2:∀ k,k < l.length→I.eqb (rdL dA l k).1 a = false):aAt l a = l.length:=by
 unfold aAt
 rw [List.findIdx_eq_length]
 intro x hx
 obtain ⟨k,hk,rfl⟩:=b9H dA hx
 exact h2 k hk
theorem at_eq (l:List Ac) (v:V4 × Unit) (a:I .u64) (hl:l.length ≤ 1073741824):a6H K0 (((l,v),(a,())),()) = some ((aAI l a,()),()):=by
 refine Wp.out (T:=fun o=>o = some ((aAI l a,()),())) ?_
 unfold a6H
 simp only [b0T,a9B,c0I,b4N]
 refine Wp.iter (fun s=>∃ i,s = (((l,v),(a,(i6 i,()))),())∧i ≤ l.length∧∀ k,k < i→I.eqb (rdL dA l k).1 a = false) (fun s=>l.length - s.1.2.2.1.val.toNat) ?_ ⟨0,rfl,by omega,fun k hk=>by omega⟩ ?_
 ·
  rintro s ⟨i,rfl,hi,ht⟩
  simp only [a3A (show i < 9223372036854775808 by omega) (show l.length < 9223372036854775808 by omega),a3N (show i < 9223372036854775808 by omega),a4C (show i + 1 < 9223372036854775808 by omega)]
  refine Wp.brn (fun hc=>?_) (fun hc=>?_)
  ·
   have hc:=of_decide_eq_true hc
   refine Wp.brnT (a3S (by omega) (by omega)) ?_
   refine Wp.brn (fun h=>?_) (fun h=>?_)
   ·
    refine Wp.done ?_
    have e:=f0O hc h ht
    unfold aAI
    rw [e,if_pos hc]
    rfl
   ·
    refine Wp.again ⟨i + 1,rfl,by omega,fun k hk=>?_⟩ (by show l.length - (i6 (i + 1)).val.toNat < l.length - (i6 i).val.toNat; rw [a0V (by omega),a0V (by omega)]; omega)
    rcases (by omega:k < i ∨ k = i) with h3 | rfl
    ·
     exact ht k h3
    ·
     exact h
  ·
   have hc:=of_decide_eq_false hc
   refine Wp.done ?_
   have e:=f4U fun k hk=>ht k (by omega)
   unfold aAI
   rw [if_neg (by omega)]
   rfl
 ·
  rw [a7S]
  show l.length - _ < _
  omega
theorem d6N {l:List Ac} {a:I .u64} (hl:l.length ≤ 1073741824):I.leb (I.of .i64 0) (aAI l a) = decide (aAt l a < l.length):=by
 unfold aAI
 by_cases h:aAt l a < l.length
 ·
  rw [if_pos h,decide_eq_true h]
  exact iff_leb.2 (by rw [a0V (by omega),show (I.of .i64 0).val = 0 from rfl]; omega)
 ·
  rw [if_neg h,decide_eq_false h]
  exact niff_leb.2 (by decide)
noncomputable def a8J (l:List Ac) (a:I .u64):Ac:=if aAt l a < l.length then rdL dA l (aAt l a) else (a,(Z_U,((I.of .u64 0),())))
def e1O (l:List Ac) (x:Ac):List Ac:=if aAt l x.1 < l.length then c1V l (aAt l x.1) x else l ++ [x]
theorem d9C (l:List Ac) (v:V4 × Unit) (a:I .u64) (hl:l.length ≤ 1073741824):a2Y K0 (((l,v),(a,())),()) = some ((a8J l a,()),()):=by
 refine Wp.out (T:=fun o=>o = some ((a8J l a,()),())) ?_
 unfold a2Y
 refine Wp.optF (at_eq l v a hl) ?_
 refine Wp.brn (fun h=>?_) (fun h=>?_)
 ·
  have h:I.leb (I.of .i64 0) (aAI l a) = true:=h
  rw [d6N hl] at h
  have h:=of_decide_eq_true h
  have e:aAI l a = i6 (aAt l a):=by unfold aAI; rw [if_pos h]
  refine Wp.brnT (by show inB (aAI l a) (a0I l) = true; rw [e]; exact a3S h (by omega)) ?_
  show some ((rdL dA l (I.nat (aAI l a)),()),()) = _
  rw [e,a3N (by omega)]
  unfold a8J
  rw [if_pos h]
 ·
  have h:I.leb (I.of .i64 0) (aAI l a) = false:=h
  rw [d6N hl] at h
  have h:=of_decide_eq_false h
  show some (((a,(Z_U,((I.of .u64 0),()))),()),()) = _
  unfold a8J
  rw [if_neg h]
theorem put_eq (l:List Ac) (h0:LgH) (x:Ac) (hl:l.length < 1073741824):a4Q K0 ((x,()),(h0,(l,()))) = some ((),(h0,(e1O l x,()))):=by
 refine Wp.out (T:=fun o=>o = some ((),(h0,(e1O l x,())))) ?_
 unfold a4Q
 refine Wp.optF (at_eq l h0.2 x.1 (by omega)) ?_
 refine Wp.brn (fun h=>?_) (fun h=>?_)
 ·
  have h:I.leb (I.of .i64 0) (aAI l x.1) = true:=h
  rw [d6N (by omega)] at h
  have h:=of_decide_eq_true h
  have e:aAI l x.1 = i6 (aAt l x.1):=by unfold aAI; rw [if_pos h]
  refine Wp.brnT (by show inB (aAI l x.1) (a0I l) = true; rw [e]; exact a3S h (by omega)) ?_
  show some ((),(h0,(c1V l (I.nat (aAI l x.1)) x,()))) = _
  rw [e,a3N (by omega)]
  unfold e1O
  rw [if_pos h]
 ·
  have h:I.leb (I.of .i64 0) (aAI l x.1) = false:=h
  rw [d6N (by omega)] at h
  have h:=of_decide_eq_false h
  refine Wp.brnT (b0J (by show (l ++ [x]).length ≤ _; rw [List.length_append]; show l.length + 1 ≤ _; omega)) ?_
  show some ((),(h0,(l ++ [x],()))) = _
  unfold e1O
  rw [if_neg h]
theorem d7V {X:Type} (l:List X) (i:Nat) (x:X):(c1V l i x).length = l.length:=by rw [c1V,a6Q,List.length_set]
theorem d8I (l:List Ac) (x:Ac):(e1O l x).length ≤ l.length + 1:=by
 unfold e1O
 split
 ·
  rw [d7V]; omega
 ·
  simp
def c6W (x:Ac) (n:U):Ac:=(x.1,(n,x.2.2))
noncomputable def b7J (l:List Ac) (a:I .u64) (n:U):List Ac:=e1O l (c6W (a8J l a) (U.of ((a8J l a).2.1.val + n.val)))
noncomputable def b0C (l:List Ac) (a:I .u64) (n:U):Bool:=decide (n.val ≤ (a8J l a).2.1.val)
noncomputable def a4S (l:List Ac) (a:I .u64) (n:U):List Ac:=if n.val ≤ (a8J l a).2.1.val then e1O l (c6W (a8J l a) (U.of ((a8J l a).2.1.val - n.val))) else l
theorem e7T {l:List Dg} {a:U} (h:IsB l a.val):l.length ≤ 1000000:=b4A h (k:=16) (Nat.lt_of_lt_of_le (U.lt a) (by decide)) (by decide)
theorem f6R {l:List Dg} {n:Nat} (h:IsB l n) (hn:n < U.top + U.top):l.length ≤ 1000000:=b4A h (k:=17) (Nat.lt_of_lt_of_le hn (by decide)) (by decide)
theorem e1J (l:List Ac) (h0:LgH) (a:I .u64) (n:U) (hl:l.length < 1073741824):a4T K0 ((a,(n,())),(h0,(l,()))) = some ((),(h0,(b7J l a n,()))):=by
 refine Wp.out (T:=fun o=>o = some ((),(h0,(b7J l a n,())))) ?_
 unfold a4T
 obtain ⟨b1,e1,B1⟩:=a1E (a8J l a).2.1
 obtain ⟨b2,e2,B2⟩:=a1E n
 obtain ⟨b3,e3,B3⟩:=b2F B1 B2 (e7T B1) (e7T B2)
 have e4:=c4Q B3 (f6R B3 (by have:=U.lt (a8J l a).2.1; have:=U.lt n; omega))
 exact Wp.optF (d9C l h0.2 a (by omega)) (Wp.optF e1 (Wp.optF e2 (Wp.optF e3 (Wp.optF e4 (Wp.optF (put_eq l h0 (c6W (a8J l a) (U.of ((a8J l a).2.1.val + n.val))) hl) rfl)))))
theorem d6G (l:List Ac) (h0:LgH) (a:I .u64) (n:U) (hl:l.length < 1073741824):a3U K0 ((a,(n,())),(h0,(l,()))) = some ((b0C l a n,()),(h0,(a4S l a n,()))):=by
 refine Wp.out (T:=fun o=>o = some ((b0C l a n,()),(h0,(a4S l a n,())))) ?_
 unfold a3U
 refine Wp.optF (d9C l h0.2 a (by omega)) (Wp.optF (c1H _ n) ?_)
 unfold b0C a4S e9R
 by_cases h:n.val ≤ (a8J l a).2.1.val
 ·
  simp only [if_pos h,decide_eq_true h]
  refine Wp.brnF (show I.neb (I.of .i64 0) (I.of .i64 0) = false by decide) ?_
  exact Wp.optF (put_eq l h0 (c6W (a8J l a) (U.of ((a8J l a).2.1.val - n.val))) hl) rfl
 ·
  simp only [if_neg h,decide_eq_false h]
  exact Wp.brnT (show I.neb (I.of .i64 4) (I.of .i64 0) = true by decide) rfl
theorem d2D (l:List Ac) (a:I .u64) (n:U):(b7J l a n).length ≤ l.length + 1:=d8I _ _
theorem c1K (l:List Ac) (a:I .u64) (n:U):(a4S l a n).length ≤ l.length + 1:=by
 unfold a4S
 split
 ·
  exact d8I _ _
 ·
  omega
end Sym

/- The ledger of the reference: payments, the supply. -/
namespace Sym
open Go
def g7L {X R S:Type} (g:R→S):Stp X R→Stp X S
 | .again y=>.again y
 | .done r=>.done (g r)
theorem f4O {X R S:Type} (g:R→S) (c:Bool) (t f:Stp X R):g7L g (brn c t f) = brn c (g7L g t) (g7L g f):=by cases c <;> rfl
theorem e6D {X R S:Type} (g:R→S) {fail:R} {f:X→Stp X R} {f':X→Stp X S} (h:∀ x,f' x = g7L g (f x)):∀ k x,iter (g fail) f' k x = g (iter fail f k x)
 | 0,_=>rfl
 | k + 1,x=>by
  unfold iter
  rw [h x]
  cases f x with
  | again y=>exact e6D g h k y
  | done r=>rfl
def g9K (o:Option ((List Dg × Unit) × Unit)):Option (Unit × (List Dg × Unit)):=match o with
 | some y=>some ((),(y.1.1,()))
 | none=>none
theorem f6D (a b:List Dg):a8Q K0 ((a,(b,())),()) = g9K (a1I K0 ((a,(b,())),())):=by
 unfold a8Q a1I
 refine e6D g9K (fail:=none) (fun x=>?_) _ _
 unfold jn
 dsimp only
 repeat erw [f4O]
 rfl
theorem f2F {a b:List Dg} {m n:Nat} (ha:IsB a m) (hb:IsB b n) (hal:a.length ≤ 1000000) (hbl:b.length ≤ 1000000):∃ r,a8Q K0 ((a,(b,())),()) = some ((),(r,()))∧IsB r (m + n):=by
 obtain ⟨r,h,hB⟩:=b2F ha hb hal hbl
 exact ⟨r,by rw [f6D]; exact congrArg g9K h,hB⟩
def c1D (l:List Ac):Nat:=(l.map fun x=>U.val x.2.1).sum
def e7M (v:V4):Nat:=v.1.val + v.2.1.val + v.2.2.1.val + v.2.2.2.1.val
theorem f1F {l:List Ac} {i:Nat} (h:i < l.length):c1D (l.take (i + 1)) = c1D (l.take i) + U.val (rdL dA l i).2.1:=by
 unfold c1D
 rw [List.take_add_one,List.getElem?_eq_getElem h,a3X _ _ _ h,List.map_append,List.sum_append]
 simp
theorem e2G (l:List Ac) (hl:l.length ≤ 1073741824):c1D l < 65536 ^ 19:=by
 have:∀ l:List Ac,c1D l ≤ l.length * U.top:=by
  intro l
  induction l with
  | nil=>exact Nat.zero_le _
  | cons x l ih =>
   have:=U.lt x.2.1
   show U.val x.2.1 + c1D l ≤ (l.length + 1) * U.top
   rw [Nat.add_mul]
   omega
 have h1:=this l
 have h2:l.length * U.top ≤ 1073741824 * U.top:=Nat.mul_le_mul_right _ hl
 have h3:1073741824 * U.top < 65536 ^ 19:=by decide
 omega
theorem f5K {l:List Dg} {n:Nat} (h:IsB l n) (hn:n < 65536 ^ 20):l.length ≤ 1000000:=b4A h (k:=20) hn (by decide)
def d8W (v:V4) (i:Nat):Nat:=(if 0 < i then v.1.val else 0) + (if 1 < i then v.2.1.val else 0) + (if 2 < i then v.2.2.1.val else 0) + (if 3 < i then v.2.2.2.1.val else 0)
theorem f1A (v:V4) (i:Nat) (h:i < 4):d8W v (i + 1) = d8W v i + U.val (Arr.sel Z_U 4 v i):=by
 rcases (by omega:i = 0 ∨ i = 1 ∨ i = 2 ∨ i = 3) with rfl | rfl | rfl | rfl
 ·
  show d8W v 1 = d8W v 0 + U.val v.1; simp [d8W]
 ·
  show d8W v 2 = d8W v 1 + U.val v.2.1; simp [d8W]
 ·
  show d8W v 3 = d8W v 2 + U.val v.2.2.1; simp [d8W]
 ·
  show d8W v 4 = d8W v 3 + U.val v.2.2.2.1; simp [d8W]
theorem f0A (v:V4) (i:Nat):d8W v i < 65536 ^ 18:=by
 have h0:=U.lt v.1; have h1:=U.lt v.2.1; have h2:=U.lt v.2.2.1; have h3:=U.lt v.2.2.2.1
 have:4 * U.top < 65536 ^ 18:=by decide
 unfold d8W
 split <;> split <;> split <;> split <;> omega
theorem e9U (l:List Ac) (v:V4) (hl:l.length ≤ 1073741824):∃ y,a6F K0 (((l,(v,())),()),()) = some y∧∃ r,y = ((r,()),())∧IsB r (c1D l + e7M v):=by
 refine Wp.out (T:=fun o=>∃ y,o = some y∧∃ r,y = ((r,()),())∧IsB r (c1D l + e7M v)) ?_
 unfold a6F
 have hp:(65536 ^ 20:Nat) = 65536 * 65536 ^ 19:=by decide
 have hp2:(65536 ^ 19:Nat) = 65536 * 65536 ^ 18:=by decide
 have hb:=e2G l hl
 refine Wp.iter (fun s=>∃ (i:Nat) (r:List Dg),s = (((l,(v,())),(i6 i,())),(r,()))∧i ≤ l.length∧IsB r (c1D (l.take i))) (fun s=>l.length - s.1.2.1.val.toNat) ?_ ⟨0,[],rfl,by omega,⟨(fun _ h=>by cases h),trivial,rfl⟩⟩ (by rw [a7S]; show l.length - _ < _; omega)
 rintro s ⟨i,r,rfl,hi,hB⟩
 simp only [b0T,a9B,c0I,b4N,a3A (show i < 9223372036854775808 by omega) (show l.length < 9223372036854775808 by omega),a3N (show i < 9223372036854775808 by omega),a4C (show i + 1 < 9223372036854775808 by omega)]
 refine Wp.brn (fun hc=>?_) (fun hc=>?_)
 ·
  have hc:=of_decide_eq_true hc
  refine Wp.brnT (a3S (by omega) (by omega)) ?_
  obtain ⟨b1,e1,B1⟩:=a1E (rdL dA l i).2.1
  have hlt:c1D (l.take i) < 65536 ^ 20:=by
   have:=e2G (l.take i) (by rw [List.length_take]; omega)
   omega
  obtain ⟨b2,e2,B2⟩:=f2F hB B1 (f5K hB hlt) (e7T B1)
  refine Wp.optF e1 (Wp.optF e2 ?_)
  exact Wp.again ⟨i + 1,b2,rfl,by omega,by rw [f1F hc]; exact B2⟩ (by show l.length - (i6 (i + 1)).val.toNat < l.length - (i6 i).val.toNat; rw [a0V (by omega),a0V (by omega)]; omega)
 ·
  have hc:i = l.length:=by have:=of_decide_eq_false hc; omega
  subst hc
  rw [List.take_length] at hB
  refine Wp.done ?_
  refine Wp.iter (fun s=>∃ (i:Nat) (r:List Dg),s = (((l,(v,())),(i6 i,())),(r,()))∧i ≤ 4∧IsB r (c1D l + d8W v i)) (fun s=>4 - s.1.2.1.val.toNat) ?_ ⟨0,r,rfl,by omega,hB⟩ (by rw [a7S]; show 4 - 0 < _; decide)
  rintro s ⟨i,r,rfl,hi,hB⟩
  simp only [show (I.of .i64 4) = i6 4 from rfl,a3A (show i < 9223372036854775808 by omega) (show 4 < 9223372036854775808 by omega),a3N (show i < 9223372036854775808 by omega),a4C (show i + 1 < 9223372036854775808 by omega)]
  refine Wp.brn (fun hc=>?_) (fun hc=>?_)
  ·
   have hc:=of_decide_eq_true hc
   refine Wp.brnT (a3S (by omega) (by omega)) ?_
   obtain ⟨b1,e1,B1⟩:=a1E (Arr.sel Z_U 4 v i)
   have hv:=f0A v i
   obtain ⟨b2,e2,B2⟩:=f2F hB B1 (f5K hB (by omega)) (e7T B1)
   refine Wp.optF e1 (Wp.optF e2 ?_)
   exact Wp.again ⟨i + 1,b2,rfl,by omega,by rw [f1A v i hc,← Nat.add_assoc]; exact B2⟩ (by show 4 - (i6 (i + 1)).val.toNat < 4 - (i6 i).val.toNat; rw [a0V (by omega),a0V (by omega)]; omega)
  ·
   have hc:i = 4:=by have:=of_decide_eq_false hc; omega
   subst hc
   exact Wp.done ⟨_,rfl,r,rfl,hB⟩
end Sym

/- The ledger of the reference: its methods. -/
namespace Sym
open Go
abbrev LgR:Type:=I .i64 × V4 × List Ac
noncomputable def c6M (v:V4) (l:List Ac) (a:I .u64) (n:U):LgR :=
 if a.val = 0 then (I.of .i64 2,v,l)
 else if c1D l + e7M v + n.val < U.top then (I.of .i64 0,v,b7J l a n) else (I.of .i64 4,v,l)
def lgH (v:V4):LgH:=((),(v,()))
theorem g0O (v:V4) (l:List Ac) (a:I .u64) (n:U) (hl:l.length < 1073741824) :
  a7G K0 ((a,(n,())),(lgH v,(l,()))) = some (((c6M v l a n).1,()),(lgH (c6M v l a n).2.1,((c6M v l a n).2.2,()))):=by
 refine Wp.out (T:=fun o=>o = some (((c6M v l a n).1,()),(lgH (c6M v l a n).2.1,((c6M v l a n).2.2,())))) ?_
 unfold a7G c6M
 refine Wp.brn (fun h=>?_) (fun h=>?_)
 ·
  rw [if_pos (by have:=iff_eqb.1 h; exact this)]
  rfl
 ·
  rw [if_neg (by have:=niff_eqb.1 h; exact this)]
  obtain ⟨y,hy,r,rfl,hB⟩:=e9U l v (by omega)
  obtain ⟨b1,e1,B1⟩:=a1E n
  have hb:=e2G l (by omega)
  have hv:=f0A v 4
  have hv':d8W v 4 = e7M v:=rfl
  have hp:(65536 ^ 20:Nat) = 65536 * 65536 ^ 19:=by decide
  have hp2:(65536 ^ 19:Nat) = 65536 * 65536 ^ 18:=by decide
  have hn:=U.lt n
  have ht:U.top < 65536 ^ 18:=by decide
  obtain ⟨b2,e2,B2⟩:=b2F hB B1 (f5K hB (by omega)) (e7T B1)
  have e3:=d9Z B2 (f5K B2 (by omega))
  refine Wp.optF hy (Wp.optF e1 (Wp.optF e2 (Wp.optF e3 ?_)))
  by_cases hc:c1D l + e7M v + n.val < U.top
  ·
   rw [if_pos hc]
   refine Wp.brnF (by rw [decide_eq_true hc]; rfl) ?_
   exact Wp.optF (e1J l (lgH v) a n hl) rfl
  ·
   rw [if_neg hc]
   exact Wp.brnT (by rw [decide_eq_false hc]; rfl) rfl
def f8T (v:V4) (k:Nat) (n:U):V4:=Arr.upd 4 v k n
noncomputable def d5N (v:V4) (k:Nat):U:=Arr.sel Z_U 4 v k
noncomputable def c5Y (v:V4) (l:List Ac) (a:I .u64) (k:Nat) (n:U):LgR :=
 if a.val = 0 then (I.of .i64 2,v,l)
 else if b0C l a n = true then (I.of .i64 0,f8T v k (U.of ((d5N v k).val + n.val)),a4S l a n) else (I.of .i64 10,v,a4S l a n)
theorem d8P (v:V4) (l:List Ac) (a:I .u64) (k:Nat) (hk:k < 4) (n:U) (hl:l.length < 1073741824) :
  a2O K0 ((a,(i6 (k + 1),(n,()))),(lgH v,(l,()))) = some (((c5Y v l a k n).1,()),(lgH (c5Y v l a k n).2.1,((c5Y v l a k n).2.2,()))):=by
 refine Wp.out (T:=fun o=>o = some (((c5Y v l a k n).1,()),(lgH (c5Y v l a k n).2.1,((c5Y v l a k n).2.2,())))) ?_
 unfold a2O c5Y
 have hsub:I.sub (i6 (k + 1)) (I.of .i64 1) = i6 k:=by rw [b4N,c0A (by omega) (by omega)]; rfl
 refine Wp.jn (fun x=>a.val ≠ 0∧x = ((a,(i6 (k + 1),())),(lgH v,(l,(n,()))))) ?_ ?_
 ·
  rintro x ⟨ha,rfl⟩
  rw [if_neg ha]
  refine Wp.optF (d6G l (lgH v) a n hl) ?_
  refine Wp.brn (fun h=>?_) (fun h=>?_)
  ·
   have h:b0C l a n = false:=by revert h; show a5Q (b0C l a n) = true→_; cases b0C l a n <;> simp [a5Q]
   rw [if_neg (by rw [h]; decide)]
   rfl
  ·
   have h:b0C l a n = true:=by revert h; show a5Q (b0C l a n) = false→_; cases b0C l a n <;> simp [a5Q]
   rw [if_pos h]
   have hin:inB (I.sub (i6 (k + 1)) (I.of .i64 1)) 4 = true:=by rw [hsub]; exact a3S hk (by omega)
   refine Wp.brnT hin ?_
   simp only [hsub,a3N (show k < 9223372036854775808 by omega)]
   obtain ⟨b1,e1,B1⟩:=a1E (d5N v k)
   obtain ⟨b2,e2,B2⟩:=a1E n
   obtain ⟨b3,e3,B3⟩:=b2F B1 B2 (e7T B1) (e7T B2)
   have e4:=c4Q B3 (f6R B3 (by have:=U.lt (d5N v k); have:=U.lt n; omega))
   exact Wp.optF e1 (Wp.optF e2 (Wp.optF e3 (Wp.optF e4 (Wp.brnT (a3S hk (by omega)) rfl))))
 ·
  intro j hj
  refine Wp.brn (fun h=>?_) (fun h=>?_)
  ·
   rw [if_pos (by have:=iff_eqb.1 h; exact this)]
   rfl
  ·
   have ha:a.val ≠ 0:=by have:=niff_eqb.1 h; exact this
   refine Wp.brnF (niff_ltb.2 (by show (I.of .i64 1).val ≤ (i6 (k + 1)).val; rw [a0V (by omega),show (I.of .i64 1).val = 1 from rfl]; omega)) ?_
   refine Wp.brnF (niff_ltb.2 (by show (i6 (k + 1)).val ≤ (I.of .i64 4).val; rw [a0V (by omega),show (I.of .i64 4).val = 4 from rfl]; omega)) ?_
   exact hj _ ⟨ha,rfl⟩
noncomputable def e9D (l:List Ac) (a:I .u64):I .i64 × List Ac :=
 if a.val = 0 then (I.of .i64 2,l)
 else if (I.add (a8J l a).2.2.1 (I.of .u64 1)).val = 0 then (I.of .i64 4,l)
 else (I.of .i64 0,e1O l ((a8J l a).1,((a8J l a).2.1,(I.add (a8J l a).2.2.1 (I.of .u64 1),(a8J l a).2.2.2))))
theorem g6F (v:V4) (l:List Ac) (a:I .u64) (hl:l.length < 1073741824) :
  a3T K0 ((a,()),(lgH v,(l,()))) = some (((e9D l a).1,()),(lgH v,((e9D l a).2,()))):=by
 refine Wp.out (T:=fun o=>o = some (((e9D l a).1,()),(lgH v,((e9D l a).2,())))) ?_
 unfold a3T e9D
 refine Wp.brn (fun h=>?_) (fun h=>?_)
 ·
  rw [if_pos (by have:=iff_eqb.1 h; exact this)]
  rfl
 ·
  rw [if_neg (by have:=niff_eqb.1 h; exact this)]
  refine Wp.optF (d9C l (lgH v).2 a (by omega)) ?_
  refine Wp.brn (fun h=>?_) (fun h=>?_)
  ·
   rw [if_pos (by have:=iff_eqb.1 h; exact this)]
   rfl
  ·
   rw [if_neg (by have:=niff_eqb.1 h; exact this)]
   exact Wp.optF (put_eq l (lgH v) ((a8J l a).1,((a8J l a).2.1,(I.add (a8J l a).2.2.1 (I.of .u64 1),(a8J l a).2.2.2))) hl) rfl
noncomputable def e1P (l:List Ac) (a:I .u64) (n:U):I .i64 × List Ac :=
 if a.val = 0 then (I.of .i64 2,l) else (if b0C l a n = true then I.of .i64 0 else I.of .i64 10,a4S l a n)
theorem g4K (v:V4) (l:List Ac) (a:I .u64) (n:U) (hl:l.length < 1073741824) :
  a5L K0 ((a,(n,())),(lgH v,(l,()))) = some (((e1P l a n).1,()),(lgH v,((e1P l a n).2,()))):=by
 refine Wp.out (T:=fun o=>o = some (((e1P l a n).1,()),(lgH v,((e1P l a n).2,())))) ?_
 unfold a5L e1P
 refine Wp.brn (fun h=>?_) (fun h=>?_)
 ·
  rw [if_pos (by have:=iff_eqb.1 h; exact this)]
  rfl
 ·
  rw [if_neg (by have:=niff_eqb.1 h; exact this)]
  refine Wp.optF (d6G l (lgH v) a n hl) ?_
  refine Wp.brn (fun h=>?_) (fun h=>?_)
  ·
   have h:b0C l a n = false:=by revert h; show a5Q (b0C l a n) = true→_; cases b0C l a n <;> simp [a5Q]
   rw [if_neg (by rw [h]; decide)]
   rfl
  ·
   have h:b0C l a n = true:=by revert h; show a5Q (b0C l a n) = false→_; cases b0C l a n <;> simp [a5Q]
   rw [if_pos h]
   rfl
noncomputable def e9C (l:List Ac) (a b:I .u64) (n:U):I .i64 × List Ac :=
 if a.val = 0 ∨ b.val = 0 then (I.of .i64 2,l)
 else if b0C l a n = true then (I.of .i64 0,b7J (a4S l a n) b n) else (I.of .i64 10,a4S l a n)
theorem g6O (v:V4) (l:List Ac) (a b:I .u64) (n:U) (hl:l.length < 1073741823) :
  a5M K0 ((a,(b,(n,()))),(lgH v,(l,()))) = some (((e9C l a b n).1,()),(lgH v,((e9C l a b n).2,()))):=by
 refine Wp.out (T:=fun o=>o = some (((e9C l a b n).1,()),(lgH v,((e9C l a b n).2,())))) ?_
 unfold a5M e9C
 refine Wp.jn (fun x=>(a.val ≠ 0∧b.val ≠ 0)∧x = ((a,(b,())),(lgH v,(l,(n,()))))) ?_ ?_
 ·
  rintro x ⟨⟨ha,hb⟩,rfl⟩
  rw [if_neg (by omega)]
  refine Wp.optF (d6G l (lgH v) a n (by omega)) ?_
  refine Wp.brn (fun h=>?_) (fun h=>?_)
  ·
   have h:b0C l a n = false:=by revert h; show a5Q (b0C l a n) = true→_; cases b0C l a n <;> simp [a5Q]
   rw [if_neg (by rw [h]; decide)]
   rfl
  ·
   have h:b0C l a n = true:=by revert h; show a5Q (b0C l a n) = false→_; cases b0C l a n <;> simp [a5Q]
   rw [if_pos h]
   exact Wp.optF (e1J (a4S l a n) (lgH v) b n (by have:=c1K l a n; omega)) rfl
 ·
  intro j hj
  refine Wp.brn (fun h=>?_) (fun h=>?_)
  ·
   rw [if_pos (.inl (by have:=iff_eqb.1 h; exact this))]
   rfl
  ·
   have ha:a.val ≠ 0:=by have:=niff_eqb.1 h; exact this
   refine Wp.brn (fun h=>?_) (fun h=>?_)
   ·
    rw [if_pos (.inr (by have:=iff_eqb.1 h; exact this))]
    rfl
   ·
    exact hj _ ⟨⟨ha,by have:=niff_eqb.1 h; exact this⟩,rfl⟩
end Sym

/- The fees: the whole charge; both programs answer alike. -/
namespace Sym
open Go
def chg (g:I .u64 × I .u64 × I .i64) (lim ex:I .u64) (tip:U):CH :=
 (g.1,g.2.1,I.of .u64 (f6J lim ex g.2.1:Int),I.of .u64 ((g.2.1.nat + f6J lim ex g.2.1:Nat):Int),decide (f6J lim ex g.2.1 < ex.nat),tip,zU,zU,zU,zU,())
def d9X (data:List B8) (lim:I .u64) (cap base unit:U) (p:Prm):I .u64 × I .u64 × I .i64 :=
 if a6W p = false then (I.of .u64 0,I.of .u64 0,I.of .i64 15)
 else if base.val = 0 then (I.of .u64 0,I.of .u64 0,I.of .i64 5)
 else if cap.val < base.val then (I.of .u64 0,I.of .u64 0,I.of .i64 12)
 else g2C data lim base unit p.2.2.2.2.2.2.2.2.2.2.1 p.2.2.2.2.2.2.2.2.2.2.2.1
def e2K (data:List B8) (lim ex:I .u64) (cap tip base unit:U) (p:Prm):CH × I .i64 :=
 if I.neb (d9X data lim cap base unit p).2.2 (I.of .i64 0) = true then (zCH,(d9X data lim cap base unit p).2.2)
 else g0Y (chg (d9X data lim cap base unit p) lim ex (U.of (min tip.val (cap.val - base.val)))) base p.2.2.2.2.2.1 p.2.2.2.2.2.2.1
theorem d1R {p:Prm} (h:a6W p = true):p.2.2.2.2.2.2.1.nat ≤ 10000:=by
 rw [c8I] at h
 have h7:=of_decide_eq_true (h 7 (by omega) (by omega))
 replace h7:(I.of .u64 0).nat ≤ (d3I p.2.2.2.2.2.2.1).val∧(d3I p.2.2.2.2.2.2.1).val ≤ (I.of .u64 10000).nat:=h7
 rw [c5F] at h7
 have e2:(I.of .u64 10000).nat = 10000:=rfl
 rw [e2] at h7
 exact h7.2
theorem g3S {n:Nat} (h:n < 18446744073709551616):n < 65536 ^ 64:=Nat.lt_trans h (by decide)
theorem g5L {n:Nat} (h:n < 20000 * (U.top * 18446744073709551616)):n < 65536 ^ 64:=Nat.lt_trans h (by decide)
theorem bigB' {n:Nat} (h:n < U.top * 18446744073709551616):n < 65536 ^ 64:=Nat.lt_trans h (by decide)
theorem g7K (a:U) {x:Nat} (hx:x < 18446744073709551616):a.val * x < U.top * 18446744073709551616:=by
 have h1:a.val * x ≤ a.val * 18446744073709551616:=Nat.mul_le_mul_left _ (Nat.le_of_lt hx)
 have h2:a.val * 18446744073709551616 < U.top * 18446744073709551616:=Nat.mul_lt_mul_of_pos_right a.lt (by decide)
 omega
theorem f0E (m n:Nat):I.ltb (c3J m n) (I.of .i64 0) = decide (m < n):=by
 unfold c3J
 by_cases h:m < n
 ·
  rw [if_pos h,decide_eq_true h]; rfl
 ·
  rw [if_neg h,decide_eq_false h]; split <;> rfl
theorem f1D (m n:Nat):I.ltb (I.of .i64 0) (c3J m n) = decide (n < m):=by
 unfold c3J
 by_cases h:m < n
 ·
  rw [if_pos h,decide_eq_false (by omega)]; rfl
 ·
  rw [if_neg h]
  by_cases h2:n < m
  ·
   rw [if_pos h2,decide_eq_true h2]; rfl
  ·
   rw [if_neg h2,decide_eq_false h2]; rfl
theorem f0M (f1 f2 f3 lim ex:I .u64) (data:List B8) (v cap tip base unit:U) (p:Prm) (hd:data.length ≤ 100000000) :
  b4E K0 (((f1,f2,f3,v,lim,cap,tip,ex,data,()),base,unit,p,()),()) = some (((d9X data lim cap base unit p).1,(d9X data lim cap base unit p).2.1,(d9X data lim cap base unit p).2.2,()),()):=by
 generalize hg:d9X data lim cap base unit p = R
 refine Wp.out (T:=fun o=>o = some ((R.1,R.2.1,R.2.2,()),())) ?_
 unfold d9X at hg
 unfold b4E
 refine Wp.optF (b6B p) ?_
 refine Wp.brn (fun h=>?_) (fun h=>?_)
 ·
  have h:a6W p = false:=b3J h
  rw [if_pos h] at hg
  rw [← hg]; rfl
 have hv:a6W p = true:=b3G h
 rw [if_neg (show ¬ a6W p = false by rw [hv]; simp)] at hg
 refine Wp.optF (c2G base) ?_
 refine Wp.brn (fun h=>?_) (fun h=>?_)
 ·
  have h:base.val = 0:=of_decide_eq_true h
  rw [if_pos h] at hg
  rw [← hg]; rfl
 have h0:base.val ≠ 0:=of_decide_eq_false h
 rw [if_neg h0] at hg
 have hcl:=cap.lt
 have hbl:=base.lt
 have hul:=unit.lt
 obtain ⟨l1,e1,b1⟩:=a1E cap
 obtain ⟨l2,e2,b2⟩:=a1E base
 refine Wp.optF e1 (Wp.optF e2 ?_)
 refine Wp.optF (c4L b1 b2 (a6P b1 (b4S (by omega))) (a6P b2 (b4S (by omega)))) ?_
 refine Wp.brn (fun h=>?_) (fun h=>?_)
 ·
  rw [f0E] at h
  rw [if_pos (of_decide_eq_true h)] at hg
  rw [← hg]; rfl
 rw [f0E] at h
 rw [if_neg (of_decide_eq_false h)] at hg
 refine Wp.optF (f2T data _ _ hd) ?_
 unfold g2C at hg
 generalize b9R data p.2.2.2.2.2.2.2.2.2.2.1 p.2.2.2.2.2.2.2.2.2.2.2.1 = u at hg ⊢
 refine Wp.brn (fun h=>?_) (fun h=>?_)
 ·
  have h:I.neb u.2 (I.of .i64 0) = true:=h
  rw [if_pos h] at hg
  rw [← hg]; rfl
 have h:I.neb u.2 (I.of .i64 0) = false:=h
 rw [if_neg (show ¬ I.neb u.2 (I.of .i64 0) = true by rw [h]; simp)] at hg
 obtain ⟨l3,e3,b3⟩:=a1K u.1
 obtain ⟨l4,e4,b4⟩:=a1E unit
 have hu1:=a3I u.1
 have hm:=g7K unit hu1
 rw [Nat.mul_comm] at hm
 refine Wp.optF e3 (Wp.optF e4 ?_)
 obtain ⟨l5,e5,b5⟩:=b2L b3 b4 (a6P b3 (g3S hu1)) (a6P b4 (b4S (by omega)))
 have hl5:=a6P b5 (bigB' hm)
 refine Wp.optF e5 (Wp.optF (c2Q b5 (Nat.lt_of_le_of_lt hl5 (by decide))) ?_)
 refine Wp.brn (fun h=>?_) (fun h=>?_)
 ·
  have h:=of_decide_eq_false (b3J h)
  rw [if_pos (by omega)] at hg
  rw [← hg]; rfl
 have h:=of_decide_eq_true (b3G h)
 rw [if_neg (by omega)] at hg
 refine Wp.optF e2 ?_
 obtain ⟨l6,l7,e6,b6,b7⟩:=c4H b5 b2 h0 hl5 (Nat.le_trans (b2.len.2 (Nat.lt_of_lt_of_le base.lt (Nat.le_of_eq top_pow'))) (by decide))
 have hq:u.1.nat * unit.val / base.val < U.top:=Nat.lt_of_le_of_lt (Nat.div_le_self _ _) (by omega)
 generalize u.1.nat * unit.val / base.val = q at hg hq b6 ⊢
 refine Wp.optF e6 ?_
 obtain ⟨l8,e8,b8⟩:=a1K lim
 have hlim:=a3I lim
 refine Wp.optF e8 ?_
 refine Wp.optF (c4L b6 b8 (a6P b6 (b4S (by omega))) (a6P b8 (g3S (by omega)))) ?_
 refine Wp.brn (fun h=>?_) (fun h=>?_)
 ·
  rw [f1D] at h
  rw [if_pos (of_decide_eq_true h)] at hg
  rw [← hg]; rfl
 rw [f1D] at h
 have h:=of_decide_eq_false h
 rw [if_neg h] at hg
 refine Wp.optF (a2Z b6 hq) ?_
 rw [← hg]
 show some ((u.1,(U.of q).1,I.of .i64 0,()),()) = _
 rw [g8H (by omega)]
theorem e3E (f1 f2 f3 lim ex:I .u64) (data:List B8) (v cap tip base unit:U) (p:Prm) (hd:data.length ≤ 100000000) :
  a9N K0 (((f1,f2,f3,v,lim,cap,tip,ex,data,()),base,unit,p,()),()) = some (((e2K data lim ex cap tip base unit p).1,(e2K data lim ex cap tip base unit p).2,()),()):=by
 generalize hg:e2K data lim ex cap tip base unit p = R
 refine Wp.out (T:=fun o=>o = some ((R.1,R.2,()),())) ?_
 unfold e2K at hg
 unfold a9N
 refine Wp.optF (f0M f1 f2 f3 lim ex data v cap tip base unit p hd) ?_
 have hprem:I.neb (d9X data lim cap base unit p).2.2 (I.of .i64 0) = false→a6W p = true∧base.val ≤ cap.val∧(d9X data lim cap base unit p).2.1.nat ≤ lim.nat:=by
  intro h
  unfold d9X g2C at h ⊢
  split at h
  ·
   exact absurd h (by decide)
  ·
   rename_i hv
   rw [if_neg hv]
   split at h
   ·
    exact absurd h (by decide)
   ·
    rename_i h0
    rw [if_neg h0]
    split at h
    ·
     exact absurd h (by decide)
    ·
     rename_i hc
     rw [if_neg hc]
     split at h
     ·
      rename_i hu
      exact absurd (h.symm.trans hu) (by decide)
     ·
      rename_i hu
      rw [if_neg hu]
      split at h
      ·
       exact absurd h (by decide)
      ·
       rename_i ht
       rw [if_neg ht]
       split at h
       ·
        exact absurd h (by decide)
       ·
        rename_i hq
        rw [if_neg hq]
        refine ⟨by simpa using hv,Nat.le_of_not_lt hc,?_⟩
        have:=a3I lim
        show (I.of .u64 (_:Int)).nat ≤ _
        rw [b5P (by omega)]
        omega
 generalize d9X data lim cap base unit p = g at hg hprem ⊢
 obtain ⟨u,po,er⟩:=g
 refine Wp.brn (fun h=>?_) (fun h=>?_)
 ·
  have h:I.neb er (I.of .i64 0) = true:=h
  rw [if_pos h] at hg
  rw [← hg]; rfl
 have h:I.neb er (I.of .i64 0) = false:=h
 obtain ⟨hv,hc,hpo⟩:=hprem h
 simp only at hpo
 rw [if_neg (show ¬ I.neb ((u,po,er):I .u64 × I .u64 × I .i64).2.2 (I.of .i64 0) = true by rw [show I.neb ((u,po,er):I .u64 × I .u64 × I .i64).2.2 (I.of .i64 0) = false from h]; simp)] at hg
 have hb:=d1R hv
 have hlim:=a3I lim
 have hex:=a3I ex
 have hcl:=cap.lt
 have hbl:=base.lt
 have htl:=tip.lt
 obtain ⟨E,hE⟩:∃ E,E = f6J lim ex po:=⟨_,rfl⟩
 have hEl:E ≤ lim.nat - po.nat:=by rw [hE]; unfold f6J; omega
 have hEn:(I.of .u64 (E:Int)).nat = E:=b5P (by omega)
 refine Wp.jn (fun x=>x = ((po,()),((f1,f2,f3,v,lim,cap,tip,ex,data,()),base,p,zCH,(u,po,I.of .u64 (E:Int),I.of .u64 0,decide (E < ex.nat),zU,zU,zU,zU,zU,()),()))) ?_ ?_
 ·
  rintro x rfl
  unfold g0Y chg at hg
  simp only at hg
  rw [← hE] at hg
  rw [hEn,b5P (n:=po.nat + E) (by omega)] at hg
  obtain ⟨l2,e2,b2⟩:=a1E base
  obtain ⟨l3,e3,b3⟩:=f9B f1 f2 f3 lim ex data v cap tip base hc
  obtain ⟨l4,e4,b4⟩:=a1K po
  have hpo64:=a3I po
  have hl2:=a6P b2 (b4S (by omega))
  have hl4:=a6P b4 (g3S hpo64)
  have hm1:=g7K base hpo64
  refine Wp.optF e2 (Wp.optF e3 (Wp.optF e4 ?_))
  obtain ⟨l5,e5,b5⟩:=b2L b2 b4 hl2 hl4
  have hl5:=a6P b5 (bigB' hm1)
  refine Wp.optF e5 ?_
  obtain ⟨l6,e6,b6⟩:=a1K (I.of .u64 (E:Int))
  rw [hEn] at b6
  have hE64:E < 18446744073709551616:=by omega
  have hl6:=a6P b6 (g3S hE64)
  refine Wp.optF e6 ?_
  obtain ⟨l7,e7,b7⟩:=b2L b2 b6 hl2 hl6
  have hm2:=g7K base hE64
  have hl7:=a6P b7 (bigB' hm2)
  refine Wp.optF e7 ?_
  obtain ⟨l8,e8,b8⟩:=a1E p.2.2.2.2.2.1
  have hil:=U.lt p.2.2.2.2.2.1
  have hl8:=a6P b8 (b4S (by omega))
  refine Wp.optF e8 ?_
  obtain ⟨l9,e9,b9⟩:=f1T b8 b2 hl8 hl2
  have hl9:=a6P b9 (b4S (by omega))
  refine Wp.optF e9 (Wp.optF e6 ?_)
  obtain ⟨l11,e11,b11⟩:=b2L b9 b6 hl9 hl6
  have hinf:min (U.val p.2.2.2.2.2.1) base.val * E ≤ base.val * E:=Nat.mul_le_mul_right _ (Nat.min_le_right _ _)
  refine Wp.optF e11 ?_
  obtain ⟨l12,e12,b12⟩:=c7D b7 b11 hinf hl7
  have hl12:=a6P b12 (g5L (by omega))
  have hnet:base.val * E - min (U.val p.2.2.2.2.2.1) base.val * E = e4S base p.2.2.2.2.2.1 E:=rfl
  rw [hnet] at b12
  refine Wp.optF e12 ?_
  obtain ⟨l13,e13,b13⟩:=a1K p.2.2.2.2.2.2.1
  have hl13:=a6P b13 (g3S (by omega))
  refine Wp.optF e13 ?_
  obtain ⟨l14,e14,b14⟩:=b2L b12 b13 hl12 hl13
  have hm3:e4S base p.2.2.2.2.2.1 E * p.2.2.2.2.2.2.1.nat ≤ e4S base p.2.2.2.2.2.1 E * 10000:=Nat.mul_le_mul_left _ hb
  have hl14:=a6P b14 (g5L (by omega))
  refine Wp.optF e14 ?_
  obtain ⟨l15,e15,b15⟩:=a1K (I.of .u64 10000)
  have e10k:(I.of .u64 10000).nat = 10000:=rfl
  rw [e10k] at b15
  refine Wp.optF e15 ?_
  obtain ⟨l16,l16',e16,b16,_⟩:=c4H b14 b15 (by decide) hl14 (Nat.le_trans ((IsB.len b15 (k:=1)).2 (by decide)) (by decide))
  have hburn:e4S base p.2.2.2.2.2.1 E * p.2.2.2.2.2.2.1.nat / 10000 = c7U base p.2.2.2.2.2.1 p.2.2.2.2.2.2.1 E:=rfl
  rw [hburn] at b16
  have hbl2:c7U base p.2.2.2.2.2.1 p.2.2.2.2.2.2.1 E ≤ e4S base p.2.2.2.2.2.1 E:=e6C _ _ hb
  refine Wp.optF e16 ?_
  obtain ⟨l17,e17,b17⟩:=c7D b12 b16 hbl2 hl12
  refine Wp.optF e17 ?_
  have eadd:I.add po (I.of .u64 (E:Int)) = I.of .u64 ((po.nat + E:Nat):Int):=by
   apply e2X
   rw [c5L _ _ (by omega),hEn,b5P (by omega)]
  obtain ⟨l18,e18,b18⟩:=a1K (I.add po (I.of .u64 (E:Int)))
  rw [c5L _ _ (by omega),hEn] at b18
  refine Wp.optF e18 ?_
  have hl18:=a6P b18 (g3S (by omega))
  have hl3:=a6P b3 (b4S (by omega))
  obtain ⟨l19,e19,b19⟩:=b2L b3 b18 hl3 hl18
  have hm4:min tip.val (cap.val - base.val) * (po.nat + E) ≤ cap.val * (po.nat + E):=Nat.mul_le_mul_right _ (by omega)
  have hm5:=g7K cap (x:=po.nat + E) (by omega)
  have hl19:=a6P b19 (g5L (by omega))
  refine Wp.optF e19 ?_
  obtain ⟨l20,e20,b20⟩:=b2F b17 b19 (a6P b17 (g5L (by omega))) hl19
  have hrest:e4S base p.2.2.2.2.2.1 E - c7U base p.2.2.2.2.2.1 p.2.2.2.2.2.2.1 E + min tip.val (cap.val - base.val) * (po.nat + E) = f2P base p.2.2.2.2.2.1 (U.of (min tip.val (cap.val - base.val))) p.2.2.2.2.2.2.1 E (po.nat + E):=by
   unfold f2P
   rw [U.val_of (by omega)]
  have hl20:=a6P b20 (g5L (by omega))
  rw [hrest] at b20
  refine Wp.optF e20 (Wp.jnZ ?_)
  refine Wp.optF (c2Q b5 (Nat.lt_of_le_of_lt hl5 (by decide))) ?_
  refine Wp.brn (fun h=>?_) (fun h=>?_)
  ·
   have h:=of_decide_eq_false (b3J h)
   rw [if_pos (.inl (by omega))] at hg
   rw [← hg]; rfl
  have h1:=of_decide_eq_true (b3G h)
  refine Wp.optF (c2Q b7 (Nat.lt_of_le_of_lt hl7 (by decide))) ?_
  refine Wp.brn (fun h=>?_) (fun h=>?_)
  ·
   have h:=of_decide_eq_false (b3J h)
   rw [if_pos (.inr (.inl (by omega)))] at hg
   rw [← hg]; rfl
  have h2:=of_decide_eq_true (b3G h)
  refine Wp.optF (c2Q b20 (Nat.lt_of_le_of_lt hl20 (by decide))) ?_
  refine Wp.brn (fun h=>?_) (fun h=>?_)
  ·
   have h:=of_decide_eq_false (b3J h)
   rw [if_pos (.inr (.inr (by omega)))] at hg
   rw [← hg]; rfl
  have h3:=of_decide_eq_true (b3G h)
  rw [if_neg (by rintro (h | h | h) <;> omega)] at hg
  refine Wp.optF (a2Z b3 (by omega)) (Wp.optF (a2Z b5 h1) (Wp.optF (a2Z b11 (by omega)) (Wp.optF (a2Z b16 (by omega)) (Wp.optF (a2Z b20 h3) ?_))))
  rw [← hg,← eadd]
  rfl
 ·
  intro j hj
  have es:(I.sub lim po).nat = lim.nat - po.nat:=e7Y _ _ hpo
  refine Wp.brn (fun h=>?_) (fun h=>?_)
  ·
   rw [c2V] at h
   have h:(I.sub lim po).nat < ex.nat:=of_decide_eq_true h
   rw [es] at h
   have hEe:E = lim.nat - po.nat:=by rw [hE]; unfold f6J; omega
   have e1:I.sub lim po = I.of .u64 (E:Int):=e2X (by rw [es,hEn,hEe])
   refine hj _ ?_
   rw [show decide (E < ex.nat) = true from decide_eq_true (by omega),← e1]
   rfl
  ·
   rw [c2V] at h
   have h:¬ (I.sub lim po).nat < ex.nat:=of_decide_eq_false h
   rw [es] at h
   have hEe:E = ex.nat:=by rw [hE]; unfold f6J; omega
   have e1:ex = I.of .u64 (E:Int):=e2X (by rw [hEn,hEe])
   refine hj _ ?_
   rw [show decide (E < ex.nat) = false from decide_eq_false (by omega),← e1]
   rfl
end Sym

/- The fees: what is built, what a charge without an error is. -/
namespace Sym
open Go
theorem g2K {data:List B8} {lim:I .u64} {base unit:U} {lo hi:I .u64} (h:I.neb (g2C data lim base unit lo hi).2.2 (I.of .i64 0) = false) :
  ∃ u:I .u64,b9R data lo hi = (u,I.of .i64 0)∧u.nat * unit.val < U.top∧u.nat * unit.val / base.val ≤ lim.nat∧g2C data lim base unit lo hi = (u,I.of .u64 ((u.nat * unit.val / base.val:Nat):Int),I.of .i64 0):=by
 unfold g2C at h ⊢
 split at h
 ·
  rename_i hu
  exact absurd (h.symm.trans hu) (by decide)
 ·
  rename_i hu
  rw [if_neg hu]
  split at h
  ·
   exact absurd h (by decide)
  ·
   rename_i ht
   rw [if_neg ht]
   split at h
   ·
    exact absurd h (by decide)
   ·
    rename_i hq
    rw [if_neg hq]
    generalize b9R data lo hi = r at *
    obtain ⟨u,e⟩:=r
    have he:e = I.of .i64 0:=by
     apply I.ext'
     have:¬ I.neb e (I.of .i64 0) = true:=hu
     rw [iff_neb] at this
     exact Classical.not_not.1 this
    subst he
    exact ⟨u,rfl,by simpa using Nat.lt_of_not_le ht,by simpa using Nat.le_of_not_lt hq,rfl⟩
theorem g5H {data:List B8} {lim ex:I .u64} {cap tip base unit:U} {p:Prm} (h:I.neb (e2K data lim ex cap tip base unit p).2 (I.of .i64 0) = false) :
  ∃ (u:I .u64) (po E T:Nat),base.val ≠ 0∧base.val ≤ cap.val∧T = min tip.val (cap.val - base.val)∧b9R data p.2.2.2.2.2.2.2.2.2.2.1 p.2.2.2.2.2.2.2.2.2.2.2.1 = (u,I.of .i64 0)∧u.nat * unit.val < U.top∧po = u.nat * unit.val / base.val∧po ≤ lim.nat∧E = min ex.nat (lim.nat - po) ∧
   base.val * po < U.top∧base.val * E < U.top∧e4S base p.2.2.2.2.2.1 E - c7U base p.2.2.2.2.2.1 p.2.2.2.2.2.2.1 E + T * (po + E) < U.top ∧
   e2K data lim ex cap tip base unit p = ((u,I.of .u64 (po:Int),I.of .u64 (E:Int),I.of .u64 ((po + E:Nat):Int),decide (E < ex.nat),U.of T,U.of (base.val * po),U.of (min (U.val p.2.2.2.2.2.1) base.val * E),U.of (e4S base p.2.2.2.2.2.1 E - c7U base p.2.2.2.2.2.1 p.2.2.2.2.2.2.1 E + T * (po + E)),U.of (c7U base p.2.2.2.2.2.1 p.2.2.2.2.2.2.1 E),()),I.of .i64 0):=by
 have hcl:=cap.lt
 have hlim:=a3I lim
 unfold e2K at h ⊢
 split at h
 ·
  rename_i hg
  exact absurd (h.symm.trans hg) (by decide)
 ·
  rename_i hg
  rw [if_neg hg]
  have hg':I.neb (d9X data lim cap base unit p).2.2 (I.of .i64 0) = false:=by simpa using hg
  have hR:d9X data lim cap base unit p = g2C data lim base unit p.2.2.2.2.2.2.2.2.2.2.1 p.2.2.2.2.2.2.2.2.2.2.2.1∧base.val ≠ 0∧base.val ≤ cap.val:=by
   unfold d9X at hg' ⊢
   split at hg'
   ·
    exact absurd hg' (by decide)
   ·
    rename_i hv
    rw [if_neg hv]
    split at hg'
    ·
     exact absurd hg' (by decide)
    ·
     rename_i h0
     rw [if_neg h0]
     split at hg'
     ·
      exact absurd hg' (by decide)
     ·
      rename_i hc
      rw [if_neg hc]
      exact ⟨rfl,h0,Nat.le_of_not_lt hc⟩
  obtain ⟨hR,h0,hc⟩:=hR
  rw [hR] at h hg' ⊢
  obtain ⟨u,hu,hcost,hq,hG⟩:=g2K hg'
  rw [hG] at h ⊢
  obtain ⟨po,hpo⟩:∃ po,po = u.nat * unit.val / base.val:=⟨_,rfl⟩
  rw [← hpo] at h hq ⊢
  have hpn:(I.of .u64 (po:Int)).nat = po:=b5P (by omega)
  obtain ⟨E,hE⟩:∃ E,E = min ex.nat (lim.nat - po):=⟨_,rfl⟩
  have hEx:f6J lim ex (I.of .u64 (po:Int)) = E:=by unfold f6J; rw [hpn,hE]
  have hEl:E ≤ lim.nat - po:=by omega
  have hEn:(I.of .u64 (E:Int)).nat = E:=b5P (by omega)
  unfold g0Y chg at h ⊢
  simp only [hEx,hpn,hEn,b5P (n:=po + E) (by omega)] at h ⊢
  unfold f2P at h ⊢
  rw [U.val_of (n:=min tip.val (cap.val - base.val)) (by omega)] at h ⊢
  split at h
  ·
   exact absurd h (by decide)
  ·
   rename_i hd
   rw [if_neg hd]
   have d1:¬ U.top ≤ base.val * po:=fun h=>hd (.inl h)
   have d2:¬ U.top ≤ base.val * E:=fun h=>hd (.inr (.inl h))
   have d3:=fun h=>hd (.inr (.inr h))
   exact ⟨u,po,E,_,h0,hc,rfl,hu,hcost,hpo,hq,hE,Nat.lt_of_not_le d1,Nat.lt_of_not_le d2,Nat.lt_of_not_le d3,rfl⟩
end Sym

/- The laws of the fees. -/
namespace Sym
open Go
end Sym

/- The base fee of the reference, blocks, parameters. -/
namespace Sym
open Go
theorem d8V {l:List Dg} {a:I .u64} (h:IsB l a.nat):l.length ≤ 1000000:=b4A h (k:=4) (Nat.lt_of_lt_of_le (a3I a) (by decide)) (by decide)
def P40:Nat:=65536 ^ 40
theorem h3H {l:List Dg} {n:Nat} (h:IsB l n) (hn:n < P40):l.length ≤ 900000:=Nat.le_trans (h.len.2 hn) (by decide)
theorem lenK' {l:List Dg} {n:Nat} (h:IsB l n) (hn:n < P40):l.length ≤ 1000000:=Nat.le_trans (h3H h hn) (by decide)
theorem f5T (m n:Nat):I.leb (c3J m n) (I.of .i64 0) = decide (m ≤ n):=by
 unfold c3J
 by_cases h:m < n
 ·
  rw [if_pos h,decide_eq_true (by omega)]; rfl
 ·
  rw [if_neg h]
  by_cases h2:n < m
  ·
   rw [if_pos h2,decide_eq_false (by omega)]; rfl
  ·
   rw [if_neg h2,decide_eq_true (by omega)]; rfl
theorem d0U (a b:I .u64):a.nat * b.nat < 65536 ^ 8:=by
 have h1:=a3I a
 have h2:=a3I b
 have:a.nat * b.nat ≤ 18446744073709551616 * 18446744073709551616 - 1:=by
  have:=Nat.mul_le_mul (show a.nat ≤ 18446744073709551615 by omega) (show b.nat ≤ 18446744073709551615 by omega)
  omega
 have e:(65536 ^ 8:Nat) = 18446744073709551616 * 18446744073709551616:=by decide
 omega
theorem f3I (a b c:I .u64):a9Y K0 ((a,(b,(c,()))),()) = some ((I.of .u64 ((a.nat - b.nat * c.nat:Nat):Int),()),()):=by
 refine Wp.out (T:=fun o=>o = some ((I.of .u64 ((a.nat - b.nat * c.nat:Nat):Int),()),())) ?_
 unfold a9Y
 obtain ⟨r0,e0,B0⟩:=a1K a
 obtain ⟨r1,e1,B1⟩:=a1K b
 obtain ⟨r2,e2,B2⟩:=a1K c
 obtain ⟨r3,e3,B3⟩:=b2L B1 B2 (d8V B1) (d8V B2)
 have h3:=d0U b c
 have l3:=b4A B3 h3 (by decide)
 have e4:=c4L B0 B3 (d8V B0) l3
 refine Wp.optF e0 (Wp.optF e1 (Wp.optF e2 (Wp.optF e3 (Wp.optF e4 ?_))))
 have hc:=f5T a.nat (b.nat * c.nat)
 have ha:=a3I a
 refine Wp.brn (fun h=>?_) (fun h=>?_)
 ·
  have h:I.leb (c3J a.nat (b.nat * c.nat)) (I.of .i64 0) = true:=h
  rw [hc] at h
  rw [show a.nat - b.nat * c.nat = 0 by have:=of_decide_eq_true h; omega]
  rfl
 ·
  have h:I.leb (c3J a.nat (b.nat * c.nat)) (I.of .i64 0) = false:=h
  rw [hc] at h
  have h:=of_decide_eq_false h
  obtain ⟨r5,e5,B5⟩:=c7D B0 B3 (by omega) (d8V B0)
  have e6:=c4Q B5 (b4A B5 (k:=4) (Nat.lt_of_le_of_lt (Nat.sub_le _ _) (Nat.lt_of_lt_of_le ha (by decide))) (by decide))
  refine Wp.optF e5 (Wp.optF e6 ?_)
  show some (((U.of _).1,()),()) = _
  rw [e9Z (by omega)]
def g1A (p:Prm):Prop:=p.1.nat ≠ 0∧p.2.2.1.nat ≠ 0
theorem e0G {p:Prm} (h:a6W p = true):g1A p:=by
 rw [c8I] at h
 have h1:=h 1 (by omega) (by omega)
 have h3:=h 3 (by omega) (by omega)
 have h1:=of_decide_eq_true h1
 have h3:=of_decide_eq_true h3
 replace h1:(I.of .u64 1).nat ≤ (d3I p.1).val∧_:=h1
 replace h3:(I.of .u64 1).nat ≤ (d3I p.2.2.1).val∧_:=h3
 rw [c5F] at h1 h3
 have c1:(I.of .u64 1).nat = 1:=rfl
 constructor <;> omega
def c9X (b:I .u64) (p:Prm):Nat:=min ((b.nat - p.1.nat * p.2.1.nat) * 10000 / (p.2.2.1.nat * p.1.nat)) 200000
theorem e3S (b:I .u64) (p:Prm):a8W K0 ((b,(p,())),()) = some (((if a6W p = true then I.of .u64 ((c9X b p:Nat):Int) else I.of .u64 0),((if a6W p = true then I.of .i64 0 else I.of .i64 15),())),()):=by
 refine Wp.out (T:=fun o=>o = some (((if a6W p = true then I.of .u64 ((c9X b p:Nat):Int) else I.of .u64 0),((if a6W p = true then I.of .i64 0 else I.of .i64 15),())),())) ?_
 unfold a8W
 refine Wp.optF (b6B p) ?_
 by_cases hv:a6W p = true
 ·
  rw [if_pos hv,if_pos hv]
  refine Wp.brnF (by rw [hv]; rfl) ?_
  have hex:b0U K0 ((b,(p.1,(p.2.1,()))),()) = some ((I.of .u64 ((b.nat - p.1.nat * p.2.1.nat:Nat):Int),()),()):=by
   refine Wp.out (T:=fun o=>o = some ((I.of .u64 ((b.nat - p.1.nat * p.2.1.nat:Nat):Int),()),())) ?_
   unfold b0U
   exact Wp.optF (f3I b p.1 p.2.1) rfl
  have hb:=a3I b
  have hxn:(I.of .u64 ((b.nat - p.1.nat * p.2.1.nat:Nat):Int)).nat = b.nat - p.1.nat * p.2.1.nat:=b5P (by omega)
  obtain ⟨r2,e2,B2⟩:=a1K (I.of .u64 ((b.nat - p.1.nat * p.2.1.nat:Nat):Int))
  obtain ⟨r3,e3,B3⟩:=a1K (I.of .u64 10000)
  obtain ⟨r4,e4,B4⟩:=b2L B2 B3 (d8V B2) (d8V B3)
  obtain ⟨r5,e5,B5⟩:=a1K p.2.2.1
  obtain ⟨r6,e6,B6⟩:=a1K p.1
  obtain ⟨r7,e7,B7⟩:=b2L B5 B6 (d8V B5) (d8V B6)
  have h4:=d0U (I.of .u64 ((b.nat - p.1.nat * p.2.1.nat:Nat):Int)) (I.of .u64 10000)
  have h7:=d0U p.2.2.1 p.1
  obtain ⟨s1,s3⟩:=e0G hv
  obtain ⟨q,rr,e8,B8,_⟩:=c4H B4 B7 (Nat.mul_ne_zero s3 s1) (b4A B4 h4 (by decide)) (Nat.le_trans (B7.len.2 h7) (by decide))
  obtain ⟨r9,e9,B9⟩:=a1K (I.of .u64 200000)
  have hq:(I.of .u64 ((b.nat - p.1.nat * p.2.1.nat:Nat):Int)).nat * (I.of .u64 10000).nat / (p.2.2.1.nat * p.1.nat) < 65536 ^ 8:=Nat.lt_of_le_of_lt (Nat.div_le_self _ _) h4
  obtain ⟨y,e10,r10,rfl,B10⟩:=e2P B8 B9 (b4A B8 hq (by decide)) (d8V B9)
  have c1:(I.of .u64 10000).nat = 10000:=rfl
  have c2:(I.of .u64 200000).nat = 200000:=rfl
  rw [hxn,c1,c2] at B10
  have hm:min ((b.nat - p.1.nat * p.2.1.nat) * 10000 / (p.2.2.1.nat * p.1.nat)) 200000 ≤ 200000:=Nat.min_le_right _ _
  have e11:=c4Q B10 (b4A B10 (k:=2) (Nat.lt_of_le_of_lt hm (by decide)) (by decide))
  refine Wp.optF hex (Wp.optF e2 (Wp.optF e3 (Wp.optF e4 (Wp.optF e5 (Wp.optF e6 (Wp.optF e7 (Wp.optF e8 (Wp.optF e9 (Wp.optF e10 (Wp.optF e11 ?_))))))))))
  show some (((U.of _).1,_),()) = _
  rw [e9Z (by omega)]
  rfl
 ·
  rw [if_neg hv,if_neg hv]
  have hv:a6W p = false:=by cases h:a6W p with | true=>exact absurd h hv | false=>rfl
  exact Wp.brnT (by rw [hv]; rfl) rfl
end Sym

/- The exponential, the base fee, blocks. -/
namespace Sym
open Go
def g7J (x:Nat):Nat→Nat→Nat
 | 0,y=>y
 | k + 1,y=>g7J x k (10000 + y * x / ((k + 1) * 10000))
def f4A (x b:Nat):Nat:=g7J x b 10000
def pwE (j:Nat):Nat:=2 ^ (20 * (j + 1))
theorem e5M (j:Nat):pwE (j + 1) = pwE j * 1048576:=by
 unfold pwE
 rw [show 20 * (j + 1 + 1) = 20 * (j + 1) + 20 by omega,Nat.pow_add]
theorem f2G (j:Nat):0 < pwE j:=Nat.pow_pos (by decide)
theorem e3U:∀ (n j:Nat),pwE j ≤ pwE (j + n)
 | 0,_=>Nat.le_refl _
 | n + 1,j=>by
  have h1:=e3U n j
  have h2:=e5M (j + n)
  have h3:=f2G (j + n)
  rw [← Nat.add_assoc,h2]
  omega
theorem g9Q:pwE 20 * 200000 < P40:=by
 decide +kernel
theorem g8G {j:Nat} (h:j ≤ 20):pwE j * 200000 < P40:=by
 have h1:=e3U (20 - j) j
 rw [show j + (20 - j) = 20 by omega] at h1
 exact Nat.lt_of_le_of_lt (Nat.mul_le_mul_right _ h1) g9Q
theorem e9X {y x k j:Nat} (hx:x ≤ 200000) (hy:y < pwE j):10000 + y * x / ((k + 1) * 10000) < pwE (j + 1):=by
 have h1:y * x / ((k + 1) * 10000) ≤ y * x:=Nat.div_le_self _ _
 have h2:y * x ≤ (pwE j - 1) * 200000:=Nat.mul_le_mul (by omega) hx
 have e:=e5M j
 have hp:=f2G j
 generalize pwE j = P at *
 omega
theorem g4V (a:I .u64) (b:Nat) (hb:1 ≤ b) (hb2:b ≤ 20):b4X K0 ((a,(i6 b,())),()) = some ((if a.nat ≤ 200000 then (U.of (f4A a.nat b)).1 else I.of .u64 0,(if a.nat ≤ 200000 then I.of .i64 0 else I.of .i64 2,())),()):=by
 refine Wp.out (T:=fun o=>o = some ((if a.nat ≤ 200000 then (U.of (f4A a.nat b)).1 else I.of .u64 0,(if a.nat ≤ 200000 then I.of .i64 0 else I.of .i64 2,())),())) ?_
 unfold b4X
 have c2:(I.of .u64 200000).nat = 200000:=rfl
 refine Wp.jn (fun x=>a.nat ≤ 200000∧x = ((a,(i6 b,())),())) ?_ ?_
 ·
  rintro x ⟨ha,rfl⟩
  rw [if_pos ha,if_pos ha]
  obtain ⟨r1,e1,B1⟩:=a1K (I.of .u64 10000)
  have c1:(I.of .u64 10000).nat = 10000:=rfl
  refine Wp.optF e1 ?_
  refine Wp.iter (fun s=>∃ (k j y:Nat) (r:List Dg),s = ((a,(r,(i6 k,()))),())∧k + j = b∧IsB r y∧y < pwE j∧g7J a.nat k y = f4A a.nat b) (fun s=>s.1.2.2.1.val.toNat) ?_ ⟨b,0,_,r1,rfl,rfl,B1,by rw [c1]; decide +kernel,by rw [c1]; rfl⟩ (by rw [a7S]; show (i6 b).val.toNat < _; rw [a0V (by omega)]; omega)
  rintro s ⟨k,j,y,r,rfl,hk,hB,hy,he⟩
  have hpw:=g8G (show j ≤ 20 by omega)
  have hyx:y * a.nat < P40:=by
   have h2:y * a.nat ≤ pwE j * 200000:=Nat.mul_le_mul (Nat.le_of_lt hy) ha
   omega
  have hy40:y < P40:=by
   have:pwE j * 1 ≤ pwE j * 200000:=Nat.mul_le_mul_left _ (by decide)
   omega
  refine Wp.brn (fun hc=>?_) (fun hc=>?_)
  ·
   have hc:1 ≤ k:=by have:=iff_leb.1 hc; simp only [a0V (show k < 9223372036854775808 by omega),show (I.of .i64 1).val = 1 from rfl] at this; omega
   obtain ⟨k',rfl⟩:∃ k',k = k' + 1:=⟨k - 1,by omega⟩
   obtain ⟨r3,e3,B3⟩:=a1K a
   obtain ⟨r4,e4,B4⟩:=b2L hB B3 (lenK' hB hy40) (d8V B3)
   have hcv:I.conv .u64 (i6 (k' + 1)) = I.of .u64 ((k' + 1:Nat):Int):=by
    unfold I.conv
    rw [a0V (by omega)]
   have hkn:(I.of .u64 ((k' + 1:Nat):Int)).nat = k' + 1:=b5P (by omega)
   obtain ⟨r5,e5,B5⟩:=a1K (I.of .u64 ((k' + 1:Nat):Int))
   obtain ⟨r7,e7,B7⟩:=b2L B5 B1 (d8V B5) (d8V B1)
   have h7:=d0U (I.of .u64 ((k' + 1:Nat):Int)) (I.of .u64 10000)
   rw [hkn,c1] at B7 h7
   obtain ⟨q,rr,e8,B8,_⟩:=c4H B4 B7 (by omega) (lenK' B4 hyx) (Nat.le_trans (B7.len.2 h7) (by decide))
   have h8:y * a.nat / ((k' + 1) * 10000) < P40:=Nat.lt_of_le_of_lt (Nat.div_le_self _ _) hyx
   obtain ⟨r10,e10,B10⟩:=b2F B1 B8 (d8V B1) (lenK' B8 h8)
   rw [c1] at B10
   have e5':a0H K0 ((I.conv .u64 (i6 (k' + 1)),()),()) = some ((r5,()),()):=by rw [hcv]; exact e5
   refine Wp.optF e3 (Wp.optF e4 (Wp.optF e5' (Wp.optF e1 (Wp.optF e7 (Wp.optF e8 (Wp.optF e1 (Wp.optF e10 ?_)))))))
   have hs:I.sub (i6 (k' + 1)) (I.of .i64 1) = i6 k':=by rw [b4N,c0A (by omega) (by omega)]; rfl
   have he':g7J a.nat k' (10000 + y * a.nat / ((k' + 1) * 10000)) = f4A a.nat b:=he
   have hst:=e9X (k:=k') ha hy
   generalize 10000 + y * a.nat / ((k' + 1) * 10000) = z at B10 he' hst
   refine Wp.again ⟨k',j + 1,z,r10,by show ((a,(r10,(I.sub (i6 (k' + 1)) (I.of .i64 1),()))),()) = _; rw [hs]; rfl,by omega,B10,hst,he'⟩ (by show (I.sub (i6 (k' + 1)) (I.of .i64 1)).val.toNat < (i6 (k' + 1)).val.toNat; rw [hs,a0V (by omega),a0V (by omega)]; omega)
  ·
   have hc:k = 0:=by have:=niff_leb.1 hc; simp only [a0V (show k < 9223372036854775808 by omega),show (I.of .i64 1).val = 1 from rfl] at this; omega
   subst hc
   have e:=c4Q hB (lenK' hB hy40)
   have he:y = f4A a.nat b:=he
   rw [he] at e
   exact Wp.done (Wp.optF e rfl)
 ·
  intro j hj
  refine Wp.brn (fun h=>?_) (fun h=>?_)
  ·
   have h:(I.of .u64 200000).val < a.val:=iff_ltb.1 h
   have h1:=a2A a
   have h2:(I.of .u64 200000).val = 200000:=rfl
   rw [if_neg (by omega),if_neg (by omega)]
   rfl
  ·
   have h:a.val ≤ (I.of .u64 200000).val:=niff_ltb.1 h
   have h1:=a2A a
   have h2:(I.of .u64 200000).val = 200000:=rfl
   refine Wp.brnF (niff_ltb.2 (by show (I.of .i64 1).val ≤ (i6 b).val; rw [a0V (by omega),show (I.of .i64 1).val = 1 from rfl]; omega)) ?_
   refine Wp.brnF (niff_ltb.2 (by show (i6 b).val ≤ (I.of .i64 20).val; rw [a0V (by omega),show (I.of .i64 20).val = 20 from rfl]; omega)) ?_
   exact hj _ ⟨by omega,rfl⟩
theorem f4N (a:U) (b:I .u64):b2U K0 ((a,(b,())),()) = some (((c3R (a.val * b.nat / 10000)).1,((c3R (a.val * b.nat / 10000)).2,())),()):=by
 refine Wp.out (T:=fun o=>o = some (((c3R (a.val * b.nat / 10000)).1,((c3R (a.val * b.nat / 10000)).2,())),())) ?_
 unfold b2U
 obtain ⟨r0,e0,B0⟩:=a1E a
 obtain ⟨r1,e1,B1⟩:=a1K b
 obtain ⟨r2,e2,B2⟩:=b2L B0 B1 (e7T B0) (d8V B1)
 obtain ⟨r3,e3,B3⟩:=a1K (I.of .u64 10000)
 have c1:(I.of .u64 10000).nat = 10000:=rfl
 have h2:a.val * b.nat < P40:=by
  have h3:a.val * b.nat ≤ U.top * 18446744073709551616:=Nat.mul_le_mul (Nat.le_of_lt (U.lt a)) (Nat.le_of_lt (a3I b))
  exact Nat.lt_of_le_of_lt h3 (by decide +kernel)
 rw [c1] at B3
 obtain ⟨q,rr,e4,B4,_⟩:=c4H B2 B3 (by decide) (lenK' B2 h2) (Nat.le_trans (B3.len.2 (show 10000 < 65536 ^ 1 by decide)) (by decide))
 have e5:=Checked_ok' B4 (lenK' B4 (Nat.lt_of_le_of_lt (Nat.div_le_self _ _) h2))
 exact Wp.optF e0 (Wp.optF e1 (Wp.optF e2 (Wp.optF e3 (Wp.optF e4 (Wp.optF e5 rfl)))))
noncomputable def d2F (b:I .u64) (p:Prm):U × I .i64 :=
 if a6W p = true then c3R (U.val p.2.2.2.1 * (U.of (f4A (c9X b p) 10)).1.nat / 10000) else (Z_U,I.of .i64 15)
theorem d6Q (b:I .u64) (p:Prm):c9X b p ≤ 200000:=Nat.min_le_right _ _
theorem g4E (b:I .u64) (p:Prm):b0W K0 ((b,(p,())),()) = some (((d2F b p).1,((d2F b p).2,())),()):=by
 refine Wp.out (T:=fun o=>o = some (((d2F b p).1,((d2F b p).2,())),())) ?_
 unfold b0W d2F
 refine Wp.optF (e3S b p) ?_
 by_cases hv:a6W p = true
 ·
  rw [if_pos hv,if_pos hv,if_pos hv]
  refine Wp.brnF (show I.neb (I.of .i64 0) (I.of .i64 0) = false by decide) ?_
  have hx:(I.of .u64 ((c9X b p:Nat):Int)).nat = c9X b p:=b5P (by have:=d6Q b p; omega)
  have hE:=g4V (I.of .u64 ((c9X b p:Nat):Int)) 10 (by omega) (by omega)
  rw [hx,if_pos (d6Q b p),if_pos (d6Q b p)] at hE
  have hS:a9Q K0 ((p.2.2.2.1,(I.of .u64 ((c9X b p:Nat):Int),(I.of .i64 10,()))),()) = some (((c3R (U.val p.2.2.2.1 * (U.of (f4A (c9X b p) 10)).1.nat / 10000)).1,((c3R (U.val p.2.2.2.1 * (U.of (f4A (c9X b p) 10)).1.nat / 10000)).2,())),()):=by
   refine Wp.out (T:=fun o=>o = some (((c3R (U.val p.2.2.2.1 * (U.of (f4A (c9X b p) 10)).1.nat / 10000)).1,((c3R (U.val p.2.2.2.1 * (U.of (f4A (c9X b p) 10)).1.nat / 10000)).2,())),())) ?_
   unfold a9Q
   exact Wp.optF hE (Wp.brnF (show I.neb (I.of .i64 0) (I.of .i64 0) = false by decide) (Wp.optF (f4N _ _) rfl))
  exact Wp.optF hS rfl
 ·
  rw [if_neg hv,if_neg hv,if_neg hv]
  exact Wp.brnT (show I.neb (I.of .i64 15) (I.of .i64 0) = true by decide) rfl
abbrev f8S:Type:=a9K
noncomputable def c4K (k:f8S) (sec left:I .u64) (p:Prm):f8S × I .i64 :=
 if 1 ≤ sec.val∧sec.val ≤ 1048576 then
  if (d2F left p).2.val ≠ 0 then (a4R,(d2F left p).2)
  else if (I.add k.1 (I.of .u64 1)).val = 0 then (a4R,I.of .i64 4)
  else if (I.add k.2.1 sec).val < k.2.1.val then (a4R,I.of .i64 4)
  else ((I.add k.1 (I.of .u64 1),(I.add k.2.1 sec,(I.of .u64 0,((d2F left p).1,())))),I.of .i64 0)
 else (a4R,I.of .i64 2)
theorem f4T (k:f8S) (sec left:I .u64) (p:Prm):b2S K0 ((k,(sec,(left,(p,())))),()) = some (((c4K k sec left p).1,((c4K k sec left p).2,())),()):=by
 refine Wp.out (T:=fun o=>o = some (((c4K k sec left p).1,((c4K k sec left p).2,())),())) ?_
 unfold b2S c4K
 have c1:(I.of .u64 1).val = 1:=rfl
 have c2:(I.of .u64 1048576).val = 1048576:=rfl
 refine Wp.jn (fun x=>(1 ≤ sec.val∧sec.val ≤ 1048576)∧x = ((sec,(left,())),(k,(p,(a4R,()))))) ?_ ?_
 ·
  rintro x ⟨hs,rfl⟩
  rw [if_pos hs]
  refine Wp.optF (g4E left p) ?_
  refine Wp.brn (fun h=>?_) (fun h=>?_)
  ·
   have h:(d2F left p).2.val ≠ 0:=iff_neb.1 h
   simp only [if_pos h]
   rfl
  ·
   have h:¬ (d2F left p).2.val ≠ 0:=by have h:(d2F left p).2.val = 0:=niff_neb.1 h; omega
   simp only [if_neg h]
   refine Wp.brn (fun h=>?_) (fun h=>?_)
   ·
    rw [if_pos (by have:=iff_eqb.1 h; exact this)]
    rfl
   ·
    rw [if_neg (by have:=niff_eqb.1 h; exact this)]
    refine Wp.brn (fun h=>?_) (fun h=>?_)
    ·
     rw [if_pos (by have:=iff_ltb.1 h; exact this)]
     rfl
    ·
     rw [if_neg (by have:=niff_ltb.1 h; omega)]
     rfl
 ·
  intro j hj
  refine Wp.brn (fun h=>?_) (fun h=>?_)
  ·
   have h:=iff_ltb.1 h
   rw [if_neg (by simp only [c1] at h; omega)]
   rfl
  ·
   have h:=niff_ltb.1 h
   refine Wp.brn (fun h2=>?_) (fun h2=>?_)
   ·
    have h2:=iff_ltb.1 h2
    rw [if_neg (by simp only [c2] at h2; omega)]
    rfl
   ·
    have h2:=niff_ltb.1 h2
    exact hj _ ⟨by simp only [c1,c2] at h h2; omega,rfl⟩
end Sym

/- Hashes and trees of the reference: they end. -/
namespace Sym
open Go
def Tot {Y:Type} (o:Option Y):Prop:=∃ y,o = some y
theorem Wp.tot {R Y:Type} {T:R→Prop} {fail:R} {o:Option Y} {k:Y→R} (ho:Tot o) (h:∀ y,Wp T (k y)):Wp T (Sym.optF fail o k):=by
 obtain ⟨y,rfl⟩:=ho
 exact h y
abbrev Hs:Type:=a0G
theorem b8I {X:Type} (l:List X) (a n:Nat):(a4N l a n).length = min n (l.length - a):=by
 unfold a4N
 rw [List.length_take,List.length_drop]
theorem b3Q (a:I .u32) (b:I .u64):Tot (a2Q K0 ((a,(b,())),())):=by
 refine Wp.out (T:=fun o=>Tot o) ?_
 unfold a2Q
 exact Wp.brnT (c3E _) (Wp.brnT (c3E _) ⟨_,rfl⟩)
theorem e9W (a:b5V) (b:List (I .u8)) (hb:b.length = 64):Tot (b3D K0 ((a,(b,())),())):=by
 refine Wp.out (T:=fun o=>Tot o) ?_
 unfold b3D
 refine Wp.tot ⟨_,rfl⟩ (fun y0=>?_)
 have m4:∀ i,i < 16→I.mul (I.of .i64 4) (i6 i) = i6 (4 * i):=by
  intro i hi
  apply I.ext'
  rw [c4O (by rw [a0V (by omega),show (I.of .i64 4).val = 4 from rfl]; omega),a0V (by omega),a0V (by omega),show (I.of .i64 4).val = 4 from rfl]
  omega
 have ad:∀ (i j:Nat),i < 64→j < 64→I.add (i6 i) (I.of .i64 (j:Int)) = i6 (i + j):=fun i j hi hj=>a4C (by omega)
 have sb:∀ (i j:Nat),i < 64→j ≤ i→I.sub (i6 i) (I.of .i64 (j:Int)) = i6 (i - j):=fun i j hi hj=>c0A (by omega) hj
 have inb:∀ i n,i < n→n < 1000→inB (i6 i) n = true:=fun i n h h2=>a3S h (by omega)
 refine Wp.iter (fun x=>x.1.1 = b∧∃ i,i ≤ 64∧x.1.2.1 = i6 i) (fun x=>64 - x.1.2.1.val.toNat) ?_ ⟨rfl,0,by omega,rfl⟩ (by rw [a7S]; show 64 - 0 < _; decide)
 rintro ⟨⟨b',j,⟨⟩⟩,x2⟩ ⟨e,i,hi,e2⟩
 simp only at e e2
 subst e e2
 have hm:∀ j,j = i + 1→64 - (i6 j).val.toNat < 64 - (i6 i).val.toNat ∨ 64 ≤ i:=by
  intro j hj; rw [a0V (by omega),a0V (by omega)]; omega
 have hn:I.add (i6 i) (I.of .i64 1) = i6 (i + 1):=a4C (m:=1) (by omega)
 have hlen:a0I b' = 64:=hb
 refine Wp.brn (fun hc=>?_) (fun hc=>?_)
 ·
  have hc:i < 64:=by have:=iff_ltb.1 hc; simp only [a0V (show i < 9223372036854775808 by omega),show (I.of .i64 64).val = 64 from rfl] at this; omega
  have ag:∀ z,Wp (Rnd (fun o:Option _=>Tot o) (fun x:((List (I .u8)) × ((I .i64) × Unit)) × _=>x.1.1 = b'∧∃ i,i ≤ 64∧x.1.2.1 = i6 i) (fun x=>64 - x.1.2.1.val.toNat) (64 - (i6 i).val.toNat)) (.again ((b',(I.add (i6 i) (I.of .i64 1),())),z):Stp (((List (I .u8)) × ((I .i64) × Unit)) × (b5V × (b5V × (c3V × (c3V × Unit))))) (Option ((⟨[.pl (.arr 8 (.int .u32))],[]⟩:Tm).D))):=by
   intro z
   refine Wp.again ⟨rfl,i + 1,by omega,hn⟩ ?_
   show 64 - (I.add (i6 i) (I.of .i64 1)).val.toNat < _
   rw [hn]
   exact (hm _ rfl).resolve_right (by omega)
  refine Wp.brn (fun h16=>?_) (fun h16=>?_)
  ·
   have h16:i < 16:=by have:=iff_ltb.1 h16; simp only [a0V (show i < 9223372036854775808 by omega),show (I.of .i64 16).val = 16 from rfl] at this; omega
   simp only [m4 i h16,hlen]
   rw [show I.add (i6 (4 * i)) (I.of .i64 1) = i6 (4 * i + 1) from ad (4 * i) 1 (by omega) (by omega),show I.add (i6 (4 * i)) (I.of .i64 2) = i6 (4 * i + 2) from ad (4 * i) 2 (by omega) (by omega),show I.add (i6 (4 * i)) (I.of .i64 3) = i6 (4 * i + 3) from ad (4 * i) 3 (by omega) (by omega)]
   exact Wp.brnT (inb _ _ (by omega) (by omega)) (Wp.brnT (inb _ _ (by omega) (by omega)) (Wp.brnT (inb _ _ (by omega) (by omega)) (Wp.brnT (inb _ _ (by omega) (by omega)) (Wp.brnT (inb _ _ (by omega) (by omega)) (ag _)))))
  ·
   have h16:16 ≤ i:=by have:=niff_ltb.1 h16; simp only [a0V (show i < 9223372036854775808 by omega),show (I.of .i64 16).val = 16 from rfl] at this; omega
   rw [show I.sub (i6 i) (I.of .i64 15) = i6 (i - 15) from sb i 15 hc (by omega),show I.sub (i6 i) (I.of .i64 2) = i6 (i - 2) from sb i 2 hc (by omega),show I.sub (i6 i) (I.of .i64 16) = i6 (i - 16) from sb i 16 hc (by omega),show I.sub (i6 i) (I.of .i64 7) = i6 (i - 7) from sb i 7 hc (by omega)]
   refine Wp.brnT (inb _ _ (by omega) (by omega)) (Wp.brnT (inb _ _ (by omega) (by omega)) (Wp.brnT (inb _ _ (by omega) (by omega)) (Wp.tot (b3Q _ _) fun y2=>Wp.tot (b3Q _ _) fun y3=>Wp.brnT (inb _ _ (by omega) (by omega)) (Wp.tot (b3Q _ _) fun y4=>Wp.tot (b3Q _ _) fun y5=>Wp.brnT (inb _ _ (by omega) (by omega)) (ag _)))))
 ·
  refine Wp.done ?_
  refine Wp.iter (fun x=>∃ i,i ≤ 64∧x.1.1 = i6 i) (fun x=>64 - x.1.1.val.toNat) ?_ ⟨0,by omega,rfl⟩ (by rw [a7S]; show 64 - 0 < _; decide)
  rintro ⟨⟨j,⟨⟩⟩,x2⟩ ⟨k,hk,e2⟩
  simp only at e2
  subst e2
  refine Wp.brn (fun hc=>?_) (fun hc=>?_)
  ·
   have hc:k < 64:=by have:=iff_ltb.1 hc; simp only [a0V (show k < 9223372036854775808 by omega),show (I.of .i64 64).val = 64 from rfl] at this; omega
   have hn:I.add (i6 k) (I.of .i64 1) = i6 (k + 1):=a4C (m:=1) (by omega)
   refine Wp.tot (b3Q _ _) fun y3=>Wp.tot (b3Q _ _) fun y4=>Wp.tot (b3Q _ _) fun y5=>Wp.brnT (inb _ _ hc (by omega)) (Wp.brnT (inb _ _ hc (by omega)) (Wp.tot (b3Q _ _) fun y6=>Wp.tot (b3Q _ _) fun y7=>Wp.tot (b3Q _ _) fun y8=>?_))
   refine Wp.again ⟨k + 1,by omega,hn⟩ ?_
   show 64 - (I.add (i6 k) (I.of .i64 1)).val.toNat < 64 - (i6 k).val.toNat
   rw [hn,a0V (by omega),a0V (by omega)]; omega
  ·
   refine Wp.done ?_
   refine Wp.iter (fun x=>∃ i,i ≤ 8∧x.1.1 = i6 i) (fun x=>8 - x.1.1.val.toNat) ?_ ⟨0,by omega,rfl⟩ (by rw [a7S]; show 8 - 0 < _; decide)
   rintro ⟨⟨j,⟨⟩⟩,x3⟩ ⟨q,hq,e2⟩
   simp only at e2
   subst e2
   refine Wp.brn (fun hc=>?_) (fun hc=>Wp.done ⟨_,rfl⟩)
   have hc:q < 8:=by have:=iff_ltb.1 hc; simp only [a0V (show q < 9223372036854775808 by omega),show (I.of .i64 8).val = 8 from rfl] at this; omega
   have hn:I.add (i6 q) (I.of .i64 1) = i6 (q + 1):=a4C (m:=1) (by omega)
   refine Wp.brnT (inb _ _ hc (by omega)) (Wp.brnT (inb _ _ hc (by omega)) (Wp.brnT (inb _ _ hc (by omega)) ?_))
   refine Wp.again ⟨q + 1,by omega,hn⟩ ?_
   show 8 - (I.add (i6 q) (I.of .i64 1)).val.toNat < 8 - (i6 q).val.toNat
   rw [hn,a0V (by omega),a0V (by omega)]; omega
end Sym

/- Hashes and trees of the reference: they end, continued. -/
namespace Sym
open Go
abbrev By:Type:=List (I .u8)
theorem e3Z:(e9M).length = 1:=rfl
theorem c7M:(d6K).length = 1:=rfl
theorem a8H {X:Type} (a b:List X):(a2B a b).length = a.length + b.length:=List.length_append
theorem b9V {X:Type} (a b:List X) (h:a.length + b.length ≤ 1073741824):a1G (a0I (a2B a b)) = true:=b0J (by show (a2B a b).length ≤ _; rw [a8H]; exact h)
theorem i6_neb' {n m:Nat} (hn:n < 9223372036854775808) (hm:m < 9223372036854775808):I.neb (i6 n) (i6 m) = decide (n ≠ m):=by
 simp only [I.neb,a0V hn,a0V hm]
 by_cases h:n = m
 ·
  subst h; simp
 ·
  simp [h]; omega
theorem g5E {n m:Nat} (hn:n < 9223372036854775808) (hm:0 < m) (hm2:m < 9223372036854775808):I.rem (i6 n) (i6 m) = i6 (n % m):=by
 apply I.ext'
 rw [b7H (by rw [a0V hn]; omega) (by rw [a0V hm2]; omega),a0V hn,a0V hm2,a0V (Nat.lt_of_lt_of_le (Nat.mod_lt _ hm) (by omega))]
 omega
theorem g6E {n m:Nat} (hn:n < 9223372036854775808) (hm:0 < m) (hm2:m < 9223372036854775808):I.quo (i6 n) (i6 m) = i6 (n / m):=by
 apply I.ext'
 rw [b9M (by rw [a0V hn]; omega) (by rw [a0V hm2]; omega),a0V hn,a0V hm2,a0V (Nat.lt_of_le_of_lt (Nat.div_le_self _ _) hn)]
 omega
theorem d7K (a:By) (ha:a.length ≤ 1073741000):Tot (a9X K0 ((a,()),())):=by
 refine Wp.out (T:=fun o=>Tot o) ?_
 unfold a9X
 refine Wp.brnT (b9V _ _ (by show 0 + a.length ≤ _; omega)) (Wp.brnT (b9V _ _ (by rw [a8H,e3Z]; show 0 + a.length + 1 ≤ _; omega)) ?_)
 refine Wp.iter (fun x=>x.1.1 = a∧List.length x.2.2.1 + (120 - List.length x.2.2.1 % 64) % 64 ≤ a.length + 64) (fun x=>(120 - List.length x.2.2.1 % 64) % 64) ?_ ⟨rfl,?_⟩ (by rw [a7S]; exact Nat.lt_of_lt_of_le (Nat.mod_lt _ (by decide)) (by decide))
 case refine_2 =>
  show (a2B (a2B [] a) e9M).length + (120 - (a2B (a2B [] a) e9M).length % 64) % 64 ≤ a.length + 64
  rw [a8H,a8H,e3Z]
  show 0 + a.length + 1 + _ ≤ _
  omega
 rintro ⟨⟨a',⟨⟩⟩,u,l,⟨⟩⟩ ⟨e,hl⟩
 simp only at e hl
 subst e
 have hl0:l.length ≤ 1073741064:=by omega
 simp only [b0T,a9B,show (I.of .i64 64) = i6 64 from rfl,show (I.of .i64 56) = i6 56 from rfl,g5E (show l.length < 9223372036854775808 by omega) (show 0 < 64 by omega) (by omega),i6_neb' (show l.length % 64 < 9223372036854775808 by omega) (show 56 < 9223372036854775808 by omega)]
 refine Wp.brn (fun hc=>?_) (fun hc=>?_)
 ·
  have hc:=of_decide_eq_true hc
  refine Wp.brnT (b9V _ _ (by rw [c7M]; omega)) ?_
  refine Wp.again ⟨rfl,?_⟩ ?_
  ·
   show (a2B l d6K).length + (120 - (a2B l d6K).length % 64) % 64 ≤ a'.length + 64
   rw [a8H,c7M]
   omega
  ·
   show (120 - (a2B l d6K).length % 64) % 64 < (120 - l.length % 64) % 64
   rw [a8H,c7M]
   omega
 ·
  have hc:l.length % 64 = 56:=by have:=of_decide_eq_false hc; omega
  refine Wp.done ?_
  refine Wp.iter (fun x=>∃ j:Nat,j ≤ 8∧x.1.2.1.val = 7 - (j:Int)∧List.length x.2.2.1 = l.length + j) (fun x=>(x.1.2.1.val + 1).toNat) ?_ ⟨0,by omega,rfl,rfl⟩ (by rw [a7S]; show ((I.of .i64 7).val + 1).toNat < _; decide)
  rintro ⟨⟨n,i,⟨⟩⟩,u,l2,⟨⟩⟩ ⟨j,hj,hi,hl2⟩
  simp only at hi hl2
  have c8:(I.of .i64 8).val = 8:=rfl
  refine Wp.brn (fun hc=>?_) (fun hc=>?_)
  ·
   have hc:0 ≤ i.val:=iff_leb.1 hc
   refine Wp.brnT (c3E _) (Wp.brnT (b9V _ _ (by show l2.length + 1 ≤ _; omega)) ?_)
   have hs:(I.sub i (I.of .i64 1)).val = i.val - 1:=by rw [a8B (by rw [show (I.of .i64 1).val = 1 from rfl]; omega)]; rfl
   refine Wp.again ⟨j + 1,by omega,by show (I.sub i (I.of .i64 1)).val = _; rw [hs]; omega,?_⟩ ?_
   ·
    show (a2B l2 [_]).length = _
    rw [a8H,hl2]
    rfl
   ·
    show ((I.sub i (I.of .i64 1)).val + 1).toNat < (i.val + 1).toNat
    rw [hs]; omega
  ·
   have hc:i.val < 0:=niff_leb.1 hc
   have hj8:j = 8:=by omega
   subst hj8
   obtain ⟨m,hm⟩:∃ m,l2.length = 64 * m:=⟨l2.length / 64,by omega⟩
   refine Wp.done ?_
   refine Wp.iter (fun x=>∃ q,q ≤ m∧x.1.1 = i6 (64 * q)∧x.2.2.1 = l2) (fun x=>64 * m - x.1.1.val.toNat) ?_ ⟨0,by omega,rfl,rfl⟩ (by rw [a7S]; show 64 * m - 0 < _; omega)
   rintro ⟨⟨i2,⟨⟩⟩,u,l3,y,⟨⟩⟩ ⟨q,hq,e1,e2⟩
   simp only at e1 e2
   subst e1 e2
   have hadd:I.add (i6 (64 * q)) (i6 64) = i6 (64 * q + 64):=a4C (m:=64) (by omega)
   simp only [hm,hadd,a3A (show 64 * q < 9223372036854775808 by omega) (show 64 * m < 9223372036854775808 by omega),a3N (show 64 * q < 9223372036854775808 by omega),a3N (show 64 * q + 64 < 9223372036854775808 by omega)]
   refine Wp.brn (fun hc=>?_) (fun hc=>?_)
   ·
    have hc:=of_decide_eq_true hc
    refine Wp.brnT (i6_inB' (by omega) (by omega)) (Wp.brnT (i6_inB' (by omega) (by omega)) ?_)
    have hb64:(a4N l3 (64 * q) (64 * q + 64 - 64 * q)).length = 64:=by rw [b8I,hm]; omega
    refine Wp.tot (e9W y _ hb64) fun y3=>?_
    refine Wp.again ⟨q + 1,by omega,?_,rfl⟩ ?_
    ·
     show i6 (64 * q + 64) = i6 (64 * (q + 1))
     rw [show 64 * (q + 1) = 64 * q + 64 by omega]
    ·
     show 64 * m - (i6 (64 * q + 64)).val.toNat < 64 * m - (i6 (64 * q)).val.toNat
     rw [a0V (by omega),a0V (by omega)]; omega
   ·
    refine Wp.done ?_
    refine Wp.iter (fun x=>∃ i,i ≤ 32∧x.1.1 = i6 i) (fun x=>32 - x.1.1.val.toNat) ?_ ⟨0,by omega,rfl⟩ (by rw [a7S]; show 32 - 0 < _; decide)
    rintro ⟨⟨i3,⟨⟩⟩,x3⟩ ⟨k,hk,e2⟩
    simp only at e2
    subst e2
    simp only [show (I.of .i64 4) = i6 4 from rfl,show (I.of .i64 32) = i6 32 from rfl,g6E (show k < 9223372036854775808 by omega) (show 0 < 4 by omega) (by omega),a3A (show k < 9223372036854775808 by omega) (show 32 < 9223372036854775808 by omega)]
    refine Wp.brn (fun hc=>?_) (fun hc=>Wp.done ⟨_,rfl⟩)
    have hc:=of_decide_eq_true hc
    refine Wp.brnT (a3S (by omega) (by omega)) (Wp.brnT (c3E _) (Wp.brnT (a3S hc (by omega)) ?_))
    have hn:I.add (i6 k) (I.of .i64 1) = i6 (k + 1):=a4C (m:=1) (by omega)
    refine Wp.again ⟨k + 1,by omega,hn⟩ ?_
    show 32 - (I.add (i6 k) (I.of .i64 1)).val.toNat < 32 - (i6 k).val.toNat
    rw [hn,a0V (by omega),a0V (by omega)]; omega
theorem f3H (a:By) (ha:a.length ≤ 1073740999):Tot (b4D K0 ((a,()),())):=by
 refine Wp.out (T:=fun o=>Tot o) ?_
 unfold b4D
 refine Wp.brnT (b9V _ _ (by rw [c7M]; show 1 + a.length ≤ _; omega)) (Wp.tot (d7K (a2B d6K a) (by rw [a8H,c7M]; omega)) fun y=>⟨_,rfl⟩)
theorem f9F (a:Hs):(a4N (Arr.list 32 a) 0 32).length = 32:=by
 rw [b8I]
 rfl
theorem d7P (a b:Hs):Tot (a8T K0 ((a,(b,())),())):=by
 refine Wp.out (T:=fun o=>Tot o) ?_
 unfold a8T
 have ha:=f9F a
 have hb:=f9F b
 have h1:(a2B f7O (a4N (Arr.list 32 a) 0 32)).length = 33:=by rw [a8H,ha]; rfl
 refine Wp.brnT (b9V _ _ (by rw [ha]; decide)) (Wp.brnT (b9V _ _ (by rw [h1,hb]; decide)) (Wp.tot (d7K _ (by rw [a8H,h1,hb]; decide)) fun y=>⟨_,rfl⟩))
end Sym

/- Messages' leaves, roots and proofs of the reference: they end. -/
namespace Sym
open Go
theorem e7G (a:U):∃ y,b1Z K0 ((a,()),()) = some y∧∃ l:By,y = ((l,()),())∧l.length ≤ 32:=by
 refine Wp.out (T:=fun o=>∃ y,o = some y∧∃ l:By,y = ((l,()),())∧l.length ≤ 32) ?_
 unfold b1Z
 refine Wp.iter (fun x=>∃ j:Nat,j ≤ 32∧x.1.1.val = 31 - (j:Int)∧List.length x.2.2.1 ≤ j) (fun x=>(x.1.1.val + 1).toNat) ?_ ⟨0,by omega,rfl,Nat.le_refl _⟩ (by rw [a7S]; show ((I.of .i64 31).val + 1).toNat < _; decide)
 rintro ⟨⟨i,⟨⟩⟩,u,l,⟨⟩⟩ ⟨j,hj,hi,hl⟩
 simp only at hi hl
 refine Wp.brn (fun hc=>?_) (fun hc=>?_)
 ·
  have hc:0 ≤ i.val:=iff_leb.1 hc
  have hq:(I.quo i (I.of .i64 8)).val = i.val / 8:=b9M hc (by decide)
  have hs:(I.sub i (I.of .i64 1)).val = i.val - 1:=by rw [a8B (by rw [show (I.of .i64 1).val = 1 from rfl]; omega)]; rfl
  have hin:inB (I.quo i (I.of .i64 8)) 4 = true:=iff_inB.2 (by rw [hq]; omega)
  have hmu:((I.sub i (I.of .i64 1)).val + 1).toNat < (i.val + 1).toNat:=by rw [hs]; omega
  have hv:(I.sub i (I.of .i64 1)).val = 31 - ((j + 1:Nat):Int):=by rw [hs]; omega
  have hlen:∀ b:I .u8,(a2B l [b]).length ≤ j + 1:=fun b=>by rw [a8H]; show l.length + 1 ≤ _; omega
  have hfit:∀ b:I .u8,a1G (a0I (a2B l [b])) = true:=fun b=>b9V _ _ (by show l.length + 1 ≤ _; omega)
  refine Wp.brnT hin (Wp.brnT (c3E _) (Wp.brn (fun _=>Wp.brnT (hfit _) (Wp.again ⟨j + 1,by omega,hv,hlen _⟩ hmu)) (fun _=>Wp.brn (fun _=>Wp.brnT (hfit _) (Wp.again ⟨j + 1,by omega,hv,hlen _⟩ hmu)) (fun _=>Wp.again ⟨j + 1,by omega,hv,Nat.le_succ_of_le hl⟩ hmu))))
 ·
  exact Wp.done ⟨_,rfl,l,rfl,by omega⟩
theorem d4Z (a:By) (b:U) (ha:a.length ≤ 1000000000):∃ y,a4Z K0 ((a,(b,())),()) = some y∧∃ l:By,y = ((l,()),())∧l.length ≤ a.length + 33:=by
 refine Wp.out (T:=fun o=>∃ y,o = some y∧∃ l:By,y = ((l,()),())∧l.length ≤ a.length + 33) ?_
 unfold a4Z
 obtain ⟨y,hy,d,rfl,hd⟩:=e7G b
 refine Wp.optF hy ?_
 have h0:(a2B ([]:By) a).length = a.length:=by rw [a8H]; show 0 + _ = _; omega
 have h1:∀ z:I .u8,(a2B (a2B ([]:By) a) [z]).length = a.length + 1:=fun z=>by rw [a8H,h0]; rfl
 refine Wp.brnT (b0J (by show (a2B ([]:By) a).length ≤ _; rw [h0]; omega)) (Wp.brnT (b0J (by show (a2B (a2B ([]:By) a) [_]).length ≤ _; rw [h1]; omega)) (Wp.brnT (b9V _ _ (by rw [h1]; show a.length + 1 + d.length ≤ _; omega)) ?_))
 refine ⟨_,rfl,_,rfl,?_⟩
 show (a2B (a2B (a2B ([]:By) a) [_]) d).length ≤ _
 rw [a8H,h1]
 omega
theorem e0R (a:By) (b:I .u64) (ha:a.length ≤ 1000000000):∃ y,a5G K0 ((a,(b,())),()) = some y∧∃ l:By,y = ((l,()),())∧l.length ≤ a.length + 33:=by
 refine Wp.out (T:=fun o=>∃ y,o = some y∧∃ l:By,y = ((l,()),())∧l.length ≤ a.length + 33) ?_
 unfold a5G
 obtain ⟨y,hy,d,rfl,hd⟩:=d4Z a (b,((I.of .u64 0),((I.of .u64 0),((I.of .u64 0),())))) ha
 exact Wp.optF hy ⟨_,rfl,d,rfl,hd⟩
abbrev Msg:Type:=a0B
theorem d4L (m:Msg):Tot (a6M K0 ((m,()),())):=by
 refine Wp.out (T:=fun o=>Tot o) ?_
 unfold a6M
 have henc:∃ y,b0D K0 ((m,()),()) = some y∧∃ l:By,y = ((l,()),())∧l.length ≤ 99:=by
  refine Wp.out (T:=fun o=>∃ y,o = some y∧∃ l:By,y = ((l,()),())∧l.length ≤ 99) ?_
  unfold b0D
  obtain ⟨y,hy,l0,rfl,h0⟩:=e0R [] m.1 (Nat.zero_le _)
  obtain ⟨y,hy1,l1,rfl,h1⟩:=e0R l0 m.2.1 (by have:l0.length ≤ 0 + 33:=h0; omega)
  obtain ⟨y,hy2,l2,rfl,h2⟩:=d4Z l1 m.2.2.1 (by have:l0.length ≤ 0 + 33:=h0; omega)
  exact Wp.optF hy (Wp.optF hy1 (Wp.optF hy2 ⟨_,rfl,l2,rfl,by have:l0.length ≤ 0 + 33:=h0; omega⟩))
 obtain ⟨y,hy,l,rfl,hl⟩:=henc
 exact Wp.optF hy (Wp.tot (f3H l (by omega)) fun y=>⟨_,rfl⟩)
theorem d5C (l:List Msg) (n:Nat) (hn:n ≤ l.length) (hl:l.length ≤ 1073741824):∃ y,a7Y K0 ((l,(i6 n,())),()) = some y∧∃ o:List Hs,y = ((o,()),())∧o.length = n:=by
 refine Wp.out (T:=fun o=>∃ y,o = some y∧∃ o:List Hs,y = ((o,()),())∧o.length = n) ?_
 unfold a7Y
 refine Wp.iter (fun x=>∃ (i:Nat) (o:List Hs),x = ((l,(i6 n,(i6 i,()))),(o,()))∧i ≤ n∧o.length = i) (fun x=>n - x.1.2.2.1.val.toNat) ?_ ⟨0,[],rfl,by omega,rfl⟩ (by rw [a7S]; show n - 0 < _; omega)
 rintro x ⟨i,o,rfl,hi,ho⟩
 simp only [b0T,b4N,a3A (show i < 9223372036854775808 by omega) (show n < 9223372036854775808 by omega),a3N (show i < 9223372036854775808 by omega),a4C (show i + 1 < 9223372036854775808 by omega)]
 refine Wp.brn (fun hc=>?_) (fun hc=>?_)
 ·
  have hc:=of_decide_eq_true hc
  refine Wp.brnT (a3S (by omega) (by omega)) (Wp.tot (d4L _) fun y1=>Wp.brnT (b9V _ _ (by show o.length + 1 ≤ _; omega)) ?_)
  refine Wp.again ⟨i + 1,_,rfl,by omega,?_⟩ ?_
  ·
   rw [a8H,ho]; rfl
  ·
   show n - (i6 (i + 1)).val.toNat < n - (i6 i).val.toNat
   rw [a0V (by omega),a0V (by omega)]; omega
 ·
  have hc:=of_decide_eq_false hc
  exact Wp.done ⟨_,rfl,o,rfl,by omega⟩
theorem d2Q (n:Nat) (h2:2 ≤ n) (hn:n ≤ 4611686018427387904):∃ k,a4Y K0 ((i6 n,()),()) = some ((i6 k,()),())∧1 ≤ k∧k < n:=by
 refine Wp.out (T:=fun o=>∃ k,o = some ((i6 k,()),())∧1 ≤ k∧k < n) ?_
 unfold a4Y
 refine Wp.iter (fun x=>∃ k,x = ((i6 n,(i6 k,())),())∧1 ≤ k∧k < n) (fun x=>n - x.1.2.1.val.toNat) ?_ ⟨1,rfl,by omega,by omega⟩ (by rw [a7S]; show n - 1 < _; omega)
 rintro x ⟨k,rfl,hk,hkn⟩
 have hs:I.sub (i6 n) (i6 k) = i6 (n - k):=c0A (by omega) (by omega)
 have hm:I.mul (I.of .i64 2) (i6 k) = i6 (2 * k):=by
  apply I.ext'
  rw [c4O (by rw [a0V (by omega),show (I.of .i64 2).val = 2 from rfl]; omega),a0V (by omega),a0V (by omega),show (I.of .i64 2).val = 2 from rfl]
  omega
 simp only [hs,hm,a3A (show k < 9223372036854775808 by omega) (show n - k < 9223372036854775808 by omega)]
 refine Wp.brn (fun hc=>?_) (fun hc=>Wp.done ⟨k,rfl,hk,hkn⟩)
 have hc:=of_decide_eq_true hc
 refine Wp.again ⟨2 * k,rfl,by omega,by omega⟩ ?_
 show n - (i6 (2 * k)).val.toNat < n - (i6 k).val.toNat
 rw [a0V (by omega),a0V (by omega)]; omega
theorem e7D:∀ (k:Nat) (l:List Hs),l.length ≤ k→l.length ≤ 1073741824→Tot (a3C K0 (k + 1) ((l,()),())):=by
 intro k
 induction k with
 | zero =>
  intro l hl _
  have hl:l = []:=List.eq_nil_of_length_eq_zero (by omega)
  subst hl
  refine Wp.out (T:=fun o=>Tot o) ?_
  show Wp _ (a6K K0 (a3C K0 _) _)
  unfold a6K
  exact Wp.brnT rfl (Wp.tot (d7K [] (Nat.zero_le _)) fun y=>⟨_,rfl⟩)
 | succ k ih =>
  intro l hl hb
  refine Wp.out (T:=fun o=>Tot o) ?_
  show Wp _ (a6K K0 (a3C K0 _) _)
  unfold a6K
  have e0:I.eqb (I.ofNat .i64 l.length) (I.of .i64 0) = decide (l.length = 0):=e0I (m:=0) (by omega) (by omega)
  have e1:I.eqb (I.ofNat .i64 l.length) (I.of .i64 1) = decide (l.length = 1):=e0I (m:=1) (by omega) (by omega)
  refine Wp.brn (fun h=>Wp.tot (d7K [] (Nat.zero_le _)) fun y=>⟨_,rfl⟩) (fun h=>?_)
  have h:I.eqb (I.ofNat .i64 l.length) (I.of .i64 0) = false:=h
  rw [e0] at h
  have h:=of_decide_eq_false h
  refine Wp.brn (fun h1=>?_) (fun h1=>?_)
  ·
   exact Wp.brnT (a3S (n:=0) (by show 0 < l.length; omega) (by omega)) ⟨_,rfl⟩
  ·
   have h1:I.eqb (I.ofNat .i64 l.length) (I.of .i64 1) = false:=h1
   rw [e1] at h1
   have h1:=of_decide_eq_false h1
   obtain ⟨s,hs,s1,s2⟩:=d2Q l.length (by omega) (by omega)
   refine Wp.optF hs ?_
   have hin:inB' (i6 s) l.length = true:=i6_inB' (by omega) (by omega)
   have l1:(a4N l 0 s).length = s:=by rw [b8I]; omega
   have l2:(a4N l s (l.length - s)).length = l.length - s:=by rw [b8I]; omega
   have n1:I.nat (i6 s) = s:=a3N (by omega)
   have r1:=ih (a4N l 0 s) (by omega) (by omega)
   have r2:=ih (a4N l s (l.length - s)) (by omega) (by omega)
   refine Wp.brnT hin (Wp.tot (by show Tot (a3C K0 (k + 1) ((a4N l 0 (I.nat (i6 s)),()),())); rw [n1]; exact r1) fun y1=>Wp.brnT hin (Wp.tot (by show Tot (a3C K0 (k + 1) ((a4N l (I.nat (i6 s)) (a0I l - I.nat (i6 s)),()),())); rw [n1]; exact r2) fun y2=>Wp.tot (d7P _ _) fun y3=>⟨_,rfl⟩))
theorem e3M (n:Nat) (h:n ≤ 1000000000000):∃ k,K0 = k + 1∧n ≤ k:=⟨K0 - 1,by rw [a7S],by rw [a7S]; omega⟩
theorem d2O (l:List Hs) (hl:l.length ≤ 1073741824):Tot (a4W K0 ((l,()),())):=by
 unfold a4W
 obtain ⟨k,e,hk⟩:=e3M l.length (by omega)
 have:=e7D k l hk hl
 rw [← e] at this
 exact this
theorem e7B (l:List Msg) (hl:l.length ≤ 1073741824):Tot (a9S K0 ((l,(i6 l.length,())),())):=by
 refine Wp.out (T:=fun o=>Tot o) ?_
 unfold a9S
 refine Wp.jn (fun x=>∃ h:Hs,x = ((l,(i6 l.length,())),(h,()))) ?_ ?_
 ·
  rintro x ⟨h,rfl⟩
  obtain ⟨y,hy,o,rfl,ho⟩:=d5C l l.length (Nat.le_refl _) hl
  exact Wp.optF hy (Wp.tot (d2O o (by omega)) fun y=>⟨_,rfl⟩)
 ·
  intro j hj
  exact Wp.brn (fun _=>⟨_,rfl⟩) (fun _=>Wp.brn (fun _=>⟨_,rfl⟩) (fun _=>hj _ ⟨_,rfl⟩))
end Sym

/- Proofs of the reference: they end. -/
namespace Sym
open Go
theorem f3Q:∀ (k:Nat) (l:List Hs) (i:I .i64),l.length ≤ k→l.length ≤ 1073741824→∃ y,a3O K0 (k + 1) ((l,(i,())),()) = some y∧∃ o:List Hs,y = ((),(o,()))∧o.length ≤ l.length:=by
 intro k
 induction k with
 | zero =>
  intro l i hl _
  have hl:l = []:=List.eq_nil_of_length_eq_zero (by omega)
  subst hl
  refine Wp.out (T:=fun o=>∃ y,o = some y∧∃ o:List Hs,y = ((),(o,()))∧o.length ≤ ([]:List Hs).length) ?_
  show Wp _ (a6Z K0 (a3O K0 _) _)
  unfold a6Z
  exact Wp.brnT rfl ⟨_,rfl,[],rfl,Nat.le_refl _⟩
 | succ k ih =>
  intro l i hl hb
  refine Wp.out (T:=fun o=>∃ y,o = some y∧∃ o:List Hs,y = ((),(o,()))∧o.length ≤ l.length) ?_
  show Wp _ (a6Z K0 (a3O K0 _) _)
  unfold a6Z
  have e2:I.ltb (I.ofNat .i64 l.length) (I.of .i64 2) = decide (l.length < 2):=a3A (m:=2) (by omega) (by omega)
  refine Wp.brn (fun h=>⟨_,rfl,[],rfl,Nat.zero_le _⟩) (fun h=>?_)
  have h:I.ltb (I.ofNat .i64 l.length) (I.of .i64 2) = false:=h
  rw [e2] at h
  have h:=of_decide_eq_false h
  obtain ⟨s,hs,s1,s2⟩:=d2Q l.length (by omega) (by omega)
  refine Wp.optF hs ?_
  have hin:inB' (i6 s) l.length = true:=i6_inB' (by omega) (by omega)
  have l1:(a4N l 0 s).length = s:=by rw [b8I]; omega
  have l2:(a4N l s (l.length - s)).length = l.length - s:=by rw [b8I]; omega
  have n1:I.nat (i6 s) = s:=a3N (by omega)
  refine Wp.brn (fun _=>?_) (fun _=>?_)
  ·
   refine Wp.brnT hin ?_
   obtain ⟨y,hy,o,rfl,ho⟩:=ih (a4N l 0 s) i (by omega) (by omega)
   have r2:=d2O (a4N l s (l.length - s)) (by omega)
   refine Wp.optF (y:=((),(o,()))) (by show a3O K0 (k + 1) ((a4N l 0 (I.nat (i6 s)),(i,())),()) = _; rw [n1]; exact hy) (Wp.brnT hin (Wp.tot (by show Tot (a4W K0 ((a4N l (I.nat (i6 s)) (a0I l - I.nat (i6 s)),()),())); rw [n1]; exact r2) fun y2=>Wp.brnT (b9V _ _ (by show o.length + 1 ≤ _; omega)) ⟨_,rfl,_,rfl,?_⟩))
   show (a2B o [_]).length ≤ _
   rw [a8H]
   show o.length + 1 ≤ _
   omega
  ·
   refine Wp.brnT hin ?_
   obtain ⟨y,hy,o,rfl,ho⟩:=ih (a4N l s (l.length - s)) (I.sub i (i6 s)) (by omega) (by omega)
   have r2:=d2O (a4N l 0 s) (by omega)
   refine Wp.optF (y:=((),(o,()))) (by show a3O K0 (k + 1) ((a4N l (I.nat (i6 s)) (a0I l - I.nat (i6 s)),(I.sub i (i6 s),())),()) = _; rw [n1]; exact hy) (Wp.brnT hin (Wp.tot (by show Tot (a4W K0 ((a4N l 0 (I.nat (i6 s)),()),())); rw [n1]; exact r2) fun y2=>Wp.brnT (b9V _ _ (by show o.length + 1 ≤ _; omega)) ⟨_,rfl,_,rfl,?_⟩))
   show (a2B o [_]).length ≤ _
   rw [a8H]
   show o.length + 1 ≤ _
   omega
theorem e8G (l:List Hs) (i:I .i64) (hl:l.length ≤ 1073741824):∃ y,b3B K0 ((l,(i,())),()) = some y∧∃ o:List Hs,y = ((),(o,()))∧o.length ≤ l.length:=by
 unfold b3B
 obtain ⟨k,e,hk⟩:=e3M l.length (by omega)
 have:=f3Q k l i hk hl
 rw [← e] at this
 exact this
theorem e1R (l:List Msg) (i:I .i64) (n:Nat) (hn:n < 9223372036854775808) (hl:l.length ≤ 1073741824):∃ y,b1R K0 ((l,(i,(i6 n,()))),()) = some y∧∃ (b:Bool) (o:List Hs),y = ((b,()),(o,()))∧o.length ≤ l.length:=by
 refine Wp.out (T:=fun o=>∃ y,o = some y∧∃ (b:Bool) (o:List Hs),y = ((b,()),(o,()))∧o.length ≤ l.length) ?_
 unfold b1R
 refine Wp.jn (fun x=>n ≤ l.length∧x = ((l,(i,(i6 n,()))),())) ?_ ?_
 ·
  rintro x ⟨hn,rfl⟩
  obtain ⟨y,hy,o,rfl,ho⟩:=d5C l n hn hl
  obtain ⟨y,hy2,p,rfl,hp⟩:=e8G o i (by omega)
  exact Wp.optF hy (Wp.optF hy2 ⟨_,rfl,_,p,rfl,by omega⟩)
 ·
  intro j hj
  refine Wp.brn (fun _=>⟨_,rfl,_,[],rfl,Nat.zero_le _⟩) (fun _=>Wp.brn (fun _=>⟨_,rfl,_,[],rfl,Nat.zero_le _⟩) (fun _=>Wp.brn (fun _=>⟨_,rfl,_,[],rfl,Nat.zero_le _⟩) (fun h=>hj _ ⟨?_,rfl⟩)))
  have h:I.ltb (I.ofNat .i64 l.length) (i6 n) = false:=h
  have e:I.ltb (I.ofNat .i64 l.length) (i6 n) = decide (l.length < n):=a3A (by omega) hn
  rw [e] at h
  have:=of_decide_eq_false h
  omega
theorem g4X:∀ (k n:Nat) (i:I .i64) (h:Hs) (p:List Hs),p.length ≤ k→p.length ≤ 1073741824→1 ≤ n→n ≤ 1073741824→Tot (a4V K0 (k + 1) ((i6 n,(i,(h,(p,())))),())):=by
 intro k
 induction k with
 | zero =>
  intro n i h p hp _ _ _
  have hl:p = []:=List.eq_nil_of_length_eq_zero (by omega)
  subst hl
  refine Wp.out (T:=fun o=>Tot o) ?_
  show Wp _ (a8V K0 (a4V K0 _) _)
  unfold a8V
  exact Wp.brn (fun _=>⟨_,rfl⟩) (fun _=>Wp.brnT rfl ⟨_,rfl⟩)
 | succ k ih =>
  intro n i h p hp hb hn hn2
  refine Wp.out (T:=fun o=>Tot o) ?_
  show Wp _ (a8V K0 (a4V K0 _) _)
  unfold a8V
  refine Wp.brn (fun _=>⟨_,rfl⟩) (fun hn1=>?_)
  have hn1:I.eqb (i6 n) (I.of .i64 1) = false:=hn1
  have e1:I.eqb (i6 n) (I.of .i64 1) = decide (n = 1):=e0I (m:=1) (by omega) (by omega)
  rw [e1] at hn1
  have hn1:=of_decide_eq_false hn1
  refine Wp.brn (fun _=>⟨_,rfl⟩) (fun hp0=>?_)
  have hp0:I.eqb (I.ofNat .i64 p.length) (I.of .i64 0) = false:=hp0
  have e0:I.eqb (I.ofNat .i64 p.length) (I.of .i64 0) = decide (p.length = 0):=e0I (m:=0) (by omega) (by omega)
  rw [e0] at hp0
  have hp0:=of_decide_eq_false hp0
  have hs:I.sub (I.ofNat .i64 (a0I p)) (I.of .i64 1) = i6 (p.length - 1):=c0A (n:=p.length) (m:=1) (by omega) (by omega)
  have n1:I.nat (i6 (p.length - 1)) = p.length - 1:=a3N (by omega)
  have lp:(a4N p 0 (p.length - 1)).length = p.length - 1:=by rw [b8I]; omega
  have hin:inB (I.sub (I.ofNat .i64 (a0I p)) (I.of .i64 1)) (a0I p) = true:=by rw [hs]; exact a3S (by show p.length - 1 < p.length; omega) (by omega)
  have hin':inB' (I.sub (I.ofNat .i64 (a0I p)) (I.of .i64 1)) (a0I p) = true:=by rw [hs]; exact i6_inB' (by show p.length - 1 ≤ p.length; omega) (by omega)
  refine Wp.brnT hin ?_
  obtain ⟨s,hsp,s1,s2⟩:=d2Q n (by omega) (by omega)
  refine Wp.optF hsp ?_
  have hss:I.sub (i6 n) (i6 s) = i6 (n - s):=c0A (by omega) (by omega)
  refine Wp.brn (fun _=>Wp.brnT hin' ?_) (fun _=>Wp.brnT hin' ?_)
  ·
   have r:=ih s i h (a4N p 0 (p.length - 1)) (by omega) (by omega) (by omega) (by omega)
   refine Wp.tot (by show Tot (a4V K0 (k + 1) ((i6 s,(i,(h,(a4N p 0 (I.nat (I.sub (I.ofNat .i64 (a0I p)) (I.of .i64 1))),())))),())); rw [hs,n1]; exact r) fun y1=>Wp.tot (d7P _ _) fun y2=>⟨_,rfl⟩
  ·
   have r:=ih (n - s) (I.sub i (i6 s)) h (a4N p 0 (p.length - 1)) (by omega) (by omega) (by omega) (by omega)
   refine Wp.tot (by show Tot (a4V K0 (k + 1) ((I.sub (i6 n) (i6 s),(I.sub i (i6 s),(h,(a4N p 0 (I.nat (I.sub (I.ofNat .i64 (a0I p)) (I.of .i64 1))),())))),())); rw [hs,n1,hss]; exact r) fun y1=>Wp.tot (d7P _ _) fun y2=>⟨_,rfl⟩
theorem e7A (root:Hs) (n:Nat) (i:I .i64) (leaf:Hs) (p:List Hs) (hn:1 ≤ n) (hn2:n ≤ 1073741824) (hp:p.length ≤ 1073741824):Tot (a7F K0 ((root,(i6 n,(i,(leaf,(p,()))))),())):=by
 refine Wp.out (T:=fun o=>Tot o) ?_
 unfold a7F
 refine Wp.jn (fun x=>x = ((i6 n,(i,(p,()))),(root,(leaf,())))) ?_ ?_
 ·
  rintro x rfl
  have hu:Tot (b6M K0 ((i6 n,(i,(leaf,(p,())))),())):=by
   unfold b6M
   obtain ⟨k,e,hk⟩:=e3M p.length (by omega)
   have:=g4X k n i leaf p hk hp hn hn2
   rw [← e] at this
   exact this
  exact Wp.tot hu fun y1=>Wp.brn (fun _=>⟨_,rfl⟩) (fun _=>⟨_,rfl⟩)
 ·
  intro j hj
  exact Wp.brn (fun _=>⟨_,rfl⟩) (fun _=>Wp.brn (fun _=>⟨_,rfl⟩) (fun _=>Wp.brn (fun _=>⟨_,rfl⟩) (fun _=>hj _ rfl)))
end Sym

/- The escrow of the reference, and what else a step calls. -/
namespace Sym
open Go
theorem Tot.val {Y:Type} {o:Option Y} (h:Tot o) (d:Y):o = some (o.getD d):=by
 obtain ⟨y,rfl⟩:=h
 rfl
theorem f7C (l:List Ac) (v:V4) (k:Nat) (hk:k < 4):a6S K0 (((l,(v,())),(i6 (k + 1),())),()) = some ((d5N v k,()),()):=by
 refine Wp.out (T:=fun o=>o = some ((d5N v k,()),())) ?_
 unfold a6S
 have hsub:I.sub (i6 (k + 1)) (I.of .i64 1) = i6 k:=by rw [b4N,c0A (by omega) (by omega)]; rfl
 refine Wp.brnF (niff_ltb.2 (by show (I.of .i64 1).val ≤ (i6 (k + 1)).val; rw [a0V (by omega),show (I.of .i64 1).val = 1 from rfl]; omega)) ?_
 refine Wp.brnF (niff_ltb.2 (by show (i6 (k + 1)).val ≤ (I.of .i64 4).val; rw [a0V (by omega),show (I.of .i64 4).val = 4 from rfl]; omega)) ?_
 refine Wp.brnT (by show inB (I.sub (i6 (k + 1)) (I.of .i64 1)) 4 = true; rw [hsub]; exact a3S hk (by omega)) ?_
 show some ((Arr.sel Z_U 4 v (I.nat (I.sub (i6 (k + 1)) (I.of .i64 1))),()),()) = _
 rw [hsub,a3N (by omega)]
 rfl
noncomputable def e3G (v:V4) (k:Nat) (n:U):I .i64 × V4 :=
 if n.val ≤ (d5N v k).val then (I.of .i64 0,f8T v k (U.of ((d5N v k).val - n.val))) else (I.of .i64 10,v)
theorem g5S (v:V4) (l:List Ac) (k:Nat) (hk:k < 4) (n:U):a4B K0 ((i6 (k + 1),(n,())),(lgH v,(l,()))) = some (((e3G v k n).1,()),(lgH (e3G v k n).2,(l,()))):=by
 refine Wp.out (T:=fun o=>o = some (((e3G v k n).1,()),(lgH (e3G v k n).2,(l,())))) ?_
 unfold a4B e3G
 have hsub:I.sub (i6 (k + 1)) (I.of .i64 1) = i6 k:=by rw [b4N,c0A (by omega) (by omega)]; rfl
 have hin:inB (I.sub (i6 (k + 1)) (I.of .i64 1)) 4 = true:=by rw [hsub]; exact a3S hk (by omega)
 refine Wp.jn (fun x=>x = ((i6 (k + 1),()),(lgH v,(l,(n,()))))) ?_ ?_
 ·
  rintro x rfl
  refine Wp.brnT hin ?_
  simp only [hsub,a3N (show k < 9223372036854775808 by omega)]
  refine Wp.optF (c1H (d5N v k) n) ?_
  unfold e9R
  by_cases h:n.val ≤ (d5N v k).val
  ·
   simp only [if_pos h]
   exact Wp.brnF (show I.neb (I.of .i64 0) (I.of .i64 0) = false by decide) (Wp.brnT (a3S hk (by omega)) rfl)
  ·
   simp only [if_neg h]
   exact Wp.brnT (show I.neb (I.of .i64 4) (I.of .i64 0) = true by decide) rfl
 ·
  intro j hj
  refine Wp.brnF (niff_ltb.2 (by show (I.of .i64 1).val ≤ (i6 (k + 1)).val; rw [a0V (by omega),show (I.of .i64 1).val = 1 from rfl]; omega)) ?_
  refine Wp.brnF (niff_ltb.2 (by show (i6 (k + 1)).val ≤ (I.of .i64 4).val; rw [a0V (by omega),show (I.of .i64 4).val = 4 from rfl]; omega)) ?_
  exact hj _ rfl
abbrev EsH:Type:=a0U
def esH (b:U):EsH:=(b,((),((),((),()))))
noncomputable def f9A (b n:U):I .i64 × U :=
 if n.val = 0 then (I.of .i64 2,b) else if b.val + n.val < U.top then (I.of .i64 0,U.of (b.val + n.val)) else (I.of .i64 4,b)
theorem g4H (b n:U) (r:List Hs) (cl:List (I .u64)) (ba:List Pay):a5W K0 ((n,()),(esH b,(r,(cl,(ba,()))))) = some (((f9A b n).1,()),(esH (f9A b n).2,(r,(cl,(ba,()))))):=by
 refine Wp.out (T:=fun o=>o = some (((f9A b n).1,()),(esH (f9A b n).2,(r,(cl,(ba,())))))) ?_
 unfold a5W f9A
 refine Wp.optF (c2G n) ?_
 refine Wp.brn (fun h=>?_) (fun h=>?_)
 ·
  rw [if_pos (of_decide_eq_true h)]
  rfl
 ·
  rw [if_neg (of_decide_eq_false h)]
  refine Wp.optF (c8O b n) ?_
  by_cases hc:b.val + n.val < U.top
  ·
   rw [if_pos hc,c4A hc]
   exact Wp.brnF (show I.neb (I.of .i64 0) (I.of .i64 0) = false by decide) rfl
  ·
   rw [if_neg hc,d7A (by omega)]
   exact Wp.brnT (show I.neb (I.of .i64 4) (I.of .i64 0) = true by decide) rfl
def clB (l:List (I .u64)) (a:I .u64):Bool:=l.any fun p=>I.eqb p a
theorem e7P (b:U) (r:List Hs) (cl:List (I .u64)) (ba:List Pay) (a:I .u64) (hl:cl.length ≤ 1073741824):a4G K0 (((b,(r,(cl,(ba,())))),(a,())),()) = some ((clB cl a,()),()):=by
 refine Wp.out (T:=fun o=>o = some ((clB cl a,()),())) ?_
 unfold a4G
 refine Wp.iter (fun s=>∃ i,s = (((b,(r,(cl,(ba,())))),(a,(i6 i,()))),())∧i ≤ cl.length∧∀ k,k < i→I.eqb (rdL (I.of .u64 0) cl k) a = false) (fun s=>cl.length - s.1.2.2.1.val.toNat) ?_ ⟨0,rfl,by omega,fun k hk=>by omega⟩ (by rw [a7S]; show cl.length - 0 < _; omega)
 rintro s ⟨i,rfl,hi,ht⟩
 simp only [b0T,a9B,b4N,a3A (show i < 9223372036854775808 by omega) (show cl.length < 9223372036854775808 by omega),a3N (show i < 9223372036854775808 by omega),a4C (show i + 1 < 9223372036854775808 by omega)]
 refine Wp.brn (fun hc=>?_) (fun hc=>?_)
 ·
  have hc:=of_decide_eq_true hc
  refine Wp.brnT (a3S (by omega) (by omega)) ?_
  refine Wp.brn (fun h=>?_) (fun h=>?_)
  ·
   refine Wp.done ?_
   have:clB cl a = true:=List.any_eq_true.2 ⟨_,b7E (I.of .u64 0) cl i hc,h⟩
   rw [this]
   rfl
  ·
   refine Wp.again ⟨i + 1,rfl,by omega,fun k hk=>?_⟩ (by show cl.length - (i6 (i + 1)).val.toNat < cl.length - (i6 i).val.toNat; rw [a0V (by omega),a0V (by omega)]; omega)
   rcases (by omega:k < i ∨ k = i) with h3 | rfl
   ·
    exact ht k h3
   ·
    exact h
 ·
  have hc:=of_decide_eq_false hc
  refine Wp.done ?_
  have:clB cl a = false:=by
   rw [clB,List.any_eq_false]
   intro x hx
   obtain ⟨k,hk,rfl⟩:=b9H (I.of .u64 0) hx
   rw [ht k (by omega)]
   decide
  rw [this]
  rfl
noncomputable abbrev d4C:Pay:=a1Y
def pAt (l:List Pay) (a:I .u64):Nat:=l.findIdx fun p=>I.eqb p.1 a
theorem f8O {l:List Pay} {a:I .u64} {i:Nat} (hi:i < l.length) (h1:I.eqb (rdL d4C l i).1 a = true) (h2:∀ k,k < i→I.eqb (rdL d4C l k).1 a = false):pAt l a = i:=by
 unfold pAt
 rw [List.findIdx_eq hi]
 refine ⟨by rw [← a3X d4C l i hi]; exact h1,fun k hk=>?_⟩
 rw [← a3X d4C l k (by omega)]
 exact h2 k hk
theorem e6H {l:List Pay} {a:I .u64} (h2:∀ k,k < l.length→I.eqb (rdL d4C l k).1 a = false):pAt l a = l.length:=by
 unfold pAt
 rw [List.findIdx_eq_length]
 intro x hx
 obtain ⟨k,hk,rfl⟩:=b9H d4C hx
 exact h2 k hk
noncomputable def f4G (l:List Pay) (a:I .u64):U:=if pAt l a < l.length then (rdL d4C l (pAt l a)).2.1 else Z_U
noncomputable def f9M (l:List Pay) (a:I .u64) (n:U):List Pay:=if pAt l a < l.length then c1V l (pAt l a) ((rdL d4C l (pAt l a)).1,(n,(rdL d4C l (pAt l a)).2.2)) else l ++ [(a,(n,()))]
theorem g5F (b:U) (r:List Hs) (cl:List (I .u64)) (ba:List Pay) (a:I .u64) (hl:ba.length ≤ 1073741824):a5C K0 (((b,(r,(cl,(ba,())))),(a,())),()) = some ((f4G ba a,()),()):=by
 refine Wp.out (T:=fun o=>o = some ((f4G ba a,()),())) ?_
 unfold a5C
 refine Wp.iter (fun s=>∃ i,s = (((b,(r,(cl,(ba,())))),(a,(i6 i,()))),(Z_U,()))∧i ≤ ba.length∧∀ k,k < i→I.eqb (rdL d4C ba k).1 a = false) (fun s=>ba.length - s.1.2.2.1.val.toNat) ?_ ⟨0,rfl,by omega,fun k hk=>by omega⟩ (by rw [a7S]; show ba.length - 0 < _; omega)
 rintro s ⟨i,rfl,hi,ht⟩
 simp only [b0T,a9B,b4N,a3A (show i < 9223372036854775808 by omega) (show ba.length < 9223372036854775808 by omega),a3N (show i < 9223372036854775808 by omega),a4C (show i + 1 < 9223372036854775808 by omega)]
 refine Wp.brn (fun hc=>?_) (fun hc=>?_)
 ·
  have hc:=of_decide_eq_true hc
  have hin:inB (i6 i) ba.length = true:=a3S (by omega) (by omega)
  refine Wp.brnT hin ?_
  refine Wp.brn (fun h=>?_) (fun h=>?_)
  ·
   refine Wp.brnT hin (Wp.done ?_)
   unfold f4G
   rw [f8O hc h ht,if_pos hc]
   rfl
  ·
   refine Wp.again ⟨i + 1,rfl,by omega,fun k hk=>?_⟩ (by show ba.length - (i6 (i + 1)).val.toNat < ba.length - (i6 i).val.toNat; rw [a0V (by omega),a0V (by omega)]; omega)
   rcases (by omega:k < i ∨ k = i) with h3 | rfl
   ·
    exact ht k h3
   ·
    exact h
 ·
  have hc:=of_decide_eq_false hc
  refine Wp.done ?_
  unfold f4G
  rw [e6H fun k hk=>ht k (by omega),if_neg (by omega)]
  rfl
theorem f1O (a b:I .u64):Tot (a8R K0 ((a,(b,())),())):=by
 refine Wp.out (T:=fun o=>Tot o) ?_
 unfold a8R
 obtain ⟨r0,e0,B0⟩:=a1K a
 obtain ⟨r1,e1,B1⟩:=a1K b
 obtain ⟨r2,e2,B2⟩:=b2F B0 B1 (d8V B0) (d8V B1)
 have h:=a3I a
 have h':=a3I b
 have e3:=c4Q B2 (b4A B2 (k:=5) (Nat.lt_of_lt_of_le (show a.nat + b.nat < 36893488147419103232 by omega) (by decide)) (by decide))
 refine Wp.optF e0 (Wp.optF e1 (Wp.optF e2 (Wp.optF e3 (Wp.optF (d1Q _) ?_))))
 exact Wp.brn (fun _=>⟨_,rfl⟩) (fun _=>⟨_,rfl⟩)
end Sym

/- Claims and parameters of the reference. -/
namespace Sym
open Go
abbrev Clm:Type:=b5T
noncomputable def vfB (root:Hs) (n:Nat) (i:I .i64) (leaf:Hs) (p:List Hs):Bool:=((a7F K0 ((root,(i6 n,(i,(leaf,(p,()))))),())).getD ((false,()),())).1.1
noncomputable def lfS (m:Msg):Hs:=((a6M K0 ((m,()),())).getD ((a2J,()),())).1.1
theorem g8A (m:Msg):a6M K0 ((m,()),()) = some ((lfS m,()),()):=(d4L m).val ((a2J,()),())
theorem h0C (root:Hs) (n:Nat) (i:I .i64) (leaf:Hs) (p:List Hs) (hn:1 ≤ n) (hn2:n ≤ 1073741824) (hp:p.length ≤ 1073741824):a7F K0 ((root,(i6 n,(i,(leaf,(p,()))))),()) = some ((vfB root n i leaf p,()),()):=(e7A root n i leaf p hn hn2 hp).val ((false,()),())
abbrev ClR:Type:=I .i64 × U × List (I .u64) × List Pay
def d0Z (c:Clm):I .u64:=c.1
def b3A (c:Clm):I .u64:=c.2.1
def cTo (c:Clm):I .u64:=c.2.2.1
def c6R (c:Clm):U:=c.2.2.2.1
def d3Y (c:Clm):List Hs:=c.2.2.2.2.1
noncomputable def c4C (b:U) (r:List Hs) (cl:List (I .u64)) (ba:List Pay) (c:Clm):ClR :=
 if (cTo c).val = 0 ∨ (c6R c).val = 0 ∨ 64 < (d3Y c).length then (I.of .i64 2,b,cl,ba)
 else if (b3A c).nat < 1 ∨ r.length < (b3A c).nat ∨ (b3A c).nat ≤ (d0Z c).nat then (I.of .i64 8,b,cl,ba)
 else if clB cl (d0Z c) = true then (I.of .i64 9,b,cl,ba)
 else if vfB (rdL a2J r ((b3A c).nat - 1)) (b3A c).nat (I.conv .i64 (d0Z c)) (lfS (d0Z c,(cTo c,(c6R c,())))) (d3Y c) = false then (I.of .i64 16,b,cl,ba)
 else if b.val < (c6R c).val then (I.of .i64 10,b,cl,ba)
 else if (f4G ba (cTo c)).val + (c6R c).val < U.top then (I.of .i64 0,U.of (b.val - (c6R c).val),cl ++ [d0Z c],f9M ba (cTo c) (U.of ((f4G ba (cTo c)).val + (c6R c).val)))
 else (I.of .i64 4,b,cl,ba)
theorem f6G {n:Nat} (h:n < 9223372036854775808):(I.conv (k:=.i64) .u64 (i6 n)) = I.of .u64 (n:Int):=by
 unfold I.conv
 rw [a0V h]
theorem g0A {a:I .u64} (h:a.nat < 9223372036854775808):(I.conv (k:=.u64) .i64 a) = i6 a.nat:=by
 unfold I.conv
 have:=a2A a
 rw [← this]
 rfl
theorem d8A {a b:I .u64}:I.ltb a b = decide (a.nat < b.nat):=by
 have h1:=a2A a
 have h2:=a2A b
 unfold I.ltb
 by_cases h:a.nat < b.nat
 ·
  rw [decide_eq_true h,decide_eq_true (by omega)]
 ·
  rw [decide_eq_false h,decide_eq_false (by omega)]
theorem e9K {a b:I .u64}:I.leb a b = decide (a.nat ≤ b.nat):=by
 have h1:=a2A a
 have h2:=a2A b
 unfold I.leb
 by_cases h:a.nat ≤ b.nat
 ·
  rw [decide_eq_true h,decide_eq_true (by omega)]
 ·
  rw [decide_eq_false h,decide_eq_false (by omega)]
theorem f5S (b:U) (r:List Hs) (cl:List (I .u64)) (ba:List Pay) (c:Clm) (hr:r.length ≤ 1073741824) (hcl:cl.length < 1073741824) (hba:ba.length < 1073741824) (hpf:(d3Y c).length ≤ 1073741824) :
  a6V K0 ((c,()),(esH b,(r,(cl,(ba,()))))) = some (((c4C b r cl ba c).1,()),(esH (c4C b r cl ba c).2.1,(r,((c4C b r cl ba c).2.2.1,((c4C b r cl ba c).2.2.2,()))))):=by
 refine Wp.out (T:=fun o=>o = some (((c4C b r cl ba c).1,()),(esH (c4C b r cl ba c).2.1,(r,((c4C b r cl ba c).2.2.1,((c4C b r cl ba c).2.2.2,())))))) ?_
 unfold a6V
 have hrl:(I.conv (k:=.i64) .u64 (I.ofNat .i64 (a0I r))).nat = r.length:=by
  show (I.conv (k:=.i64) .u64 (i6 r.length)).nat = _
  rw [f6G (by omega)]
  exact b5P (by omega)
 refine Wp.jn (fun x=>(¬ ((cTo c).val = 0 ∨ (c6R c).val = 0 ∨ 64 < (d3Y c).length))∧x = ((),(esH b,(r,(cl,(ba,(c,()))))))) ?_ ?_
 ·
  rintro x ⟨h1,rfl⟩
  refine Wp.jn (fun x=>(¬ ((b3A c).nat < 1 ∨ r.length < (b3A c).nat ∨ (b3A c).nat ≤ (d0Z c).nat))∧x = ((),(esH b,(r,(cl,(ba,(c,()))))))) ?_ ?_
  ·
   rintro x ⟨h2,rfl⟩
   unfold c4C
   rw [if_neg h1,if_neg h2]
   refine Wp.optF (e7P b r cl ba (d0Z c) (by omega)) ?_
   refine Wp.brn (fun h3=>?_) (fun h3=>?_)
   ·
    have h3:clB cl (d0Z c) = true:=h3
    rw [if_pos h3]
    rfl
   ·
    have h3:clB cl (d0Z c) = false:=h3
    rw [if_neg (by rw [h3]; decide)]
    have hs1:(I.sub (b3A c) (I.of .u64 1)).nat = (b3A c).nat - 1:=sub_nat_le' _ _ (by show (I.of .u64 1).nat ≤ _; rw [show (I.of .u64 1).nat = 1 from rfl]; omega)
    refine Wp.brnT (iff_inB.2 (by have:=a2A (I.sub (b3A c) (I.of .u64 1)); show 0 ≤ (I.sub (b3A c) (I.of .u64 1)).val∧(I.sub (b3A c) (I.of .u64 1)).val < ((r.length:Nat):Int); omega)) ?_
    refine Wp.optF (g8A (d0Z c,(cTo c,(c6R c,())))) ?_
    have hv:=h0C (rdL a2J r ((b3A c).nat - 1)) (b3A c).nat (I.conv .i64 (d0Z c)) (lfS (d0Z c,(cTo c,(c6R c,())))) (d3Y c) (by omega) (by omega) (by omega)
    rw [← hs1,← g0A (a:=b3A c) (by omega)] at hv
    refine Wp.optF hv ?_
    rw [hs1]
    refine Wp.brn (fun h4=>?_) (fun h4=>?_)
    ·
     have h4:vfB (rdL a2J r ((b3A c).nat - 1)) (b3A c).nat (I.conv .i64 (d0Z c)) (lfS (d0Z c,(cTo c,(c6R c,())))) (d3Y c) = false:=by
      revert h4
      show a5Q (vfB _ _ _ _ _) = true→_
      cases vfB (rdL a2J r ((b3A c).nat - 1)) (b3A c).nat (I.conv .i64 (d0Z c)) (lfS (d0Z c,(cTo c,(c6R c,())))) (d3Y c) <;> simp [a5Q]
     rw [if_pos h4]
     rfl
    ·
     have h4:vfB (rdL a2J r ((b3A c).nat - 1)) (b3A c).nat (I.conv .i64 (d0Z c)) (lfS (d0Z c,(cTo c,(c6R c,())))) (d3Y c) = true:=by
      revert h4
      show a5Q (vfB _ _ _ _ _) = false→_
      cases vfB (rdL a2J r ((b3A c).nat - 1)) (b3A c).nat (I.conv .i64 (d0Z c)) (lfS (d0Z c,(cTo c,(c6R c,())))) (d3Y c) <;> simp [a5Q]
     rw [if_neg (by rw [h4]; decide)]
     refine Wp.optF (c1H b (c6R c)) ?_
     unfold e9R
     by_cases h5:(c6R c).val ≤ b.val
     ·
      rw [if_neg (show ¬ b.val < (c6R c).val by omega)]
      simp only [if_pos h5]
      refine Wp.brnF (show I.neb (I.of .i64 0) (I.of .i64 0) = false by decide) ?_
      refine Wp.optF (g5F b r cl ba (cTo c) (by omega)) (Wp.optF (c8O (f4G ba (cTo c)) (c6R c)) ?_)
      by_cases h6:(f4G ba (cTo c)).val + (c6R c).val < U.top
      ·
       rw [if_pos h6,c4A h6]
       refine Wp.brnF (show I.neb (I.of .i64 0) (I.of .i64 0) = false by decide) ?_
       refine Wp.brnT (b9V _ _ (by show cl.length + 1 ≤ _; omega)) ?_
       generalize U.of ((f4G ba (cTo c)).val + (c6R c).val) = n
       refine Wp.iter (fun s=>∃ i,s = ((i6 i,()),(esH (U.of (b.val - (c6R c).val)),(r,(cl ++ [d0Z c],(ba,(c,(n,())))))))∧i ≤ ba.length∧∀ k,k < i→I.eqb (rdL d4C ba k).1 (cTo c) = false) (fun s=>ba.length - s.1.1.val.toNat) ?_ ⟨0,rfl,by omega,fun k hk=>by omega⟩ (by rw [a7S]; show ba.length - 0 < _; omega)
       rintro s ⟨i,rfl,hi,ht⟩
       simp only [b0T,a9B,b4N,a3A (show i < 9223372036854775808 by omega) (show ba.length < 9223372036854775808 by omega),a3N (show i < 9223372036854775808 by omega),a4C (show i + 1 < 9223372036854775808 by omega)]
       refine Wp.brn (fun hc=>?_) (fun hc=>?_)
       ·
        have hc:=of_decide_eq_true hc
        have hin:inB (i6 i) ba.length = true:=a3S (by omega) (by omega)
        refine Wp.brnT hin ?_
        refine Wp.brn (fun h=>?_) (fun h=>?_)
        ·
         refine Wp.brnT hin (Wp.done ?_)
         have e:f9M ba (cTo c) n = c1V ba i ((rdL d4C ba i).1,(n,(rdL d4C ba i).2.2)):=by
          unfold f9M
          rw [f8O (a:=cTo c) hc h ht,if_pos hc]
         show some _ = some _
         rw [e]
         rfl
        ·
         refine Wp.again ⟨i + 1,rfl,by omega,fun k hk=>?_⟩ (by show ba.length - (i6 (i + 1)).val.toNat < ba.length - (i6 i).val.toNat; rw [a0V (by omega),a0V (by omega)]; omega)
         rcases (by omega:k < i ∨ k = i) with h3 | rfl
         ·
          exact ht k h3
         ·
          exact h
       ·
        have hc:=of_decide_eq_false hc
        refine Wp.done (Wp.brnT (b9V _ _ (by show ba.length + 1 ≤ _; omega)) ?_)
        have e:f9M ba (cTo c) n = ba ++ [(cTo c,(n,()))]:=by
         unfold f9M
         rw [e6H fun k hk=>ht k (by omega),if_neg (by omega)]
        show some _ = some _
        rw [e]
        rfl
      ·
       rw [if_neg h6,d7A (by omega)]
       exact Wp.brnT (show I.neb (I.of .i64 4) (I.of .i64 0) = true by decide) rfl
     ·
      rw [if_pos (show b.val < (c6R c).val by omega)]
      simp only [if_neg h5]
      exact Wp.brnT (show I.neb (I.of .i64 4) (I.of .i64 0) = true by decide) rfl
  ·
   intro j hj
   have e8:c4C b r cl ba c = (if (b3A c).nat < 1 ∨ r.length < (b3A c).nat ∨ (b3A c).nat ≤ (d0Z c).nat then (I.of .i64 8,b,cl,ba) else c4C b r cl ba c):=by
    split
    ·
     rename_i h
     unfold c4C
     rw [if_neg h1,if_pos h]
    ·
     rfl
   refine Wp.brn (fun h=>?_) (fun h=>?_)
   ·
    have h:I.ltb (b3A c) (I.of .u64 1) = true:=h
    rw [d8A] at h
    have h:=of_decide_eq_true h
    rw [e8,if_pos (.inl h)]
    rfl
   ·
    have h:I.ltb (b3A c) (I.of .u64 1) = false:=h
    rw [d8A] at h
    have h:¬ (b3A c).nat < 1:=of_decide_eq_false h
    refine Wp.brn (fun g=>?_) (fun g=>?_)
    ·
     have g:I.ltb (I.conv (k:=.i64) .u64 (I.ofNat .i64 (a0I r))) (b3A c) = true:=g
     rw [d8A,hrl] at g
     have g:=of_decide_eq_true g
     rw [e8,if_pos (.inr (.inl g))]
     rfl
    ·
     have g:I.ltb (I.conv (k:=.i64) .u64 (I.ofNat .i64 (a0I r))) (b3A c) = false:=g
     rw [d8A,hrl] at g
     have g:=of_decide_eq_false g
     refine Wp.brn (fun q=>?_) (fun q=>?_)
     ·
      have q:I.leb (b3A c) (d0Z c) = true:=q
      rw [e9K] at q
      have q:=of_decide_eq_true q
      rw [e8,if_pos (.inr (.inr q))]
      rfl
     ·
      have q:I.leb (b3A c) (d0Z c) = false:=q
      rw [e9K] at q
      have q:=of_decide_eq_false q
      exact hj _ ⟨by omega,rfl⟩
 ·
  intro j hj
  have e2:c4C b r cl ba c = (if (cTo c).val = 0 ∨ (c6R c).val = 0 ∨ 64 < (d3Y c).length then (I.of .i64 2,b,cl,ba) else c4C b r cl ba c):=by
   split
   ·
    rename_i h
    unfold c4C
    rw [if_pos h]
   ·
    rfl
  refine Wp.brn (fun h=>?_) (fun h=>?_)
  ·
   have h:(cTo c).val = 0:=iff_eqb.1 h
   rw [e2,if_pos (.inl h)]
   rfl
  ·
   have h:(cTo c).val ≠ 0:=niff_eqb.1 h
   refine Wp.optF (c2G (c6R c)) ?_
   refine Wp.brn (fun g=>?_) (fun g=>?_)
   ·
    have g:=of_decide_eq_true g
    rw [e2,if_pos (.inr (.inl g))]
    rfl
   ·
    have g:=of_decide_eq_false g
    have e:I.ltb (I.of .i64 64) (I.ofNat .i64 (a0I (d3Y c))) = decide (64 < (d3Y c).length):=a3A (n:=64) (by omega) (by show (d3Y c).length < _; omega)
    refine Wp.brn (fun q=>?_) (fun q=>?_)
    ·
     have q:I.ltb (I.of .i64 64) (I.ofNat .i64 (a0I (d3Y c))) = true:=q
     rw [e] at q
     have q:=of_decide_eq_true q
     rw [e2,if_pos (.inr (.inr q))]
     rfl
    ·
     have q:I.ltb (I.of .i64 64) (I.ofNat .i64 (a0I (d3Y c))) = false:=q
     rw [e] at q
     have q:=of_decide_eq_false q
     exact hj _ ⟨by omega,rfl⟩
end Sym

/- The machine of the reference. -/
namespace Sym
open Go
theorem g1M (p:Prm) (k:I .i64) (n:U):Tot (a7L K0 ((p,(k,(n,()))),())):=by
 refine Wp.out (T:=fun o=>Tot o) ?_
 unfold a7L
 refine Wp.jn (fun x=>(1 ≤ k.val∧k.val ≤ 12)∧∃ z,x = ((k,()),(p,(n,(z,()))))) ?_ ?_
 ·
  rintro x ⟨hk,z,rfl⟩
  refine Wp.optF (b6B p) (Wp.brn (fun _=>⟨_,rfl⟩) (fun _=>Wp.tot ⟨_,rfl⟩ (fun y2=>?_)))
  have hs:(I.sub k (I.of .i64 1)).val = k.val - 1:=by rw [a8B (by rw [show (I.of .i64 1).val = 1 from rfl]; omega)]; rfl
  refine Wp.brnT (iff_inB.2 (by show 0 ≤ (I.sub k (I.of .i64 1)).val∧(I.sub k (I.of .i64 1)).val < ((12:Nat):Int); omega)) ?_
  refine Wp.iter (fun x=>∃ i,i ≤ 12∧x.1.1 = i6 i) (fun x=>12 - x.1.1.val.toNat) ?_ ⟨0,by omega,rfl⟩ (by rw [a7S]; show 12 - 0 < _; decide)
  rintro ⟨⟨j,⟨⟩⟩,x3⟩ ⟨i,hi,e2⟩
  simp only at e2
  subst e2
  refine Wp.brn (fun hc=>?_) (fun hc=>?_)
  ·
   have hc:i < 12:=by have:=iff_ltb.1 hc; simp only [a0V (show i < 9223372036854775808 by omega),show (I.of .i64 12).val = 12 from rfl] at this; omega
   have hn:I.add (i6 i) (I.of .i64 1) = i6 (i + 1):=a4C (m:=1) (by omega)
   refine Wp.brnT (a3S hc (by omega)) (Wp.optF (d1Q _) (Wp.brn (fun _=>Wp.done ⟨_,rfl⟩) (fun _=>Wp.again ⟨i + 1,by omega,hn⟩ ?_)))
   show 12 - (I.add (i6 i) (I.of .i64 1)).val.toNat < 12 - (i6 i).val.toNat
   rw [hn,a0V (by omega),a0V (by omega)]; omega
  ·
   exact Wp.done (Wp.optF (b6B _) (Wp.brn (fun _=>⟨_,rfl⟩) (fun _=>⟨_,rfl⟩)))
 ·
  intro j hj
  refine Wp.brn (fun _=>⟨_,rfl⟩) (fun h=>Wp.brn (fun _=>⟨_,rfl⟩) (fun g=>hj _ ⟨?_,_,rfl⟩))
  have h:(I.of .i64 1).val ≤ k.val:=niff_ltb.1 h
  have g:k.val ≤ (I.of .i64 12).val:=niff_ltb.1 g
  exact ⟨h,g⟩
structure MS where
 steps:I .u64
 pm:Prm
 bk:f8S
 bl:I .u64
 pr:PrT
 v:V4
 ac:List Ac
 ms:List Msg
 bal:U
 rt:List Hs
 cl:List (I .u64)
 ba:List Pay
abbrev HM:Type:=a0W × (a0N × (a0U × ((List a0B) × ((List a0E) × ((List a0G) × ((List (I .u64)) × ((List a0D) × Unit)))))))
def MS.h (m:MS):HM:=((m.steps,(m.pm,(m.bk,(m.bl,(m.pr,((),((),((),())))))))),(lgH m.v,(esH m.bal,(m.ms,(m.ac,(m.rt,(m.cl,(m.ba,()))))))))
def MS.j (m:MS):a0W:=(m.steps,(m.pm,(m.bk,(m.bl,(m.pr,((),((),((),()))))))))
structure Sz (n:Nat) (m:MS):Prop where
 ac:m.ac.length ≤ n
 ms:m.ms.length ≤ n
 rt:m.rt.length ≤ n
 cl:m.cl.length ≤ n
 ba:m.ba.length ≤ n
 pr:m.pr.posters.length ≤ n
theorem Sz.mono {n k:Nat} {m:MS} (h:Sz n m) (hk:n ≤ k):Sz k m:=⟨Nat.le_trans h.ac hk,Nat.le_trans h.ms hk,Nat.le_trans h.rt hk,Nat.le_trans h.cl hk,Nat.le_trans h.ba hk,Nat.le_trans h.pr hk⟩
noncomputable def rtS (l:List Msg):Hs:=((a9S K0 ((l,(i6 l.length,())),())).getD ((a2J,(false,())),())).1.1
def c7H (m:MS) (to:I .u64) (n:U):Msg:=(I.conv (k:=.i64) .u64 (I.ofNat .i64 (a0I m.ms)),(to,(n,())))
noncomputable def e7E (m:MS) (to:I .u64) (n:U):MS:={ m with ms:=m.ms ++ [c7H m to n],rt:=m.rt ++ [rtS (m.ms ++ [c7H m to n])] }
theorem f3T (m:MS) (to:I .u64) (n:U) (h:Sz 1000000000 m):a5A K0 ((to,(n,())),m.h) = some ((c7H m to n,()),(e7E m to n).h):=by
 refine Wp.out (T:=fun o=>o = some ((c7H m to n,()),(e7E m to n).h)) ?_
 unfold a5A
 have hl:=h.ms
 have hr:=h.rt
 have e1:(m.ms ++ [c7H m to n]).length = m.ms.length + 1:=by simp
 refine Wp.brnT (b9V _ _ (by show m.ms.length + 1 ≤ _; omega)) ?_
 obtain ⟨y0,hy0⟩:=e7B (m.ms ++ [c7H m to n]) (by omega)
 have hrt:rtS (m.ms ++ [c7H m to n]) = y0.1.1:=by unfold rtS; rw [hy0]; rfl
 refine Wp.optF hy0 ?_
 refine Wp.brnT (b9V _ _ (by show m.rt.length + 1 ≤ _; omega)) ?_
 unfold e7E
 rw [hrt]
 rfl
theorem e5Z {k:Nat} {m:MS} (h:Sz k m) (to:I .u64) (n:U):Sz (k + 1) (e7E m to n) :=
 ⟨Nat.le_succ_of_le h.ac,by show (m.ms ++ [_]).length ≤ _; have:=h.ms; simp; omega,by show (m.rt ++ [_]).length ≤ _; have:=h.rt; simp; omega,Nat.le_succ_of_le h.cl,Nat.le_succ_of_le h.ba,Nat.le_succ_of_le h.pr⟩
end Sym

/- The machine of the reference: transactions. -/
namespace Sym
open Go
abbrev Rcp:Type:=a1C
abbrev Txn:Type:=a7T
abbrev Chg:Type:=a9E
def a2I (t:Txn):I .u64:=t.1
def e6E (t:Txn):I .u64:=t.2.1
def tTo (t:Txn):I .u64:=t.2.2.1
def c5K (t:Txn):U:=t.2.2.2.1
def e6R (t:Txn):I .u64:=t.2.2.2.2.1
def d7U (t:Txn):U:=t.2.2.2.2.2.1
def d6R (t:Txn):U:=t.2.2.2.2.2.2.1
def tEx (t:Txn):I .u64:=t.2.2.2.2.2.2.2.1
def c3P (t:Txn):List (I .u8):=t.2.2.2.2.2.2.2.2.1
def d4E (k:f8S):U:=k.2.2.2.1
def f2B (k:f8S):I .u64:=k.2.2.1
noncomputable def g2H (k:f8S) (p:Prm):I .u64:=if I.ltb p.2.2.2.2.1 (f2B k) = true then I.of .u64 0 else I.sub p.2.2.2.2.1 (f2B k)
theorem g6X (k:f8S) (p:Prm):a6U K0 ((k,(p,())),()) = some ((g2H k p,()),()):=by
 refine Wp.out (T:=fun o=>o = some ((g2H k p,()),())) ?_
 unfold a6U g2H
 refine Wp.brn (fun h=>?_) (fun h=>?_)
 ·
  have h:I.ltb p.2.2.2.2.1 (f2B k) = true:=h
  rw [if_pos h]; rfl
 ·
  have h:I.ltb p.2.2.2.2.1 (f2B k) = false:=h
  rw [if_neg (by rw [h]; decide)]; rfl
noncomputable def b9J (m:MS) (t:Txn):U × I .i64 :=
 if 4096 < (c3P t).length then (Z_U,I.of .i64 6)
 else if (a2I t).val = 0 ∨ (tTo t).val = 0 ∨ (a2I t).val = 18446744073709551615 then (Z_U,I.of .i64 2)
 else if I.neb (e6E t) (a8J m.ac (a2I t)).2.2.1 = true then (Z_U,I.of .i64 11)
 else if I.eqb (I.add (a8J m.ac (a2I t)).2.2.1 (I.of .u64 1)) (I.of .u64 0) = true then (Z_U,I.of .i64 4)
 else if I.neb (d1M (d7U t,d6R t) (d4E m.bk)).2 (I.of .i64 0) = true then (Z_U,(d1M (d7U t,d6R t) (d4E m.bk)).2)
 else if I.ltb (g2H m.bk m.pm) (e6R t) = true then (Z_U,I.of .i64 13)
 else if c9I (e6R t) (d1M (d7U t,d6R t) (d4E m.bk)).1 (c5K t) (a8J m.ac (a2I t)).2.1 = false then (Z_U,I.of .i64 10)
 else ((d1M (d7U t,d6R t) (d4E m.bk)).1,I.of .i64 0)
theorem g9U {b:Bool} (h:a5Q b = true):b = false:=by cases b <;> simp [a5Q] at h ⊢
theorem h0V {b:Bool} (h:a5Q b = false):b = true:=by cases b <;> simp [a5Q] at h ⊢
theorem a8P {b:Bool} (h:b = false):¬ b = true:=by rw [h]; decide
theorem g0W (m:MS) (t:Txn) (h:Sz 1000000000 m) (ht:(c3P t).length ≤ 1073741824):a6D K0 ((t,()),m.h) = some (((b9J m t).1,((b9J m t).2,())),m.h):=by
 refine Wp.out (T:=fun o=>o = some (((b9J m t).1,((b9J m t).2,())),m.h)) ?_
 unfold a6D
 have e:I.ltb (I.of .i64 4096) (I.ofNat .i64 (a0I (c3P t))) = decide (4096 < (c3P t).length):=a3A (n:=4096) (by omega) (by show (c3P t).length < _; omega)
 refine Wp.brn (fun q=>?_) (fun q=>?_)
 ·
  have q:I.ltb (I.of .i64 4096) (I.ofNat .i64 (a0I (c3P t))) = true:=q
  rw [e] at q
  unfold b9J
  rw [if_pos (of_decide_eq_true q)]
  rfl
 ·
  have q:I.ltb (I.of .i64 4096) (I.ofNat .i64 (a0I (c3P t))) = false:=q
  rw [e] at q
  have q:=of_decide_eq_false q
  refine Wp.jn (fun x=>(¬ ((a2I t).val = 0 ∨ (tTo t).val = 0 ∨ (a2I t).val = 18446744073709551615))∧x = ((),(m.j,(lgH m.v,(m.ac,(m.ms,(esH m.bal,(m.rt,(m.cl,(m.ba,(t,(Z_U,(Z_U,())))))))))))) ) ?_ ?_
  ·
   rintro x ⟨h1,rfl⟩
   unfold b9J
   rw [if_neg q,if_neg h1]
   have hg:=d9C m.ac (lgH m.v).2 (a2I t) (by have:=h.ac; omega)
   refine Wp.optF hg ?_
   refine Wp.brn (fun h2=>?_) (fun h2=>?_)
   ·
    have h2:I.neb (e6E t) (a8J m.ac (a2I t)).2.2.1 = true:=h2
    rw [if_pos h2]; rfl
   ·
    have h2:I.neb (e6E t) (a8J m.ac (a2I t)).2.2.1 = false:=h2
    rw [if_neg (a8P h2)]
    refine Wp.brn (fun h3=>?_) (fun h3=>?_)
    ·
     have h3:I.eqb (I.add (a8J m.ac (a2I t)).2.2.1 (I.of .u64 1)) (I.of .u64 0) = true:=h3
     rw [if_pos h3]; rfl
    ·
     have h3:I.eqb (I.add (a8J m.ac (a2I t)).2.2.1 (I.of .u64 1)) (I.of .u64 0) = false:=h3
     rw [if_neg (a8P h3)]
     refine Wp.optF (g1N t.1 t.2.1 t.2.2.1 t.2.2.2.2.1 t.2.2.2.2.2.2.2.1 t.2.2.2.2.2.2.2.2.1 (c5K t) (d7U t) (d6R t) (d4E m.bk)) ?_
     refine Wp.brn (fun h4=>?_) (fun h4=>?_)
     ·
      have h4:I.neb (d1M (d7U t,d6R t) (d4E m.bk)).2 (I.of .i64 0) = true:=h4
      rw [if_pos h4]; rfl
     ·
      have h4:I.neb (d1M (d7U t,d6R t) (d4E m.bk)).2 (I.of .i64 0) = false:=h4
      rw [if_neg (a8P h4)]
      refine Wp.optF (g6X m.bk m.pm) ?_
      refine Wp.brn (fun h5=>?_) (fun h5=>?_)
      ·
       have h5:I.ltb (g2H m.bk m.pm) (e6R t) = true:=h5
       rw [if_pos h5]; rfl
      ·
       have h5:I.ltb (g2H m.bk m.pm) (e6R t) = false:=h5
       rw [if_neg (a8P h5)]
       refine Wp.optF (g1D t.1 t.2.1 t.2.2.1 (e6R t) t.2.2.2.2.2.2.2.1 t.2.2.2.2.2.2.2.2.1 (c5K t) (d7U t) (d6R t) (d1M (d7U t,d6R t) (d4E m.bk)).1 (a8J m.ac (a2I t)).2.1) ?_
       refine Wp.brn (fun h6=>?_) (fun h6=>?_)
       ·
        have h6:c9I (e6R t) (d1M (d7U t,d6R t) (d4E m.bk)).1 (c5K t) (a8J m.ac (a2I t)).2.1 = false:=g9U h6
        rw [if_pos h6]; rfl
       ·
        have h6:c9I (e6R t) (d1M (d7U t,d6R t) (d4E m.bk)).1 (c5K t) (a8J m.ac (a2I t)).2.1 = true:=h0V h6
        rw [if_neg (by rw [h6]; decide)]; rfl
  ·
   intro j hj
   have e2:(a2I t).val = 0 ∨ (tTo t).val = 0 ∨ (a2I t).val = 18446744073709551615→b9J m t = (Z_U,I.of .i64 2):=by
    intro hh
    unfold b9J
    rw [if_neg q,if_pos hh]
   refine Wp.brn (fun h1=>?_) (fun h1=>?_)
   ·
    have h1:(a2I t).val = 0:=iff_eqb.1 h1
    rw [e2 (.inl h1)]; rfl
   ·
    have h1:(a2I t).val ≠ 0:=niff_eqb.1 h1
    refine Wp.brn (fun h2=>?_) (fun h2=>?_)
    ·
     have h2:(tTo t).val = 0:=iff_eqb.1 h2
     rw [e2 (.inr (.inl h2))]; rfl
    ·
     have h2:(tTo t).val ≠ 0:=niff_eqb.1 h2
     refine Wp.brn (fun h3=>?_) (fun h3=>?_)
     ·
      have h3:(a2I t).val = (I.of .u64 18446744073709551615).val:=iff_eqb.1 h3
      rw [e2 (.inr (.inr h3))]; rfl
     ·
      have h3:(a2I t).val ≠ (I.of .u64 18446744073709551615).val:=niff_eqb.1 h3
      have c:(I.of .u64 18446744073709551615).val = 18446744073709551615:=rfl
      exact hj _ ⟨by omega,rfl⟩
end Sym

/- The pricer's tables stay small. -/
namespace Sym
open Go
theorem f3X {s:PrT} {p:Prm} {pool:U} {r:RepT} {now:I .u64} (h:¬ (b3M s p pool r now).2.2.val = 0):(b3M s p pool r now).1 = zPr∧(b3M s p pool r now).2.1 = g3Q:=by
 unfold b3M at h ⊢
 by_cases h1:(c5P s p r now).val = 0
 ·
  rw [if_pos h1] at h ⊢
  by_cases h2:p.rpu.val * c3S s r now < U.top
  ·
   rw [if_pos h2] at h ⊢
   by_cases h3:(b4M s p r now).2.val = 0
   ·
    rw [if_pos h3] at h ⊢
    by_cases h4:(a2U (b4M s p r now).1 (a2D (b4M s p r now).1 pool)).2.val = 0
    ·
     rw [if_pos h4] at h ⊢
     by_cases h5:(c6F (c1G s (a2U (b4M s p r now).1 (a2D (b4M s p r now).1 pool)).1) p pool (b8S s p r now (a2D (b4M s p r now).1 pool))).2.val = 0
     ·
      rw [if_pos h5] at h
      exact absurd rfl h
     ·
      rw [if_neg h5]; exact ⟨rfl,rfl⟩
    ·
     rw [if_neg h4]; exact ⟨rfl,rfl⟩
   ·
    rw [if_neg h3]; exact ⟨rfl,rfl⟩
  ·
   rw [if_neg h2]; exact ⟨rfl,rfl⟩
 ·
  rw [if_neg h1]; exact ⟨rfl,rfl⟩
theorem e9T (s:PrT) (p:Prm) (pool:U) (r:RepT) (now:I .u64):(b3M s p pool r now).1.posters.length ≤ 64∧(b3M s p pool r now).2.1.2.2.1.length ≤ 64:=by
 by_cases h:(b3M s p pool r now).2.2.val = 0
 ·
  have hR:=f7Z h
  refine ⟨hR.tab2.1,?_⟩
  rw [hR.out]
  exact Nat.le_trans (d4O _ _) hR.tab1.1
 ·
  rw [(f3X h).1,(f3X h).2]
  exact ⟨Nat.zero_le _,Nat.zero_le _⟩
theorem f7V (l:List Post) (a:I .u64):(c6Z l a).1.length ≤ l.length + 1:=by
 unfold c6Z
 split
 ·
  split
  ·
   exact Nat.zero_le _
  ·
   split
   ·
    exact Nat.zero_le _
   ·
    exact Nat.le_of_eq (d8J l a)
 ·
  exact Nat.zero_le _
theorem d6Y (s:PrT) (a:I .u64):(a5Z s a).1.posters.length ≤ s.posters.length + 1:=by
 unfold a5Z
 split
 ·
  split
  ·
   exact f7V _ _
  ·
   exact Nat.zero_le _
 ·
  exact Nat.zero_le _
theorem c9N (s:PrT) (n:I .u64):(a4F s n).1.posters.length ≤ s.posters.length:=by
 unfold a4F
 split
 ·
  split
  ·
   exact Nat.le_refl _
  ·
   exact Nat.zero_le _
 ·
  exact Nat.zero_le _
end Sym

/- The machine of the reference: what a transaction does. -/
namespace Sym
open Go
noncomputable abbrev h1A:Chg:=a1S
noncomputable section
def d3N (e:I .i64):Rcp:=(I.of .i64 0,(e,(h1A,(Z_U,(Z_U,(I.of .u64 0,(Z_U,(Z_U,([],())))))))))
def txR (c:Chg) (price value:U) (l:List Msg):Rcp:=(I.of .i64 0,(I.of .i64 0,(c,(price,(value,(I.of .u64 0,(Z_U,(Z_U,(l,())))))))))
def c0D (c:Chg):I .u64:=c.1
def g4D (c:Chg):I .u64:=c.2.2.1
def h0E (c:Chg):I .u64:=c.2.2.2.1
def cOut (c:Chg):Bool:=c.2.2.2.2.1
def b5C (c:Chg):U:=c.2.2.2.2.2.2.1
def a9L (c:Chg):U:=c.2.2.2.2.2.2.2.1
def c9P (c:Chg):U:=c.2.2.2.2.2.2.2.2.1
def c1A (c:Chg):U:=c.2.2.2.2.2.2.2.2.2.1
def a4M (m:MS) (t:Txn):Chg × I .i64:=e2K (c3P t) (e6R t) (tEx t) (d7U t) (d6R t) (d4E m.bk) m.pr.1 m.pm
def f8B (a b:I .u64):I .u64:=((a8R K0 ((a,(b,())),())).getD ((I.of .u64 0,()),())).1.1
theorem f5C (a b:I .u64):a8R K0 ((a,(b,())),()) = some ((f8B a b,()),()):=(f1O a b).val ((I.of .u64 0,()),())
def d0B (m:MS) (a:I .u64) (c:Chg):LgR:=c5Y m.v m.ac a 2 (b5C c)
def d0F (m:MS) (a:I .u64) (c:Chg):LgR:=c5Y (d0B m a c).2.1 (d0B m a c).2.2 a 1 (a9L c)
def d0I (m:MS) (a:I .u64) (c:Chg):LgR:=c5Y (d0F m a c).2.1 (d0F m a c).2.2 a 0 (c9P c)
def b9X (m:MS) (a:I .u64) (c:Chg):LgR:=c5Y (d0I m a c).2.1 (d0I m a c).2.2 a 3 (c1A c)
def c2L (m:MS) (a:I .u64) (c:Chg):List Ac:=(e9D (b9X m a c).2.2 a).2
theorem b6S (v:V4) (l:List Ac) (a:I .u64) (k:Nat) (n:U):(c5Y v l a k n).2.2.length ≤ l.length + 1:=by
 unfold c5Y
 split
 ·
  exact Nat.le_succ _
 ·
  split <;> exact c1K _ _ _
theorem e3V (l:List Ac) (a:I .u64):(e9D l a).2.length ≤ l.length + 1:=by
 unfold e9D
 split
 ·
  exact Nat.le_succ _
 ·
  split
  ·
   exact Nat.le_succ _
  ·
   exact d8I _ _
def e7W (m:MS) (t:Txn) (c:Chg) (q:PrT):MS :=
 { m with bk:=(m.bk.1,(m.bk.2.1,(I.add (f2B m.bk) (h0E c),m.bk.2.2.2))),bl:=f8B m.bl (g4D c),pr:=q,v:=(b9X m (a2I t) c).2.1,ac:=c2L m (a2I t) c }
def g3T (m:MS) (t:Txn) (c:Chg) (price:U):Rcp × MS :=
 if I.neb (tTo t) (I.of .u64 18446744073709551615) = true then (txR c price (c5K t) [],{ m with ac:=(e9C m.ac (a2I t) (tTo t) (c5K t)).2 })
 else if (c5K t).val = 0 then (txR c price (c5K t) [],m)
 else (txR c price (c5K t) [c7H m (a2I t) (c5K t)],e7E { m with ac:=(e1P m.ac (a2I t) (c5K t)).2 } (a2I t) (c5K t))
def txS (m:MS) (t:Txn):Rcp × MS :=
 if I.neb (b9J m t).2 (I.of .i64 0) = true then (d3N (b9J m t).2,m)
 else if I.neb (a4M m t).2 (I.of .i64 0) = true then (d3N (a4M m t).2,m)
 else if I.neb (a4F m.pr (c0D (a4M m t).1)).2 (I.of .i64 0) = true then (d3N (I.of .i64 4),m)
 else if cOut (a4M m t).1 = true then (txR (a4M m t).1 (b9J m t).1 Z_U [],e7W m t (a4M m t).1 (a4F m.pr (c0D (a4M m t).1)).1)
 else if I.eqb (tTo t) (a2I t) = true then (txR (a4M m t).1 (b9J m t).1 Z_U [],e7W m t (a4M m t).1 (a4F m.pr (c0D (a4M m t).1)).1)
 else g3T (e7W m t (a4M m t).1 (a4F m.pr (c0D (a4M m t).1)).1) t (a4M m t).1 (b9J m t).1
def g5N (r:Rcp):((I .i64) × ((I .i64) × (a9E × (U × (U × ((I .u64) × (U × (U × (Unit × Unit))))))))):=(r.1,(r.2.1,(r.2.2.1,(r.2.2.2.1,(r.2.2.2.2.1,(r.2.2.2.2.2.1,(r.2.2.2.2.2.2.1,(r.2.2.2.2.2.2.2.1,((),())))))))))
theorem e8N {m:MS} {t:Txn} (h:I.neb (b9J m t).2 (I.of .i64 0) = false):(c3P t).length ≤ 4096:=by
 by_cases q:4096 < (c3P t).length
 ·
  unfold b9J at h
  rw [if_pos q] at h
  exact absurd h (by decide)
 ·
  omega
theorem g8M (m:MS) (t:Txn) (h:Sz 100000000 m) (ht:(c3P t).length ≤ 1073741824):a7O K0 ((t,()),m.h) = some (((txS m t).1,()),(txS m t).2.h):=by
 refine Wp.out (T:=fun o=>o = some (((txS m t).1,()),(txS m t).2.h)) ?_
 unfold a7O txS
 have hac:=h.ac
 refine Wp.optF (g0W m t (h.mono (by decide)) ht) ?_
 refine Wp.brn (fun h1=>?_) (fun h1=>?_)
 ·
  have h1:I.neb (b9J m t).2 (I.of .i64 0) = true:=h1
  rw [if_pos h1]; rfl
 ·
  have h1:I.neb (b9J m t).2 (I.of .i64 0) = false:=h1
  rw [if_neg (a8P h1)]
  have hd:=e8N h1
  have hcomp:=e3E t.1 t.2.1 t.2.2.1 (e6R t) (tEx t) (c3P t) (c5K t) (d7U t) (d6R t) (d4E m.bk) m.pr.1 m.pm (by omega)
  refine Wp.optF hcomp ?_
  refine Wp.brn (fun h2=>?_) (fun h2=>?_)
  ·
   have h2:I.neb (a4M m t).2 (I.of .i64 0) = true:=h2
   rw [if_pos h2]; rfl
  ·
   have h2:I.neb (a4M m t).2 (I.of .i64 0) = false:=h2
   rw [if_neg (a8P h2)]
   refine Wp.optF (d9A m.pr (c0D (a4M m t).1) (by have:=h.pr; omega)) ?_
   refine Wp.brn (fun h3=>?_) (fun h3=>?_)
   ·
    have h3:I.neb (a4F m.pr (c0D (a4M m t).1)).2 (I.of .i64 0) = true:=h3
    rw [if_pos h3]; rfl
   ·
    have h3:I.neb (a4F m.pr (c0D (a4M m t).1)).2 (I.of .i64 0) = false:=h3
    rw [if_neg (a8P h3)]
    have l1:(d0B m (a2I t) (a4M m t).1).2.2.length ≤ m.ac.length + 1:=b6S _ _ _ _ _
    have l2:(d0F m (a2I t) (a4M m t).1).2.2.length ≤ (d0B m (a2I t) (a4M m t).1).2.2.length + 1:=b6S _ _ _ _ _
    have l3:(d0I m (a2I t) (a4M m t).1).2.2.length ≤ (d0F m (a2I t) (a4M m t).1).2.2.length + 1:=b6S _ _ _ _ _
    have l4:(b9X m (a2I t) (a4M m t).1).2.2.length ≤ (d0I m (a2I t) (a4M m t).1).2.2.length + 1:=b6S _ _ _ _ _
    have l5:(c2L m (a2I t) (a4M m t).1).length ≤ (b9X m (a2I t) (a4M m t).1).2.2.length + 1:=e3V _ _
    have p1:=d8P m.v m.ac (a2I t) 2 (by omega) (b5C (a4M m t).1) (by omega)
    have p2:=d8P (d0B m (a2I t) (a4M m t).1).2.1 (d0B m (a2I t) (a4M m t).1).2.2 (a2I t) 1 (by omega) (a9L (a4M m t).1) (by omega)
    have p3:=d8P (d0F m (a2I t) (a4M m t).1).2.1 (d0F m (a2I t) (a4M m t).1).2.2 (a2I t) 0 (by omega) (c9P (a4M m t).1) (by omega)
    have p4:=d8P (d0I m (a2I t) (a4M m t).1).2.1 (d0I m (a2I t) (a4M m t).1).2.2 (a2I t) 3 (by omega) (c1A (a4M m t).1) (by omega)
    have p5:=g6F (b9X m (a2I t) (a4M m t).1).2.1 (b9X m (a2I t) (a4M m t).1).2.2 (a2I t) (by omega)
    refine Wp.optF p1 (Wp.optF p2 (Wp.optF p3 (Wp.optF p4 (Wp.optF p5 (Wp.optF (f5C m.bl (g4D (a4M m t).1)) ?_)))))
    refine Wp.jn (fun x=>(cOut (a4M m t).1 = false∧I.eqb (tTo t) (a2I t) = false)∧x = ((),((e7W m t (a4M m t).1 (a4F m.pr (c0D (a4M m t).1)).1).j,(lgH (b9X m (a2I t) (a4M m t).1).2.1,(c2L m (a2I t) (a4M m t).1,(m.ms,(esH m.bal,(m.rt,(m.cl,(m.ba,(t,(g5N (d3N (I.of .i64 0)),([],(g5N (txR (a4M m t).1 (b9J m t).1 Z_U []),([],())))))))))))))) ) ?_ ?_
    ·
     rintro x ⟨⟨g1,g2⟩,rfl⟩
     rw [if_neg (a8P g1),if_neg (a8P g2)]
     unfold g3T
     refine Wp.brn (fun h4=>?_) (fun h4=>?_)
     ·
      have h4:I.neb (tTo t) (I.of .u64 18446744073709551615) = true:=h4
      rw [if_pos h4]
      have p6:=g6O (b9X m (a2I t) (a4M m t).1).2.1 (c2L m (a2I t) (a4M m t).1) (a2I t) (tTo t) (c5K t) (by omega)
      exact Wp.optF p6 rfl
     ·
      have h4:I.neb (tTo t) (I.of .u64 18446744073709551615) = false:=h4
      rw [if_neg (a8P h4)]
      refine Wp.optF (c2G (c5K t)) ?_
      refine Wp.brn (fun h5=>?_) (fun h5=>?_)
      ·
       have h5:decide ((c5K t).val = 0) = false:=g9U h5
       rw [if_neg (of_decide_eq_false h5)]
       have p6:=g4K (b9X m (a2I t) (a4M m t).1).2.1 (c2L m (a2I t) (a4M m t).1) (a2I t) (c5K t) (by omega)
       refine Wp.optF p6 ?_
       have l6:(e1P (c2L m (a2I t) (a4M m t).1) (a2I t) (c5K t)).2.length ≤ (c2L m (a2I t) (a4M m t).1).length + 1:=by
        unfold e1P
        split
        ·
         exact Nat.le_succ _
        ·
         exact c1K _ _ _
       have p7:=f3T { e7W m t (a4M m t).1 (a4F m.pr (c0D (a4M m t).1)).1 with ac:=(e1P (c2L m (a2I t) (a4M m t).1) (a2I t) (c5K t)).2 } (a2I t) (c5K t) ⟨by show (e1P _ _ _).2.length ≤ _; omega,Nat.le_trans h.ms (by decide),Nat.le_trans h.rt (by decide),Nat.le_trans h.cl (by decide),Nat.le_trans h.ba (by decide),by have:=c9N m.pr (c0D (a4M m t).1); have:=h.pr; show (a4F m.pr (c0D (a4M m t).1)).1.posters.length ≤ _; omega⟩
       refine Wp.optF p7 (Wp.brnT (b9V _ _ (by show 0 + 1 ≤ _; omega)) rfl)
      ·
       have h5:decide ((c5K t).val = 0) = true:=h0V h5
       rw [if_pos (of_decide_eq_true h5)]
       rfl
    ·
     intro j hj
     refine Wp.brn (fun h4=>?_) (fun h4=>?_)
     ·
      have h4:cOut (a4M m t).1 = true:=h4
      rw [if_pos h4]; rfl
     ·
      have h4:cOut (a4M m t).1 = false:=h4
      refine Wp.brn (fun h5=>?_) (fun h5=>?_)
      ·
       have h5:I.eqb (tTo t) (a2I t) = true:=h5
       rw [if_neg (a8P h4),if_pos h5]; rfl
      ·
       have h5:I.eqb (tTo t) (a2I t) = false:=h5
       exact hj _ ⟨⟨h4,h5⟩,rfl⟩
end
end Sym

/- The machine of the reference: reports. -/
namespace Sym
open Go
noncomputable def b0G (s:MS × List Msg) (p:Pay):MS × List Msg:=(e7E { s.1 with v:=(e3G s.1.v 2 p.2.1).2 } p.1 p.2.1,s.2 ++ [c7H s.1 p.1 p.2.1])
noncomputable def c3N (m:MS) (l:List Pay):MS × List Msg:=l.foldl b0G (m,[])
theorem d5P (m:MS) (l:List Pay) (i:Nat) (h:i < l.length):c3N m (l.take (i + 1)) = b0G (c3N m (l.take i)) (rdL d4C l i):=by
 unfold c3N
 rw [List.take_add_one,List.getElem?_eq_getElem h,a3X _ _ _ h,List.foldl_append]
 rfl
theorem e7I {k:Nat} {s:MS × List Msg} (h:Sz k s.1) (p:Pay):Sz (k + 1) (b0G s p).1 :=
 e5Z (m:={ s.1 with v:=(e3G s.1.v 2 p.2.1).2 }) ⟨h.ac,h.ms,h.rt,h.cl,h.ba,h.pr⟩ _ _
theorem d7W {k:Nat} {m:MS} (h:Sz k m) (l:List Pay):∀ i,i ≤ l.length→Sz (k + i) (c3N m (l.take i)).1∧(c3N m (l.take i)).2.length = i
 | 0,_=>⟨h,rfl⟩
 | i + 1,hi=>by
  obtain ⟨h1,h2⟩:=d7W h l i (by omega)
  rw [d5P m l i (by omega)]
  refine ⟨e7I h1 _,?_⟩
  show (_ ++ [_]).length = _
  rw [List.length_append,h2]
  rfl
noncomputable def g7B (o:f5L) (paid:U) (l:List Msg):Rcp:=(I.of .i64 0,(I.of .i64 0,(h1A,(Z_U,(Z_U,(o.1,(o.2.1,(paid,(l,())))))))))
noncomputable def c5N (m:MS) (r:RepT):PrT × f5L × I .i64:=b3M m.pr m.pm (d5N m.v 2) r m.bk.2.1
noncomputable def b9W (m:MS) (r:RepT):List Pay:=(c5N m r).2.1.2.2.1
noncomputable def d3X (m:MS) (r:RepT):MS × List Msg:=c3N { m with pr:=(c5N m r).1 } (b9W m r)
noncomputable def d8T (m:MS) (r:RepT):Rcp × MS :=
 if I.neb (c5N m r).2.2 (I.of .i64 0) = true then (d3N (c5N m r).2.2,m)
 else (g7B (c5N m r).2.1 (c3R (a9I ((b9W m r).map amt))).1 (d3X m r).2,(d3X m r).1)
theorem g4U (m:MS) (r:RepT) (h:Sz 100000000 m):a5V K0 ((r,()),m.h) = some (((d8T m r).1,()),(d8T m r).2.h):=by
 refine Wp.out (T:=fun o=>o = some (((d8T m r).1,()),(d8T m r).2.h)) ?_
 unfold a5V d8T
 refine Wp.optF (f7C m.ac m.v 2 (by omega)) ?_
 refine Wp.optF (e8H m.pr m.pm (d5N m.v 2) r m.bk.2.1 (by have:=h.pr; omega)) ?_
 refine Wp.brn (fun h1=>?_) (fun h1=>?_)
 ·
  have h1:I.neb (c5N m r).2.2 (I.of .i64 0) = true:=h1
  rw [if_pos h1]; rfl
 ·
  have h1:I.neb (c5N m r).2.2 (I.of .i64 0) = false:=h1
  rw [if_neg (a8P h1)]
  have hlen:=e9T m.pr m.pm (d5N m.v 2) r m.bk.2.1
  have hpl:(b9W m r).length ≤ 64:=hlen.2
  refine Wp.optF (f3V (l:=b9W m r) (by omega)) ?_
  have hsz0:Sz 100000000 { m with pr:=(c5N m r).1 }:=⟨h.ac,h.ms,h.rt,h.cl,h.ba,Nat.le_trans hlen.1 (by decide)⟩
  refine Wp.iter (fun x=>∃ i,i ≤ (b9W m r).length∧x = ((i6 i,()),((c3N { m with pr:=(c5N m r).1 } ((b9W m r).take i)).1.j,(lgH (c3N { m with pr:=(c5N m r).1 } ((b9W m r).take i)).1.v,((c3N { m with pr:=(c5N m r).1 } ((b9W m r).take i)).1.ac,((c3N { m with pr:=(c5N m r).1 } ((b9W m r).take i)).1.ms,(esH (c3N { m with pr:=(c5N m r).1 } ((b9W m r).take i)).1.bal,((c3N { m with pr:=(c5N m r).1 } ((b9W m r).take i)).1.rt,((c3N { m with pr:=(c5N m r).1 } ((b9W m r).take i)).1.cl,((c3N { m with pr:=(c5N m r).1 } ((b9W m r).take i)).1.ba,(g5N (d3N (I.of .i64 0)),([],((c5N m r).2.1,(g5N (g7B (c5N m r).2.1 (c3R (a9I ((b9W m r).map amt))).1 []),((c3N { m with pr:=(c5N m r).1 } ((b9W m r).take i)).2,()))))))))))))))) (fun x=>(b9W m r).length - x.1.1.val.toNat) ?_ ⟨0,by omega,rfl⟩ (by rw [a7S]; show (b9W m r).length - 0 < _; omega)
  rintro x ⟨i,hi,rfl⟩
  obtain ⟨hsz,hml⟩:=d7W hsz0 (b9W m r) i hi
  have hnx:=fun hc=>d5P { m with pr:=(c5N m r).1 } (b9W m r) i hc
  have hfin:i = (b9W m r).length→c3N { m with pr:=(c5N m r).1 } ((b9W m r).take i) = d3X m r:=by
   intro e
   rw [e,List.take_length]
   rfl
  generalize c3N { m with pr:=(c5N m r).1 } ((b9W m r).take i) = s at *
  obtain ⟨m',ml⟩:=s
  have e:I.ltb (i6 i) (I.ofNat .i64 (a0I (b9W m r))) = decide (i < (b9W m r).length):=a3A (by omega) (by show (b9W m r).length < _; omega)
  refine Wp.brn (fun hc=>?_) (fun hc=>?_)
  ·
   have hc:I.ltb (i6 i) (I.ofNat .i64 (a0I (b9W m r))) = true:=hc
   rw [e] at hc
   have hc:=of_decide_eq_true hc
   have hin:inB (i6 i) (a0I (b9W m r)) = true:=a3S hc (by omega)
   refine Wp.brnT hin ?_
   have hrd:rdL d4C (b9W m r) (I.nat (i6 i)) = rdL d4C (b9W m r) i:=by rw [a3N (by omega)]
   have w1:=g5S m'.v m'.ac 2 (by omega) (rdL d4C (b9W m r) (I.nat (i6 i))).2.1
   refine Wp.optF w1 (Wp.brnT hin (Wp.brnT hin ?_))
   have w2:=f3T { m' with v:=(e3G m'.v 2 (rdL d4C (b9W m r) (I.nat (i6 i))).2.1).2 } (rdL d4C (b9W m r) (I.nat (i6 i))).1 (rdL d4C (b9W m r) (I.nat (i6 i))).2.1 ((show Sz (100000000 + i) { m' with v:=(e3G m'.v 2 (rdL d4C (b9W m r) (I.nat (i6 i))).2.1).2 } from ⟨hsz.ac,hsz.ms,hsz.rt,hsz.cl,hsz.ba,hsz.pr⟩).mono (by omega))
   refine Wp.optF w2 (Wp.brnT (b9V _ _ (by show ml.length + 1 ≤ _; have:ml.length = i:=hml; omega)) ?_)
   have hn:I.add (i6 i) (I.of .i64 1) = i6 (i + 1):=a4C (m:=1) (by omega)
   refine Wp.again ⟨i + 1,by omega,?_⟩ ?_
   ·
    rw [hnx hc]
    show ((I.add (i6 i) (I.of .i64 1),()),_) = _
    rw [hn,hrd]
    rfl
   ·
    show (b9W m r).length - (I.add (i6 i) (I.of .i64 1)).val.toNat < (b9W m r).length - (i6 i).val.toNat
    rw [hn,a0V (by omega),a0V (by omega)]; omega
  ·
   have hc:I.ltb (i6 i) (I.ofNat .i64 (a0I (b9W m r))) = false:=hc
   rw [e] at hc
   have hc:=of_decide_eq_false hc
   refine Wp.done ?_
   rw [← hfin (by omega)]
   rfl
end Sym

/- The machine of the reference: the other steps; a step. -/
namespace Sym
open Go
abbrev b2B:Type:=a1D
def a2N (s:b2B):I .i64:=s.1
def sTx (s:b2B):Txn:=s.2.1
def f5D (s:b2B):RepT:=s.2.2.1
def e1N (s:b2B):I .u64:=s.2.2.2.1
def f9N (s:b2B):I .i64:=s.2.2.2.2.1
def c1E (s:b2B):U:=s.2.2.2.2.2.1
def c6P (s:b2B):I .u64:=s.2.2.2.2.2.2.1
def d3H (s:b2B):Clm:=s.2.2.2.2.2.2.2.1
noncomputable def f9I (p:Prm) (k:I .i64) (n:U):Prm × I .i64 :=
 (((a7L K0 ((p,(k,(n,()))),())).getD ((a5R,(I.of .i64 0,())),())).1.1,((a7L K0 ((p,(k,(n,()))),())).getD ((a5R,(I.of .i64 0,())),())).1.2.1)
theorem g3X (p:Prm) (k:I .i64) (n:U):a7L K0 ((p,(k,(n,()))),()) = some (((f9I p k n).1,((f9I p k n).2,())),()):=(g1M p k n).val ((a5R,(I.of .i64 0,())),())
def f4B (b:I .u64) (p:Prm) (sec:I .u64):I .u64:=I.of .u64 ((b.nat - p.1.nat * sec.nat:Nat):Int)
theorem g7E (b:I .u64) (p:Prm) (sec:I .u64):b1O K0 ((b,(p.1,(sec,()))),()) = some ((f4B b p sec,()),()):=by
 refine Wp.out (T:=fun o=>o = some ((f4B b p sec,()),())) ?_
 unfold b1O
 exact Wp.optF (f3I b p.1 sec) rfl
noncomputable def e1H (m:MS) (s:b2B):I .i64 × MS :=
 if I.eqb (a2N s) (I.of .i64 3) = true then
  (if I.eqb (c4K m.bk (e1N s) (f4B m.bl m.pm (e1N s)) m.pm).2 (I.of .i64 0) = true then ((c4K m.bk (e1N s) (f4B m.bl m.pm (e1N s)) m.pm).2,{ m with bk:=(c4K m.bk (e1N s) (f4B m.bl m.pm (e1N s)) m.pm).1,bl:=f4B m.bl m.pm (e1N s) })
   else ((c4K m.bk (e1N s) (f4B m.bl m.pm (e1N s)) m.pm).2,m))
 else if I.eqb (a2N s) (I.of .i64 4) = true then
  (if I.eqb (f9I m.pm (f9N s) (c1E s)).2 (I.of .i64 0) = true then ((f9I m.pm (f9N s) (c1E s)).2,{ m with pm:=(f9I m.pm (f9N s) (c1E s)).1 }) else ((f9I m.pm (f9N s) (c1E s)).2,m))
 else if I.eqb (a2N s) (I.of .i64 5) = true then
  (if I.eqb (a5Z m.pr (c6P s)).2 (I.of .i64 0) = true then ((a5Z m.pr (c6P s)).2,{ m with pr:=(a5Z m.pr (c6P s)).1 }) else ((a5Z m.pr (c6P s)).2,m))
 else if I.eqb (a2N s) (I.of .i64 6) = true then
  (if (c6P s).val = 0 ∨ (c6P s).val = 18446744073709551615 ∨ (c1E s).val = 0 then (I.of .i64 2,m)
   else if m.bal.val + (c1E s).val < U.top then ((c6M m.v m.ac (c6P s) (c1E s)).1,{ m with bal:=(f9A m.bal (c1E s)).2,v:=(c6M m.v m.ac (c6P s) (c1E s)).2.1,ac:=(c6M m.v m.ac (c6P s) (c1E s)).2.2 })
   else (I.of .i64 4,m))
 else ((c4C m.bal m.rt m.cl m.ba (d3H s)).1,{ m with bal:=(c4C m.bal m.rt m.cl m.ba (d3H s)).2.1,cl:=(c4C m.bal m.rt m.cl m.ba (d3H s)).2.2.1,ba:=(c4C m.bal m.rt m.cl m.ba (d3H s)).2.2.2 })
theorem g7F (m:MS) (s:b2B) (h:Sz 100000000 m) (hp:(d3Y (d3H s)).length ≤ 1073741824):a6C K0 ((s,()),m.h) = some (((e1H m s).1,()),(e1H m s).2.h):=by
 refine Wp.out (T:=fun o=>o = some (((e1H m s).1,()),(e1H m s).2.h)) ?_
 unfold a6C e1H
 have hac:=h.ac
 refine Wp.brn (fun k3=>?_) (fun k3=>?_)
 ·
  have k3:I.eqb (a2N s) (I.of .i64 3) = true:=k3
  rw [if_pos k3]
  refine Wp.optF (g7E m.bl m.pm (e1N s)) (Wp.optF (f4T m.bk (e1N s) (f4B m.bl m.pm (e1N s)) m.pm) ?_)
  refine Wp.brn (fun q=>?_) (fun q=>?_)
  ·
   have q:I.eqb (c4K m.bk (e1N s) (f4B m.bl m.pm (e1N s)) m.pm).2 (I.of .i64 0) = true:=q
   rw [if_pos q]; rfl
  ·
   have q:I.eqb (c4K m.bk (e1N s) (f4B m.bl m.pm (e1N s)) m.pm).2 (I.of .i64 0) = false:=q
   rw [if_neg (a8P q)]; rfl
 have k3:I.eqb (a2N s) (I.of .i64 3) = false:=k3
 rw [if_neg (a8P k3)]
 refine Wp.brn (fun k4=>?_) (fun k4=>?_)
 ·
  have k4:I.eqb (a2N s) (I.of .i64 4) = true:=k4
  rw [if_pos k4]
  refine Wp.optF (g3X m.pm (f9N s) (c1E s)) ?_
  refine Wp.brn (fun q=>?_) (fun q=>?_)
  ·
   have q:I.eqb (f9I m.pm (f9N s) (c1E s)).2 (I.of .i64 0) = true:=q
   rw [if_pos q]; rfl
  ·
   have q:I.eqb (f9I m.pm (f9N s) (c1E s)).2 (I.of .i64 0) = false:=q
   rw [if_neg (a8P q)]; rfl
 have k4:I.eqb (a2N s) (I.of .i64 4) = false:=k4
 rw [if_neg (a8P k4)]
 refine Wp.brn (fun k5=>?_) (fun k5=>?_)
 ·
  have k5:I.eqb (a2N s) (I.of .i64 5) = true:=k5
  rw [if_pos k5]
  refine Wp.optF (d7L m.pr (c6P s) (by have:=h.pr; omega)) ?_
  refine Wp.brn (fun q=>?_) (fun q=>?_)
  ·
   have q:I.eqb (a5Z m.pr (c6P s)).2 (I.of .i64 0) = true:=q
   rw [if_pos q]; rfl
  ·
   have q:I.eqb (a5Z m.pr (c6P s)).2 (I.of .i64 0) = false:=q
   rw [if_neg (a8P q)]; rfl
 have k5:I.eqb (a2N s) (I.of .i64 5) = false:=k5
 rw [if_neg (a8P k5)]
 refine Wp.brn (fun k6=>?_) (fun k6=>?_)
 ·
  have k6:I.eqb (a2N s) (I.of .i64 6) = true:=k6
  rw [if_pos k6]
  refine Wp.jn (fun x=>(¬ ((c6P s).val = 0 ∨ (c6P s).val = 18446744073709551615 ∨ (c1E s).val = 0))∧x = ((),(m.j,(lgH m.v,(m.ac,(m.ms,(esH m.bal,(m.rt,(m.cl,(m.ba,(s,()))))))))))) ?_ ?_
  ·
   rintro x ⟨h1,rfl⟩
   rw [if_neg h1]
   obtain ⟨r1,e1,B1⟩:=a1E m.bal
   obtain ⟨r2,e2,B2⟩:=a1E (c1E s)
   obtain ⟨r3,e3,B3⟩:=b2F B1 B2 (e7T B1) (e7T B2)
   have e4:=d9Z B3 (f6R B3 (by have:=U.lt m.bal; have:=U.lt (c1E s); omega))
   refine Wp.optF e1 (Wp.optF e2 (Wp.optF e3 (Wp.optF e4 ?_)))
   by_cases hc:m.bal.val + (c1E s).val < U.top
   ·
    rw [if_pos hc]
    refine Wp.brnF (by rw [decide_eq_true hc]; rfl) ?_
    exact Wp.optF (g4H m.bal (c1E s) m.rt m.cl m.ba) (Wp.optF (g0O m.v m.ac (c6P s) (c1E s) (by omega)) rfl)
   ·
    rw [if_neg hc]
    exact Wp.brnT (by rw [decide_eq_false hc]; rfl) rfl
  ·
   intro j hj
   refine Wp.brn (fun h1=>?_) (fun h1=>?_)
   ·
    have h1:(c6P s).val = 0:=iff_eqb.1 h1
    rw [if_pos (.inl h1)]; rfl
   ·
    have h1:(c6P s).val ≠ 0:=niff_eqb.1 h1
    refine Wp.brn (fun h2=>?_) (fun h2=>?_)
    ·
     have h2:(c6P s).val = (I.of .u64 18446744073709551615).val:=iff_eqb.1 h2
     rw [if_pos (.inr (.inl h2))]; rfl
    ·
     have h2:(c6P s).val ≠ (I.of .u64 18446744073709551615).val:=niff_eqb.1 h2
     have c:(I.of .u64 18446744073709551615).val = 18446744073709551615:=rfl
     refine Wp.optF (c2G (c1E s)) ?_
     refine Wp.brn (fun h3=>?_) (fun h3=>?_)
     ·
      have h3:=of_decide_eq_true h3
      rw [if_pos (.inr (.inr h3))]; rfl
     ·
      have h3:=of_decide_eq_false h3
      exact hj _ ⟨by omega,rfl⟩
 have k6:I.eqb (a2N s) (I.of .i64 6) = false:=k6
 rw [if_neg (a8P k6)]
 exact Wp.optF (f5S m.bal m.rt m.cl m.ba (d3H s) (by have:=h.rt; omega) (by have:=h.cl; omega) (by have:=h.ba; omega) hp) rfl
noncomputable def c1F (m:MS):MS:=if I.neb (I.add m.steps (I.of .u64 1)) (I.of .u64 0) = true then { m with steps:=I.add m.steps (I.of .u64 1) } else m
def c7J (k:I .i64) (r:Rcp):Rcp:=(k,r.2)
noncomputable def d0Q (m:MS) (s:b2B):Rcp × MS :=
 if ¬ (1 ≤ (a2N s).val∧(a2N s).val ≤ 7) then (d3N (I.of .i64 17),c1F m)
 else if I.eqb (a2N s) (I.of .i64 1) = true then (c7J (a2N s) (txS (c1F m) (sTx s)).1,(txS (c1F m) (sTx s)).2)
 else if I.eqb (a2N s) (I.of .i64 2) = true then (c7J (a2N s) (d8T (c1F m) (f5D s)).1,(d8T (c1F m) (f5D s)).2)
 else (c7J (a2N s) (d3N (e1H (c1F m) s).1),(e1H (c1F m) s).2)
theorem f3M {n:Nat} {m:MS} (h:Sz n m):Sz n (c1F m):=by
 unfold c1F
 split
 ·
  exact ⟨h.ac,h.ms,h.rt,h.cl,h.ba,h.pr⟩
 ·
  exact h
theorem f7Y (m:MS) (s:b2B) (h:Sz 100000000 m) (hd:(c3P (sTx s)).length ≤ 1073741824) (hp:(d3Y (d3H s)).length ≤ 1073741824):a3Y K0 ((s,()),m.h) = some (((d0Q m s).1,()),(d0Q m s).2.h):=by
 refine Wp.out (T:=fun o=>o = some (((d0Q m s).1,()),(d0Q m s).2.h)) ?_
 unfold a3Y
 refine Wp.jn (fun x=>x = ((),((c1F m).j,(lgH (c1F m).v,((c1F m).ac,((c1F m).ms,(esH (c1F m).bal,((c1F m).rt,((c1F m).cl,((c1F m).ba,(s,(g5N (d3N (I.of .i64 0)),([],())))))))))))) ) ?_ ?_
 ·
  rintro x rfl
  unfold d0Q
  have hz:=f3M h
  have hk:a8I K0 ((a2N s,()),()) = some ((decide (1 ≤ (a2N s).val∧(a2N s).val ≤ 7),()),()):=by
   refine Wp.out (T:=fun o=>o = some ((decide (1 ≤ (a2N s).val∧(a2N s).val ≤ 7),()),())) ?_
   unfold a8I
   refine Wp.brn (fun q=>?_) (fun q=>?_)
   ·
    have q:(I.of .i64 1).val ≤ (a2N s).val:=iff_leb.1 q
    have q:1 ≤ (a2N s).val:=q
    show some ((I.leb (a2N s) (I.of .i64 7),()),()) = _
    unfold I.leb
    by_cases g:(a2N s).val ≤ 7
    ·
     rw [decide_eq_true (show (a2N s).val ≤ (I.of .i64 7).val from g),decide_eq_true ⟨q,g⟩]
    ·
     rw [decide_eq_false (show ¬ (a2N s).val ≤ (I.of .i64 7).val from g),decide_eq_false (fun hh=>g hh.2)]
   ·
    have q:(a2N s).val < (I.of .i64 1).val:=niff_leb.1 q
    have q:(a2N s).val < 1:=q
    rw [decide_eq_false (by omega)]
    rfl
  refine Wp.optF hk ?_
  by_cases g:1 ≤ (a2N s).val∧(a2N s).val ≤ 7
  ·
   rw [if_neg (by simp [g])]
   refine Wp.brnF (by rw [decide_eq_true g]; rfl) ?_
   refine Wp.brn (fun q=>?_) (fun q=>?_)
   ·
    have q:I.eqb (a2N s) (I.of .i64 1) = true:=q
    rw [if_pos q]
    exact Wp.optF (g8M (c1F m) (sTx s) hz hd) rfl
   ·
    have q:I.eqb (a2N s) (I.of .i64 1) = false:=q
    rw [if_neg (a8P q)]
    refine Wp.brn (fun q=>?_) (fun q=>?_)
    ·
     have q:I.eqb (a2N s) (I.of .i64 2) = true:=q
     rw [if_pos q]
     exact Wp.optF (g4U (c1F m) (f5D s) hz) rfl
    ·
     have q:I.eqb (a2N s) (I.of .i64 2) = false:=q
     rw [if_neg (a8P q)]
     exact Wp.optF (g7F (c1F m) s hz hp) rfl
  ·
   rw [if_pos g]
   exact Wp.brnT (by rw [decide_eq_false g]; rfl) rfl
 ·
  intro j hj
  refine Wp.brn (fun q=>?_) (fun q=>?_)
  ·
   have q:I.neb (I.add m.steps (I.of .u64 1)) (I.of .u64 0) = true:=q
   have e:c1F m = { m with steps:=I.add m.steps (I.of .u64 1) }:=by unfold c1F; rw [if_pos q]
   exact hj _ (by rw [e]; rfl)
  ·
   have q:I.neb (I.add m.steps (I.of .u64 1)) (I.of .u64 0) = false:=q
   have e:c1F m = m:=by unfold c1F; rw [if_neg (a8P q)]
   exact hj _ (by rw [e]; rfl)
end Sym

/- The machine's lists stay small. -/
namespace Sym
open Go
theorem f7R (l:List Pay) (a:I .u64) (n:U):(f9M l a n).length ≤ l.length + 1:=by
 unfold f9M
 split
 ·
  rw [d7V]; omega
 ·
  simp
theorem f6Y (b:U) (r:List Hs) (cl:List (I .u64)) (ba:List Pay) (c:Clm):(c4C b r cl ba c).2.2.1.length ≤ cl.length + 1∧(c4C b r cl ba c).2.2.2.length ≤ ba.length + 1:=by
 unfold c4C
 split
 ·
  exact ⟨Nat.le_succ _,Nat.le_succ _⟩
 split
 ·
  exact ⟨Nat.le_succ _,Nat.le_succ _⟩
 split
 ·
  exact ⟨Nat.le_succ _,Nat.le_succ _⟩
 split
 ·
  exact ⟨Nat.le_succ _,Nat.le_succ _⟩
 split
 ·
  exact ⟨Nat.le_succ _,Nat.le_succ _⟩
 split
 ·
  exact ⟨by simp,f7R _ _ _⟩
 ·
  exact ⟨Nat.le_succ _,Nat.le_succ _⟩
theorem e9Y (v:V4) (l:List Ac) (a:I .u64) (n:U):(c6M v l a n).2.2.length ≤ l.length + 1:=by
 unfold c6M
 split
 ·
  exact Nat.le_succ _
 split
 ·
  exact d2D _ _ _
 ·
  exact Nat.le_succ _
theorem f7G (l:List Ac) (a b:I .u64) (n:U):(e9C l a b n).2.length ≤ l.length + 2:=by
 unfold e9C
 have h:=c1K l a n
 split
 ·
  show l.length ≤ _; omega
 split
 ·
  have:=d2D (a4S l a n) b n
  show (b7J _ _ _).length ≤ _
  omega
 ·
  show (a4S _ _ _).length ≤ _; omega
theorem f7S (l:List Ac) (a:I .u64) (n:U):(e1P l a n).2.length ≤ l.length + 1:=by
 unfold e1P
 split
 ·
  exact Nat.le_succ _
 ·
  exact c1K _ _ _
def b3R (r:Rcp):List Msg:=r.2.2.2.2.2.2.2.2.1
theorem d6T {n:Nat} {m:MS} (h:Sz n m) (t:Txn) (c:Chg) (u:I .u64):Sz (n + 5) (e7W m t c (a4F m.pr u).1):=by
 have l1:(d0B m (a2I t) c).2.2.length ≤ m.ac.length + 1:=b6S _ _ _ _ _
 have l2:(d0F m (a2I t) c).2.2.length ≤ (d0B m (a2I t) c).2.2.length + 1:=b6S _ _ _ _ _
 have l3:(d0I m (a2I t) c).2.2.length ≤ (d0F m (a2I t) c).2.2.length + 1:=b6S _ _ _ _ _
 have l4:(b9X m (a2I t) c).2.2.length ≤ (d0I m (a2I t) c).2.2.length + 1:=b6S _ _ _ _ _
 have l5:(c2L m (a2I t) c).length ≤ (b9X m (a2I t) c).2.2.length + 1:=e3V _ _
 have hac:=h.ac
 have hu:=c9N m.pr u
 have hpr:=h.pr
 exact ⟨by show (c2L m (a2I t) c).length ≤ _; omega,Nat.le_add_right_of_le h.ms,Nat.le_add_right_of_le h.rt,Nat.le_add_right_of_le h.cl,Nat.le_add_right_of_le h.ba,by show (a4F m.pr u).1.posters.length ≤ _; omega⟩
theorem g1O {n:Nat} {m:MS} (h:Sz n m) (t:Txn) (c:Chg) (p:U):Sz (n + 2) (g3T m t c p).2∧(b3R (g3T m t c p).1).length ≤ 1:=by
 unfold g3T
 have hac:=h.ac
 split
 ·
  have:=f7G m.ac (a2I t) (tTo t) (c5K t)
  exact ⟨⟨by show (e9C _ _ _ _).2.length ≤ _; omega,Nat.le_add_right_of_le h.ms,Nat.le_add_right_of_le h.rt,Nat.le_add_right_of_le h.cl,Nat.le_add_right_of_le h.ba,Nat.le_add_right_of_le h.pr⟩,Nat.zero_le _⟩
 split
 ·
  exact ⟨h.mono (by omega),Nat.zero_le _⟩
 ·
  have:=f7S m.ac (a2I t) (c5K t)
  refine ⟨e5Z (k:=n + 1) (m:={ m with ac:=(e1P m.ac (a2I t) (c5K t)).2 }) ⟨by show (e1P _ _ _).2.length ≤ _; omega,Nat.le_succ_of_le h.ms,Nat.le_succ_of_le h.rt,Nat.le_succ_of_le h.cl,Nat.le_succ_of_le h.ba,Nat.le_succ_of_le h.pr⟩ _ _,Nat.le_refl _⟩
theorem g7C {n:Nat} {m:MS} (h:Sz n m) (t:Txn):Sz (n + 7) (txS m t).2∧(b3R (txS m t).1).length ≤ 1:=by
 unfold txS
 split
 ·
  exact ⟨h.mono (by omega),Nat.zero_le _⟩
 split
 ·
  exact ⟨h.mono (by omega),Nat.zero_le _⟩
 split
 ·
  exact ⟨h.mono (by omega),Nat.zero_le _⟩
 split
 ·
  exact ⟨(d6T h t _ _).mono (by omega),Nat.zero_le _⟩
 split
 ·
  exact ⟨(d6T h t _ _).mono (by omega),Nat.zero_le _⟩
 ·
  exact g1O (d6T h t _ _) t _ _
theorem g2M {n:Nat} {m:MS} (h:Sz n m) (r:RepT):Sz (n + 128) (d8T m r).2∧(b3R (d8T m r).1).length ≤ 64:=by
 unfold d8T
 have hlen:=e9T m.pr m.pm (d5N m.v 2) r m.bk.2.1
 have hpl:(b9W m r).length ≤ 64:=hlen.2
 split
 ·
  exact ⟨h.mono (by omega),Nat.zero_le _⟩
 ·
  have h0:Sz (n + 64) { m with pr:=(c5N m r).1 }:=⟨Nat.le_add_right_of_le h.ac,Nat.le_add_right_of_le h.ms,Nat.le_add_right_of_le h.rt,Nat.le_add_right_of_le h.cl,Nat.le_add_right_of_le h.ba,Nat.le_trans hlen.1 (by omega)⟩
  obtain ⟨h1,h2⟩:=d7W h0 (b9W m r) (b9W m r).length (Nat.le_refl _)
  rw [List.take_length] at h1 h2
  exact ⟨h1.mono (by omega),by show (c3N _ _).2.length ≤ _; omega⟩
theorem g3N {n:Nat} {m:MS} (h:Sz n m) (s:b2B):Sz (n + 1) (e1H m s).2:=by
 have h1:Sz (n + 1) m:=h.mono (by omega)
 unfold e1H
 split
 ·
  split
  ·
   exact ⟨h1.ac,h1.ms,h1.rt,h1.cl,h1.ba,h1.pr⟩
  ·
   exact h1
 split
 ·
  split
  ·
   exact ⟨h1.ac,h1.ms,h1.rt,h1.cl,h1.ba,h1.pr⟩
  ·
   exact h1
 split
 ·
  split
  ·
   have:=d6Y m.pr (c6P s)
   have:=h.pr
   exact ⟨h1.ac,h1.ms,h1.rt,h1.cl,h1.ba,by show (a5Z m.pr (c6P s)).1.posters.length ≤ _; omega⟩
  ·
   exact h1
 split
 ·
  split
  ·
   exact h1
  split
  ·
   have:=e9Y m.v m.ac (c6P s) (c1E s)
   have:=h.ac
   exact ⟨by show (c6M _ _ _ _).2.2.length ≤ _; omega,h1.ms,h1.rt,h1.cl,h1.ba,h1.pr⟩
  ·
   exact h1
 ·
  obtain ⟨g1,g2⟩:=f6Y m.bal m.rt m.cl m.ba (d3H s)
  have:=h.cl
  have:=h.ba
  exact ⟨h1.ac,h1.ms,h1.rt,by show (c4C _ _ _ _ _).2.2.1.length ≤ _; omega,by show (c4C _ _ _ _ _).2.2.2.length ≤ _; omega,h1.pr⟩
theorem f1Q {n:Nat} {m:MS} (h:Sz n m) (s:b2B):Sz (n + 128) (d0Q m s).2∧(b3R (d0Q m s).1).length ≤ 64:=by
 unfold d0Q
 have hz:=f3M h
 split
 ·
  exact ⟨hz.mono (by omega),Nat.zero_le _⟩
 split
 ·
  obtain ⟨g1,g2⟩:=g7C hz (sTx s)
  exact ⟨g1.mono (by omega),Nat.le_trans g2 (by decide)⟩
 split
 ·
  exact g2M hz (f5D s)
 ·
  exact ⟨(g3N hz s).mono (by omega),Nat.zero_le _⟩
end Sym

/- Steps that a number determines: they exist, and are small. -/
namespace Sym
open Go
structure StG (calm:Bool) (n:Nat) (s:b2B):Prop where
 data:(c3P (sTx s)).length ≤ 1000
 prf:(d3Y (d3H s)).length ≤ n + 1
 dep:calm = true→I.eqb (a2N s) (I.of .i64 6) = true→(c1E s).val < 1152921504606846976
theorem g8I (x:I .u64):U.val (x,((I.of .u64 0),((I.of .u64 0),((I.of .u64 0),())))) = x.nat:=by
 show x.nat + 18446744073709551616 * (0 + 18446744073709551616 * (0 + 18446744073709551616 * 0)) = x.nat
 omega
theorem e6A {a m:I .i64} (h:0 ≤ a.val) (h2:0 < m.val):(I.conv (k:=.i64) .u64 (I.rem a m)).nat < m.val.toNat:=by
 have e:=b7H h h2
 have h3:=Int.emod_nonneg a.val (b:=m.val) (by omega)
 have h4:=Int.emod_lt_of_pos a.val h2
 have hm:=b4W m
 have hv:(I.conv (k:=.i64) .u64 (I.rem a m)).val = a.val % m.val:=by
  unfold I.conv
  rw [e]
  exact b9B ⟨h3,by omega⟩
 have:=a2A (I.conv (k:=.i64) .u64 (I.rem a m))
 omega
theorem c4N {a:I .i64} (h:0 ≤ a.val):U.val ((I.add (I.of .u64 4503599627370496) (I.conv (k:=.i64) .u64 (I.rem a (I.of .i64 100000)))),((I.of .u64 0),((I.of .u64 0),((I.of .u64 0),())))) < 1152921504606846976:=by
 rw [g8I]
 have h1:(I.conv (k:=.i64) .u64 (I.rem a (I.of .i64 100000))).nat < 100000:=e6A h (by decide)
 have c:(I.of .u64 4503599627370496).nat = 4503599627370496:=rfl
 rw [c5L _ _ (by omega)]
 omega
theorem e7C {a:I .i64} (h:0 ≤ a.val):U.val ((I.conv (k:=.i64) .u64 (I.rem a (I.of .i64 50))),((I.of .u64 0),((I.of .u64 0),((I.of .u64 0),())))) < 1152921504606846976:=by
 rw [g8I]
 have h1:(I.conv (k:=.i64) .u64 (I.rem a (I.of .i64 50))).nat < 50:=e6A h (by decide)
 omega
def f5F (calm:Bool) (n:Nat) (o:Option ((⟨[.pl a1H],[]⟩:Tm).D)):Prop:=∃ s:b2B,o = some ((s,()),())∧StG calm n s
theorem e7F (a:I .i64) (b:I .u64) (c:Bool) (n:Nat) (h:0 ≤ a.val):f5F c n (b0M K0 ((a,(b,(c,()))),())):=by
 refine Wp.out (T:=fun o=>f5F c n o) ?_
 unfold b0M
 have z:([]:List (I .u8)).length ≤ 1000:=Nat.zero_le _
 have z2:([]:List Hs).length ≤ n + 1:=Nat.zero_le _
 refine Wp.brn (fun _=>⟨_,rfl,z,z2,fun _ _=>c4N h⟩) (fun _=>?_)
 refine Wp.brn (fun _=>⟨_,rfl,z,z2,fun _ _=>c4N h⟩) (fun _=>?_)
 refine Wp.brn (fun _=>⟨_,rfl,z,z2,fun _ _=>c4N h⟩) (fun _=>?_)
 refine Wp.brn (fun _=>⟨_,rfl,z,z2,fun _ _=>e7C h⟩) (fun _=>?_)
 refine Wp.brn (fun _=>?_) (fun _=>⟨_,rfl,z,z2,fun _ _=>c4N h⟩)
 refine Wp.brn (fun hc=>⟨_,rfl,z,z2,fun g _=>?_⟩) (fun _=>⟨_,rfl,z,z2,fun _ _=>c4N h⟩)
 have hc:c = false:=g9U hc
 rw [hc] at g
 cases g
theorem f7N (a:I .i64) (c:Bool) (n:Nat) (h:0 ≤ a.val):f5F c n (b2Y K0 ((a,()),())):=by
 refine Wp.out (T:=fun o=>f5F c n o) ?_
 unfold b2Y
 have z:([]:List (I .u8)).length ≤ 1000:=Nat.zero_le _
 have z2:([]:List Hs).length ≤ n + 1:=Nat.zero_le _
 have e:=b7H (b:=I.of .i64 12) h (by decide)
 have c12:(I.of .i64 12).val = 12:=rfl
 refine Wp.brnT (iff_inB.2 (by show 0 ≤ (I.rem a (I.of .i64 12)).val∧(I.rem a (I.of .i64 12)).val < ((12:Nat):Int); rw [e,c12]; omega)) ?_
 refine Wp.jn (fun x=>(c3P (sTx x.2.2.1)).length ≤ 1000∧(d3Y (d3H x.2.2.1)).length ≤ n + 1∧I.eqb (a2N x.2.2.1) (I.of .i64 6) = false) ?_ ?_
 ·
  rintro ⟨x0,x1,s,⟨⟩⟩ ⟨h1,h2,h3⟩
  have h3:I.eqb (a2N s) (I.of .i64 6) = false:=h3
  refine Wp.brn (fun _=>⟨_,rfl,h1,h2,fun _ g=>?_⟩) (fun _=>⟨_,rfl,h1,h2,fun _ g=>?_⟩)
  ·
   have g:I.eqb (a2N s) (I.of .i64 6) = true:=g
   rw [h3] at g; cases g
  ·
   have g:I.eqb (a2N s) (I.of .i64 6) = true:=g
   rw [h3] at g; cases g
 ·
  intro j hj
  exact Wp.brn (fun _=>hj _ ⟨z,z2,rfl⟩) (fun _=>hj _ ⟨z,z2,rfl⟩)
theorem f2O (a:I .i64) (m:MS):∃ r:RepT,b1K K0 ((a,()),m.h) = some ((r,()),m.h):=by
 refine Wp.out (T:=fun o=>∃ r:RepT,o = some ((r,()),m.h)) ?_
 unfold b1K
 have hnz:I.nz (I.add (I.mn (I.sub m.bk.2.1 m.pr.2.2.1) (I.of .u64 1099511627776)) (I.of .u64 2)) = true:=by
  have h1:=g5X (I.sub m.bk.2.1 m.pr.2.2.1) (I.of .u64 1099511627776)
  have c1:(I.of .u64 1099511627776).nat = 1099511627776:=rfl
  have c2:(I.of .u64 2).nat = 2:=rfl
  have h2:=c5L (I.mn (I.sub m.bk.2.1 m.pr.2.2.1) (I.of .u64 1099511627776)) (I.of .u64 2) (by omega)
  refine iff_nz.2 ?_
  have:=a2A (I.add (I.mn (I.sub m.bk.2.1 m.pr.2.2.1) (I.of .u64 1099511627776)) (I.of .u64 2))
  omega
 refine Wp.brnT hnz ?_
 exact Wp.brn (fun _=>⟨_,rfl⟩) (fun _=>Wp.brn (fun _=>⟨_,rfl⟩) (fun _=>Wp.brn (fun _=>⟨_,rfl⟩) (fun _=>⟨_,rfl⟩)))
theorem e8C (a:I .i64):Tot (b1U K0 ((a,()),())):=by
 refine Wp.out (T:=fun o=>Tot o) ?_
 unfold b1U
 refine Wp.iter (fun x=>∃ i,i ≤ 8∧x.1.2.1 = i6 i) (fun x=>8 - x.1.2.1.val.toNat) ?_ ⟨0,by omega,rfl⟩ (by rw [a7S]; show 8 - 0 < _; decide)
 rintro ⟨⟨b,j,⟨⟩⟩,x2⟩ ⟨q,hq,e2⟩
 simp only at e2
 subst e2
 refine Wp.brn (fun hc=>?_) (fun hc=>Wp.done ⟨_,rfl⟩)
 have hc:q < 8:=by have:=iff_ltb.1 hc; simp only [a0V (show q < 9223372036854775808 by omega),show (I.of .i64 8).val = 8 from rfl] at this; omega
 have hn:I.add (i6 q) (I.of .i64 1) = i6 (q + 1):=a4C (m:=1) (by omega)
 refine Wp.brnT (c3E _) (Wp.brnT (a3S (by omega) (by omega)) ?_)
 refine Wp.again ⟨q + 1,by omega,hn⟩ ?_
 show 8 - (I.add (i6 q) (I.of .i64 1)).val.toNat < 8 - (i6 q).val.toNat
 rw [hn,a0V (by omega),a0V (by omega)]; omega
end Sym

/- Steps that a number determines, continued. -/
namespace Sym
open Go
theorem e5H {a:I .i64} {n:Nat} (h:0 ≤ a.val) (hn:0 < n) (hn2:n < 9223372036854775808):∃ k,I.rem a (i6 n) = i6 k∧k < n:=by
 have e:=b7H (b:=i6 n) h (by rw [a0V hn2]; omega)
 rw [a0V hn2] at e
 have h3:=Int.emod_nonneg a.val (b:=(n:Int)) (by omega)
 have h4:=Int.emod_lt_of_pos a.val (b:=(n:Int)) (by omega)
 refine ⟨(a.val % (n:Int)).toNat,?_,by omega⟩
 apply I.ext'
 rw [e,a0V (by omega)]
 omega
theorem f1X {a m:I .i64} (h:0 ≤ a.val) (h2:0 < m.val):0 ≤ (I.quo a m).val:=by
 rw [b9M h h2]
 exact Int.ediv_nonneg h (by omega)
theorem d4A (a:I .i64) (b:I .u64) (m:MS) (h:0 ≤ a.val) (hs:Sz 100000000 m):∃ t:Txn,a7R K0 ((a,(b,())),m.h) = some ((t,()),m.h)∧(c3P t).length ≤ 1000:=by
 refine Wp.out (T:=fun o=>∃ t:Txn,o = some ((t,()),m.h)∧(c3P t).length ≤ 1000) ?_
 unfold a7R
 have hac:=hs.ac
 refine Wp.optF (d9C m.ac (lgH m.v).2 b (by omega)) ?_
 obtain ⟨k6,e6,hk6⟩:=e5H (n:=6) h (by omega) (by omega)
 refine Wp.brnT (by show inB (I.rem a (i6 6)) 6 = true; rw [e6]; exact a3S hk6 (by omega)) ?_
 obtain ⟨r1,e1,B1⟩:=a1E (d4E m.bk)
 obtain ⟨r2,e2,B2⟩:=a1K (I.conv (k:=.i64) .u64 (I.add (I.of .i64 1) (I.rem a (I.of .i64 3))))
 obtain ⟨r3,e3,B3⟩:=b2L B1 B2 (e7T B1) (d8V B2)
 have h3:(d4E m.bk).val * (I.conv (k:=.i64) .u64 (I.add (I.of .i64 1) (I.rem a (I.of .i64 3)))).nat < P40:=by
  have h3:=Nat.mul_le_mul (Nat.le_of_lt (U.lt (d4E m.bk))) (Nat.le_of_lt (a3I (I.conv (k:=.i64) .u64 (I.add (I.of .i64 1) (I.rem a (I.of .i64 3))))))
  exact Nat.lt_of_le_of_lt h3 (by decide +kernel)
 have e4:=c4Q B3 (lenK' B3 h3)
 refine Wp.optF e1 (Wp.optF e2 (Wp.optF e3 (Wp.optF e4 ?_)))
 obtain ⟨k5,e5,hk5⟩:=e5H (a:=I.quo a (I.of .i64 5)) (n:=5) (f1X h (by decide)) (by omega) (by omega)
 have e5:I.rem (I.quo a (I.of .i64 5)) (I.of .i64 5) = i6 k5:=e5
 refine Wp.brnT (by show inB' (I.rem (I.quo a (I.of .i64 5)) (I.of .i64 5)) 4 = true; rw [e5]; exact i6_inB' (by omega) (by omega)) ?_
 obtain ⟨out,ho,hol⟩:=c7S (a4N (a :: ((I.quo a (I.of .i64 3)) :: ((I.quo a (I.of .i64 7)) :: ((I.quo a (I.of .i64 11)) :: [])))) 0 (I.nat (I.rem (I.quo a (I.of .i64 5)) (I.of .i64 5)))) (by rw [b8I]; show min _ (4 - 0) ≤ _; omega)
 have hol:out.length ≤ 1000:=by
  rw [b8I] at hol
  have:∀ z,min z ((a :: ((I.quo a (I.of .i64 3)) :: ((I.quo a (I.of .i64 7)) :: ((I.quo a (I.of .i64 11)) :: [])))).length - 0) ≤ 4:=fun z=>by show min z (4 - 0) ≤ 4; omega
  have:=this (I.nat (I.rem (I.quo a (I.of .i64 5)) (I.of .i64 5)))
  omega
 refine Wp.optF ho ?_
 refine Wp.brn (fun _=>⟨_,rfl,hol⟩) (fun _=>Wp.brn (fun _=>⟨_,rfl,hol⟩) (fun _=>Wp.brn (fun _=>⟨_,rfl,hol⟩) (fun _=>Wp.brn (fun _=>⟨_,rfl,hol⟩) (fun _=>Wp.brn (fun _=>⟨_,rfl,hol⟩) (fun _=>Wp.brn (fun _=>Wp.tot ⟨_,rfl⟩ fun _=>Wp.tot ⟨_,rfl⟩ fun _=>⟨_,rfl,hol⟩) (fun _=>Wp.brn (fun _=>⟨_,rfl,hol⟩) (fun _=>⟨_,rfl,hol⟩)))))))
theorem f6E (a:I .i64) (m:MS) (h:0 ≤ a.val) (hs:Sz 100000000 m):∃ c:Clm,b2R K0 ((a,()),m.h) = some ((c,()),m.h)∧(d3Y c).length ≤ m.ms.length + 1:=by
 refine Wp.out (T:=fun o=>∃ c:Clm,o = some ((c,()),m.h)∧(d3Y c).length ≤ m.ms.length + 1) ?_
 unfold b2R
 have hl:=hs.ms
 have e0:I.eqb (I.ofNat .i64 (a0I m.ms)) (I.of .i64 0) = decide (m.ms.length = 0):=e0I (n:=m.ms.length) (m:=0) (by omega) (by omega)
 refine Wp.brn (fun _=>⟨_,rfl,Nat.zero_le _⟩) (fun h0=>?_)
 have h0:I.eqb (I.ofNat .i64 (a0I m.ms)) (I.of .i64 0) = false:=h0
 rw [e0] at h0
 have h0:=of_decide_eq_false h0
 have nz6:∀ n:Nat,n ≠ 0→n < 9223372036854775808→I.nz (i6 n) = true:=fun n h1 h2=>iff_nz.2 (by rw [a0V h2]; omega)
 refine Wp.brnT (nz6 m.ms.length h0 (by omega)) ?_
 obtain ⟨k,ek,hk⟩:=e5H (n:=m.ms.length) h (by omega) (by omega)
 have ek:I.rem a (I.ofNat .i64 (a0I m.ms)) = i6 k:=ek
 have es:I.sub (I.ofNat .i64 (a0I m.ms)) (I.rem a (I.ofNat .i64 (a0I m.ms))) = i6 (m.ms.length - k):=by rw [ek]; exact c0A (n:=m.ms.length) (by omega) (by omega)
 refine Wp.brnT (by show I.nz (I.sub (I.ofNat .i64 (a0I m.ms)) (I.rem a (I.ofNat .i64 (a0I m.ms)))) = true; rw [es]; exact nz6 _ (by omega) (by omega)) ?_
 obtain ⟨q,eq,hq⟩:=e5H (a:=I.quo a (I.of .i64 7)) (n:=m.ms.length - k) (f1X h (by decide)) (by omega) (by omega)
 have en:I.add (I.add (I.rem a (I.ofNat .i64 (a0I m.ms))) (I.of .i64 1)) (I.rem (I.quo a (I.of .i64 7)) (I.sub (I.ofNat .i64 (a0I m.ms)) (I.rem a (I.ofNat .i64 (a0I m.ms))))) = i6 (k + 1 + q):=by
  rw [es,eq,ek,show I.add (i6 k) (I.of .i64 1) = i6 (k + 1) from a4C (m:=1) (by omega)]
  exact a4C (by omega)
 obtain ⟨y,hy,bb,o,rfl,ho⟩:=e1R m.ms (I.rem a (I.ofNat .i64 (a0I m.ms))) (k + 1 + q) (by omega) (by omega)
 rw [← en] at hy
 have hin:inB (I.rem a (I.ofNat .i64 (a0I m.ms))) (a0I m.ms) = true:=by rw [ek]; exact a3S hk (by omega)
 have ho1:o.length ≤ m.ms.length + 1:=by omega
 refine Wp.optF hy (Wp.brnT hin (Wp.brnT hin ?_))
 refine Wp.brn (fun _=>?_) (fun _=>Wp.brn (fun _=>⟨_,rfl,ho1⟩) (fun _=>Wp.brn (fun _=>?_) (fun _=>Wp.brn (fun _=>?_) (fun _=>⟨_,rfl,ho1⟩))))
 ·
  obtain ⟨r1,f1,B1⟩:=a1E (rdL a0M m.ms (I.nat (I.rem a (I.ofNat .i64 (a0I m.ms))))).2.2.1
  obtain ⟨r2,f2,B2⟩:=a1K (I.of .u64 1)
  obtain ⟨r3,f3,B3⟩:=b2F B1 B2 (e7T B1) (d8V B2)
  refine Wp.optF f1 (Wp.optF f2 (Wp.optF f3 (Wp.optF (y:=((((I.of .u64 18446744073709551615),((I.of .u64 18446744073709551615),((I.of .u64 18446744073709551615),((I.of .u64 18446744073709551615),())))),()),())) rfl ?_)))
  obtain ⟨r5,f5,B5⟩:=a1E (((I.of .u64 18446744073709551615),((I.of .u64 18446744073709551615),((I.of .u64 18446744073709551615),((I.of .u64 18446744073709551615),())))))
  have hlt:=U.lt (rdL a0M m.ms (I.nat (I.rem a (I.ofNat .i64 (a0I m.ms))))).2.2.1
  have c1:(I.of .u64 1).nat = 1:=rfl
  obtain ⟨y6,f6,r6,rfl,B6⟩:=e2P B3 B5 (f6R B3 (by rw [c1]; have:U.top = 115792089237316195423570985008687907853269984665640564039457584007913129639936:=rfl; omega)) (e7T B5)
  have f7:=c4Q B6 (f6R B6 (by rw [c1]; have:U.top = 115792089237316195423570985008687907853269984665640564039457584007913129639936:=rfl; omega))
  exact Wp.optF f5 (Wp.optF f6 (Wp.optF f7 ⟨_,rfl,ho1⟩))
 ·
  refine Wp.tot (e8C a) fun y1=>Wp.brnT (b9V _ _ (by show o.length + 1 ≤ _; omega)) ⟨_,rfl,?_⟩
  show (a2B o [_]).length ≤ _
  rw [a8H]
  show o.length + 1 ≤ _
  omega
 ·
  have e3:I.add (I.ofNat .i64 (a0I m.ms)) (I.of .i64 3) = i6 (m.ms.length + 3):=a4C (n:=m.ms.length) (m:=3) (by omega)
  refine Wp.brnT (by show I.nz (I.add (I.ofNat .i64 (a0I m.ms)) (I.of .i64 3)) = true; rw [e3]; exact nz6 _ (by omega) (by omega)) ⟨_,rfl,ho1⟩
end Sym

/- A run's next step; a run. -/
namespace Sym
open Go
def g5W (calm:Bool) (m:MS) (o:Option ((⟨[.pl a1H],a0F⟩:Tm).D)):Prop:=∃ s:b2B,o = some ((s,()),m.h)∧StG calm m.ms.length s
theorem g3D (k:I .i64) (calm:Bool) (m:MS) (hs:Sz 100000000 m):g5W calm m (a9O K0 ((k,(calm,())),m.h)):=by
 refine Wp.out (T:=fun o=>g5W calm m o) ?_
 unfold a9O
 obtain ⟨x,hx,x0,_⟩:=g6L k (I.of .i64 4611686018427387904) (by decide)
 refine Wp.optF hx ?_
 have z:([]:List (I .u8)).length ≤ 1000:=Nat.zero_le _
 have z2:([]:List Hs).length ≤ m.ms.length + 1:=Nat.zero_le _
 have n6:∀ (k:I .i64),k.val ≠ 6→I.eqb k (I.of .i64 6) = true→False:=fun k h g=>h (iff_eqb.1 g)
 refine Wp.jn (fun w=>∃ (ad:I .u64) (n r:I .i64) (f:Bool) (y:b2B),0 ≤ n.val∧w = ((calm,(ad,(n,(r,(f,()))))),(m.j,(lgH m.v,(m.ac,(m.ms,(esH m.bal,(m.rt,(m.cl,(m.ba,(y,()))))))))))) ?_ ?_
 ·
  rintro w ⟨ad,n,r,f,y,hn,rfl⟩
  refine Wp.brn (fun _=>?_) (fun _=>?_)
  ·
   obtain ⟨s,e,g⟩:=e7F n ad calm m.ms.length hn
   exact Wp.optF e ⟨s,rfl,g⟩
  refine Wp.jn (fun w=>∃ (ad:I .u64) (n r:I .i64) (f:Bool) (y:b2B),0 ≤ n.val∧w = ((ad,(n,(r,(f,())))),(m.j,(lgH m.v,(m.ac,(m.ms,(esH m.bal,(m.rt,(m.cl,(m.ba,(y,()))))))))))) ?_ ?_
  ·
   rintro w ⟨ad,n,r,f,y,hn,rfl⟩
   refine Wp.brn (fun _=>?_) (fun _=>?_)
   ·
    obtain ⟨q,e⟩:=f2O n m
    exact Wp.optF e ⟨_,rfl,z,z2,fun _ g=>(n6 (I.of .i64 2) (by decide) g).elim⟩
   refine Wp.brn (fun _=>Wp.brn (fun _=>⟨_,rfl,z,z2,fun _ g=>(n6 (I.of .i64 3) (by decide) g).elim⟩) (fun _=>⟨_,rfl,z,z2,fun _ g=>(n6 (I.of .i64 3) (by decide) g).elim⟩)) (fun _=>?_)
   refine Wp.brn (fun _=>?_) (fun _=>?_)
   ·
    obtain ⟨s,e,g⟩:=f7N n calm m.ms.length hn
    exact Wp.optF e ⟨s,rfl,g⟩
   refine Wp.brn (fun _=>Wp.brn (fun _=>⟨_,rfl,z,z2,fun _ g=>(n6 (I.of .i64 5) (by decide) g).elim⟩) (fun _=>⟨_,rfl,z,z2,fun _ g=>(n6 (I.of .i64 5) (by decide) g).elim⟩)) (fun _=>?_)
   refine Wp.jn (fun w=>∃ (ad:I .u64) (n:I .i64) (f:Bool) (y:b2B),0 ≤ n.val∧w = ((ad,(n,(f,()))),(m.j,(lgH m.v,(m.ac,(m.ms,(esH m.bal,(m.rt,(m.cl,(m.ba,(y,()))))))))))) ?_ ?_
   ·
    rintro w ⟨ad,n,f,y,hn,rfl⟩
    refine Wp.brn (fun _=>?_) (fun _=>?_)
    ·
     obtain ⟨c,e,hc⟩:=f6E n m hn hs
     exact Wp.optF e ⟨_,rfl,z,hc,fun _ g=>(n6 (I.of .i64 7) (by decide) g).elim⟩
    ·
     obtain ⟨t,e,ht⟩:=d4A n ad m hn hs
     exact Wp.optF e ⟨_,rfl,ht,z2,fun _ g=>(n6 (I.of .i64 1) (by decide) g).elim⟩
   ·
    intro j hj
    exact Wp.brn (fun _=>hj _ ⟨_,_,_,_,hn,rfl⟩) (fun _=>hj _ ⟨_,_,_,_,hn,rfl⟩)
  ·
   intro j hj
   exact Wp.brn (fun _=>hj _ ⟨_,_,_,_,_,hn,rfl⟩) (fun _=>hj _ ⟨_,_,_,_,_,hn,rfl⟩)
 ·
  intro j hj
  have hq:0 ≤ (I.quo x (I.of .i64 64)).val:=f1X x0 (by decide)
  exact Wp.brn (fun _=>hj _ ⟨_,_,_,_,_,hq,rfl⟩) (fun _=>hj _ ⟨_,_,_,_,_,hq,rfl⟩)
noncomputable def g8O:Prm:=(((I.of .u64 7000000),((I.of .u64 10),((I.of .u64 102),(((I.of .u64 100000000),((I.of .u64 0),((I.of .u64 0),((I.of .u64 0),())))),((I.of .u64 32000000),(((I.of .u64 60000000),((I.of .u64 0),((I.of .u64 0),((I.of .u64 0),())))),((I.of .u64 1000),(((I.of .u64 10),((I.of .u64 0),((I.of .u64 0),((I.of .u64 0),())))),((I.of .u64 160000000),((I.of .u64 10),((I.of .u64 16),((I.of .u64 65536),())))))))))))))
noncomputable def ms0:MS:=⟨I.of .u64 0,g8O,(I.of .u64 1,(I.of .u64 0,(I.of .u64 0,(((I.of .u64 100000000),((I.of .u64 0),((I.of .u64 0),((I.of .u64 0),())))),())))),I.of .u64 0,(((I.of .u64 1000000000),((I.of .u64 0),((I.of .u64 0),((I.of .u64 0),())))),((I.of .u64 0),((I.of .u64 0),((I.of .u64 0),(a2V,([],())))))),c5G,[],[],Z_U,[],[],[]⟩
theorem g4R:b4F K0 ((),()) = some ((),ms0.h):=by
 rw [a7S]; kernel_rfl
noncomputable abbrev zTx:Txn:=((I.of .u64 0),((I.of .u64 0),((I.of .u64 0),(Z_U,((I.of .u64 0),(Z_U,(Z_U,((I.of .u64 0),([],())))))))))
noncomputable abbrev g4Y:Clm:=((I.of .u64 0),((I.of .u64 0),((I.of .u64 0),(Z_U,([],())))))
noncomputable def g6T (a:Nat):b2B:=(I.of .i64 6,(zTx,(a0M,(I.of .u64 0,(I.of .i64 0,(((I.of .u64 288230376151711744),((I.of .u64 0),((I.of .u64 0),((I.of .u64 0),())))),(I.of .u64 (a:Int),(g4Y,()))))))))
noncomputable def g7I (a:Nat):b2B:=(I.of .i64 5,(zTx,(a0M,(I.of .u64 0,(I.of .i64 0,(Z_U,(I.of .u64 (a:Int),(g4Y,()))))))))
noncomputable def g3U:b2B:=(I.of .i64 3,(zTx,(a0M,(I.of .u64 12,(I.of .i64 0,(Z_U,(I.of .u64 0,(g4Y,()))))))))
noncomputable def setupL:List b2B:=[g6T 1,g6T 2,g6T 3,g6T 4,g7I 5,g7I 6,g7I 7,g3U]
theorem f6Q:b1G K0 ((),()) = some ((),(setupL,())):=by
 rw [a7S]; kernel_rfl
theorem d5H (calm:Bool) (n:Nat):∀ s ∈ setupL,StG calm n s:=by
 have z:([]:List (I .u8)).length ≤ 1000:=Nat.zero_le _
 have z2:([]:List Hs).length ≤ n + 1:=Nat.zero_le _
 have d:∀ a,StG calm n (g6T a):=fun a=>⟨z,z2,fun _ _=>by show U.val (_,_) < _; rw [g8I]; decide⟩
 have p:∀ a,StG calm n (g7I a):=fun a=>⟨z,z2,fun _ g=>by have:(5:Int) = 6:=iff_eqb.1 g; omega⟩
 have t:StG calm n g3U:=⟨z,z2,fun _ g=>by have:(3:Int) = 6:=iff_eqb.1 g; omega⟩
 intro s hs
 simp only [setupL,List.mem_cons,List.not_mem_nil,or_false] at hs
 rcases hs with rfl | rfl | rfl | rfl | rfl | rfl | rfl | rfl
 ·
  exact d 1
 ·
  exact d 2
 ·
  exact d 3
 ·
  exact d 4
 ·
  exact p 5
 ·
  exact p 6
 ·
  exact p 7
 ·
  exact t
noncomputable def c6E (s:MS × List Rcp) (x:b2B):MS × List Rcp:=((d0Q s.1 x).2,s.2 ++ [(d0Q s.1 x).1])
noncomputable def c6Q (m:MS) (l:List b2B):MS × List Rcp:=l.foldl c6E (m,[])
theorem c8B (m:MS) (l:List b2B) (x:b2B):c6Q m (l ++ [x]) = c6E (c6Q m l) x:=by
 unfold c6Q
 rw [List.foldl_append]
 rfl
theorem c7E (m:MS) (l:List b2B):(c6Q m l).2.length = l.length:=by
 suffices h:∀ (l:List b2B) (s:MS × List Rcp),(l.foldl c6E s).2.length = s.2.length + l.length by
  show (List.foldl c6E (m,[]) l).2.length = _
  rw [h l (m,[])]
  exact Nat.zero_add _
 intro l
 induction l with
 | nil=>intro s; rfl
 | cons x l ih =>
  intro s
  rw [List.foldl_cons,ih]
  show (s.2 ++ [_]).length + l.length = s.2.length + (l.length + 1)
  rw [List.length_append]
  simp
  omega
end Sym
