/- Payments: what a plan pays, and what the table is behind it. -/
import Derived.Test.YtojogbnepbblgaaGreatPart5
import Derived.Test.YtojogbnepbblgaaGreatPart3
import Derived.Test.YtojogbnepbblgaaGreatPart4
namespace Sym
open Go
theorem f2K {l m:List Nat} (h:l.Perm m):a9O l = a9O m:=by
 induction h with
 | nil=>rfl
 | cons x _ ih=>simp only [a9O,List.foldr_cons] at *; omega
 | swap x y l=>simp only [a9O,List.foldr_cons]; omega
 | trans _ _ ih1 ih2=>exact ih1.trans ih2
theorem ow_iff {p:Post}:ow p = true ↔ b8H p ≠ 0:=by
 unfold ow
 rw [h2W]
 simp [b8H]
theorem e8C (l:List Post):a9O ((l.filter ow).map b8H) = a9O (l.map b8H):=by
 induction l with
 | nil=>rfl
 | cons p l ih =>
  rw [List.filter_cons]
  split
  ·
   simp only [a9O,List.map_cons,List.foldr_cons] at *; omega
  ·
   rename_i h
   have:b8H p = 0:=by
    have:=mt ow_iff.2 h
    omega
   simp only [a9O,List.map_cons,List.foldr_cons] at *; omega
noncomputable abbrev ord (x:List Post):List Post:=(d3U x).map (·.1)
theorem g2C (x:List Post):a9O ((ord x).map b8H) = a9O (x.map b8H):=by
 rw [← e8C x]
 exact f2K ((c4B x).map b8H)
theorem g2L {x:List Post} {p:Post} (h:p ∈ ord x):p ∈ x∧ow p = true:=List.mem_filter.1 ((c4B x).mem_iff.1 h)
theorem e9U {x:List Post} (hx:TableOk x):(ord x).Pairwise fun p q=>Post.addr p ≠ Post.addr q:=by
 have h:=(table_iff.1 hx).2.2
 have h2:(x.filter ow).Pairwise fun p q=>Post.addr p ≠ Post.addr q:=(h.filter ow).imp fun {p q} hlt e=>by rw [e] at hlt; omega
 exact (List.Perm.pairwise_iff (fun {p q} h e=>h e.symm) (c4B x)).2 h2
theorem e5K:∀ (o:List Post) (n:Nat),n < U.top→a9O ((b2Z o n).map amt) = min n (a9O (o.map b8H))
 | [],n,_=>by simp [b2Z,a9O]
 | p :: r,n,hn=>by
  simp only [b2Z]
  split
  ·
   rename_i h
   subst h
   simp [a9O]
  ·
   have ih:=e5K r (n - min (b8H p) n) (by omega)
   have hv:(U.of (min (b8H p) n)).val = min (b8H p) n:=U.val_of (by omega)
   have:amt (p.addr,(U.of (min (b8H p) n),())) = min (b8H p) n:=hv
   simp only [a9O,List.map_cons,List.foldr_cons,this] at *
   omega
theorem f3N:∀ (l:List Post) (k:Nat) (v:Post),k < l.length→a9O ((setAt l k v).map b8H) + b8H (rdL dP l k) = a9O (l.map b8H) + b8H v
 | [],k,v,h=>by simp at h
 | p :: l,0,v,_=>by simp only [setAt,rdL,a9O,List.map_cons,List.foldr_cons]; omega
 | p :: l,k + 1,v,h=>by
  have:=f3N l k v (by simpa using h)
  simp only [setAt,rdL,a9O,List.map_cons,List.foldr_cons] at *
  omega
theorem f5L {out:List Post} (h:TableOk out) {p:Post} (hp:p ∈ out):atN out p.addr < out.length∧rdL dP out (atN out p.addr) = p:=by
 obtain ⟨k,hk,rfl⟩:=b8W dP hp
 have e:atN out (Post.addr (rdL dP out k)) = k:=f8Z hk (iff_eqb.2 rfl) (fun j hj=>niff_eqb.2 (by have:=h.lt k hk j hj; omega))
 rw [e]
 exact ⟨hk,rfl⟩
theorem f0N {out:List Post} (h:TableOk out) {i j:Nat} (hi:i < out.length) (hj:j < out.length) (e:Post.addr (rdL dP out i) = Post.addr (rdL dP out j)):i = j:=by
 rcases Nat.lt_trichotomy i j with h1 | h1 | h1
 ·
  have:=h.lt j hj i h1; rw [e] at this; omega
 ·
  exact h1
 ·
  have:=h.lt i hi j h1; rw [e] at this; omega
theorem d5W:∀ (o:List Post) (n:Nat) (out:List Post),n < U.top→TableOk out→(∀ p ∈ o,p ∈ out∧ow p = true)→(o.Pairwise fun p q=>Post.addr p ≠ Post.addr q) →
  (a2Y out (b2Z o n)).2 = I.of .i64 4 ∨ ((a2Y out (b2Z o n)).2 = I.of .i64 0∧TableOk (a2Y out (b2Z o n)).1∧(a2Y out (b2Z o n)).1.length = out.length ∧
   (∀ i,Post.addr (rdL dP (a2Y out (b2Z o n)).1 i) = Post.addr (rdL dP out i)) ∧
   a9O ((a2Y out (b2Z o n)).1.map b8H) + a9O ((b2Z o n).map amt) = a9O (out.map b8H) ∧
   (∀ i,(∀ p ∈ o,Post.addr p ≠ Post.addr (rdL dP out i))→rdL dP (a2Y out (b2Z o n)).1 i = rdL dP out i) ∧
   (∀ t,t + 1 < (b2Z o n).length→∀ i,i < out.length→Post.addr (rdL dP out i) = Post.addr (rdL dP o t)→b8H (rdL dP (a2Y out (b2Z o n)).1 i) = 0))
 | [],n,out,_,ht,_,_=>.inr ⟨rfl,ht,rfl,fun _=>rfl,by simp [b2Z,a2Y,a9O],fun _ _=>rfl,fun t h=>by simp [b2Z] at h⟩
 | p :: r,n,out,hn,ht,hin,hap=>by
  by_cases h0:n = 0
  ·
   subst h0
   rw [c8O]
   exact .inr ⟨rfl,ht,rfl,fun _=>rfl,by simp [a2Y,a9O],fun _ _=>rfl,fun t h=>by simp at h⟩
  ·
   have hpl:b2Z (p :: r) n = (p.addr,(U.of (min (b8H p) n),())) :: b2Z r (n - min (b8H p) n):=if_neg h0
   rw [hpl]
   simp only [a2Y]
   have ⟨hk,hkp⟩:=f5L ht (hin p (by simp)).1
   obtain ⟨m,hm⟩:∃ m,m = min (b8H p) n:=⟨_,rfl⟩
   rw [← hm]
   have hmv:(U.of m).val = m:=U.val_of (by omega)
   have hmd:m ≤ b8H p:=by omega
   have hst:b2G out p.addr (U.of m) = if (Post.paid p).val + m < U.top then (setAt out (atN out p.addr) (settled p (U.of m)),I.of .i64 0) else ([],I.of .i64 4):=by
    unfold b2G
    rw [if_pos (tabB_t.2 ht),if_pos hk,hkp,hmv,if_pos (show m ≤ (Post.due p).val from hmd)]
   rw [hst]
   by_cases hpd:(Post.paid p).val + m < U.top
   ·
    rw [if_pos hpd]
    simp only [show (I.of .i64 0).val = 0 from rfl,if_true]
    obtain ⟨k,hkk⟩:∃ k,k = atN out p.addr:=⟨_,rfl⟩
    rw [← hkk] at hk hkp ⊢
    have hT:TableOk (setAt out k (settled p (U.of m))):=f8K ht hk (e8O ((table_iff.1 ht).2.1 p (hin p (by simp)).1) (by rw [hmv]; exact hmd) (by rw [hmv]; exact hpd)) (by rw [hkp]; rfl)
    have ⟨hap1,hap2⟩:=List.pairwise_cons.1 hap
    have hlen:(setAt out k (settled p (U.of m))).length = out.length:=by rw [a6W,List.length_set]
    have haddr:∀ i,Post.addr (rdL dP (setAt out k (settled p (U.of m))) i) = Post.addr (rdL dP out i):=by
     intro i
     rw [b5H]
     split
     ·
      rename_i e
      rw [e.1,hkp]
      rfl
     ·
      rfl
    have hin':∀ q ∈ r,q ∈ setAt out k (settled p (U.of m))∧ow q = true:=by
     intro q hq
     have ⟨h1,h2⟩:=hin q (List.mem_cons_of_mem _ hq)
     refine ⟨?_,h2⟩
     obtain ⟨i,hi,e⟩:=b8W dP h1
     have hik:i ≠ k:=by
      rintro rfl
      rw [hkp] at e
      exact hap1 q hq (by rw [e])
     have:rdL dP (setAt out k (settled p (U.of m))) i = q:=by rw [b5H,if_neg (by omega),e]
     rw [← this]
     exact b7N dP _ i (by rw [hlen]; exact hi)
    have hsum:=f3N out k (settled p (U.of m)) hk
    rw [hkp] at hsum
    have hdn:b8H (settled p (U.of m)) = b8H p - m:=by
     show (U.of ((Post.due p).val - (U.of m).val)).val = _
     rw [hmv,U.val_of (by have:=U.lt (Post.due p); omega)]
     rfl
    have ham:amt (p.addr,(U.of m,())) = m:=hmv
    rcases d5W r (n - m) (setAt out k (settled p (U.of m))) (by omega) hT hin' hap2 with h | ⟨g1,g2,g3,g4,g5,g6,g7⟩
    ·
     exact .inl h
    ·
     refine .inr ⟨g1,g2,g3.trans hlen,fun i=>(g4 i).trans (haddr i),?_,fun i hi=>?_,fun t htl i hi he=>?_⟩
     ·
      simp only [List.map_cons,ham]
      have:a9O (m :: (b2Z r (n - m)).map amt) = m + a9O ((b2Z r (n - m)).map amt):=rfl
      rw [this]
      omega
     ·
      rw [g6 i (fun q hq=>by rw [haddr]; exact hi q (List.mem_cons_of_mem _ hq)),b5H,if_neg]
      rintro ⟨rfl,_⟩
      exact hi p (by simp) (by rw [hkp])
     ·
      cases t with
      | zero =>
       have hr:0 < (b2Z r (n - m)).length:=by simpa using htl
       have hmn:m ≠ n:=by
        rintro rfl
        rw [Nat.sub_self,c8O] at hr
        simp at hr
       have hmd:m = b8H p:=by omega
       have hik:i = k:=f0N ht hi hk (by rw [he,hkp]; rfl)
       subst hik
       have hpr:∀ q ∈ r,Post.addr q ≠ Post.addr (rdL dP (setAt out i (settled p (U.of m))) i):=fun q hq=>by
        rw [haddr,hkp]
        exact fun e=>hap1 q hq e.symm
       rw [g6 i hpr,b5H,if_pos ⟨rfl,hk⟩,hdn]
       omega
      | succ t =>
       exact g7 t (by simpa using htl) i (by rw [hlen]; exact hi) (by rw [haddr]; exact he)
   ·
    rw [if_neg hpd]
    exact .inl rfl
end Sym

/- Payments: a greater pool pays nobody less. -/
namespace Sym
open Go
theorem f6E {x:List Post} (hx:TableOk x) (n:U):f7N x n = (b2Z (ord x) n.val,I.of .i64 0):=if_pos (tabB_t.2 hx)
theorem g1I (x:List Post):(ord x).length ≤ x.length:=by rw [List.length_map]; exact e0G x
end Sym

/- Payments: the oldest debts first. -/
namespace Sym
open Go
end Sym

/- Payments: the payments total the smaller of the pool and the debts. -/
namespace Sym
open Go
end Sym

/- The length of a number in bits. -/
namespace Sym
open Go
def Bits (n k:Nat):Prop:=∀ m,k ≤ m ↔ n < 2 ^ m
theorem Bits.zero:Bits 0 0:=fun m=>⟨fun _=>Nat.pow_pos (by decide),fun _=>Nat.zero_le _⟩
end Sym

/- Pricer: the length of a number, who is found, shares of units. -/
namespace Sym
open Go
theorem Wp.jnI {X R:Type} {T:R→Prop} {J:X→R} {f:(X→R)→R} (h:Wp T (f J)):Wp T (Sym.jn J f):=h
def b7Z (units last upto now:I .u64):Nat:=if now.nat = last.nat then units.nat else units.nat * (upto.nat - last.nat) / (now.nat - last.nat)
theorem f2L {n:Nat} (h:n < 18446744073709551616):(U.of n).1 = I.of .u64 (n:Int):=by
 show I.of .u64 ((n % 18446744073709551616:Nat):Int) = _
 rw [Nat.mod_eq_of_lt h]
theorem d1V {x y:I .u64}:I.eqb x y = decide (x.nat = y.nat):=by
 have:=a1Y x
 have:=a1Y y
 by_cases h:x.nat = y.nat
 ·
  rw [decide_eq_true h]; exact iff_eqb.2 (by omega)
 ·
  rw [decide_eq_false h]; exact niff_eqb.2 (by omega)
theorem sub_nat_le' (a b:I .u64) (h:b.nat ≤ a.nat):(I.sub a b).nat = a.nat - b.nat:=by
 have:=a1Y a
 have:=a1Y b
 have:=f3T (a:=a) (b:=b) (by omega)
 have:=a1Y (I.sub a b)
 omega
theorem d1B {units last upto now:I .u64} (h1:last.nat ≤ upto.nat) (h2:upto.nat ≤ now.nat):b7Z units last upto now ≤ units.nat:=by
 unfold b7Z
 split
 ·
  omega
 ·
  refine Nat.div_le_of_le_mul ?_
  rw [Nat.mul_comm]
  exact Nat.mul_le_mul_right _ (by omega)
end Sym

/- Pricer: what its functions compute. -/
namespace Sym
open Go
abbrev PrT:Type:=a5M
abbrev PrT.price (s:PrT):U:=s.1
abbrev PrT.units (s:PrT):I .u64:=s.2.1
abbrev PrT.last (s:PrT):I .u64:=s.2.2.1
abbrev PrT.reports (s:PrT):I .u64:=s.2.2.2.1
abbrev PrT.surplus (s:PrT):S:=s.2.2.2.2.1
abbrev PrT.posters (s:PrT):List Post:=s.2.2.2.2.2.1
abbrev RepT:Type:=b4P
abbrev f4L:Type:=d0B
def Prm.rpu (p:Prm):U:=p.2.2.2.2.2.2.2.1
noncomputable def f8O (l:List Post) (n:I .u64):Bool:=l.all fun p=>decide ((Post.since p).nat ≤ n.nat)
noncomputable def prV (s:PrT):Bool:=f8O s.posters s.reports && (c5C s.posters && a9M s.surplus)
theorem prV_t {s:PrT}:prV s = true ↔ (∀ p ∈ s.posters,(Post.since p).nat ≤ s.reports.nat)∧TableOk s.posters∧a9M s.surplus = true:=by
 unfold prV f8O
 simp only [Bool.and_eq_true,List.all_eq_true,decide_eq_true_eq,tabB_t]
noncomputable def b9O (p:Post) (c w:U) (since:I .u64):Post :=
 (p.1,(U.of (p.due.val + (c.val + w.val)),(U.of (p.costs.val + c.val),(U.of (p.rewards.val + w.val),(p.paid,((if p.due.val = 0∧0 < p.due.val + (c.val + w.val) then since else p.since),()))))))
def e2O (p:Post) (c w:U):Prop:=p.due.val + (c.val + w.val) < U.top∧p.costs.val + c.val < U.top∧p.rewards.val + w.val < U.top
open Classical in
noncomputable def b7L (l:List Post) (a:I .u64) (c w:U) (since:I .u64):List Post × I .i64 :=
 if e2O (rdL dP l (atN l a)) c w then (setAt l (atN l a) (b9O (rdL dP l (atN l a)) c w since),I.of .i64 0) else ([],I.of .i64 4)
theorem f3V {n:Nat}:I.neb (c3X n).2 (I.of .i64 0) = decide (¬ n < U.top):=by
 by_cases h:n < U.top
 ·
  rw [c3Y h,decide_eq_false (by simpa using h)]; rfl
 ·
  rw [d6B (by omega),decide_eq_true h]; rfl
end Sym

/- Pricer: a report. -/
namespace Sym
open Go
abbrev RepT.from' (r:RepT):I .u64:=r.1
abbrev RepT.upto (r:RepT):I .u64:=r.2.1
abbrev RepT.cost (r:RepT):U:=r.2.2.1
abbrev c6L:Nat:=340282366920938463463374607431768211456
noncomputable def c5T (s:PrT) (p:Prm) (r:RepT) (now:I .u64):I .i64 :=
 if prV s = true then
  if a7E p = true then
   if atN s.posters r.from' < s.posters.length then
    if s.last.nat ≤ r.upto.nat∧r.upto.nat ≤ now.nat then
     if r.cost.val < c6L then
      if s.reports.nat = 18446744073709551615 then I.of .i64 4 else I.of .i64 0
     else I.of .i64 2
    else I.of .i64 14
   else I.of .i64 8
  else I.of .i64 15
 else I.of .i64 2
theorem g1X {n k:Nat} (h:Bits n k) (hk:k ≤ 256):I.ltb (I.of .i64 128) (i6 k) = decide (¬ n < c6L):=by
 have e:I.of .i64 128 = i6 128:=rfl
 rw [e,a2T (by omega) (by omega)]
 have:=h 128
 have e2:(2:Nat) ^ 128 = c6L:=by decide
 rw [e2] at this
 by_cases hc:n < c6L
 ·
  rw [decide_eq_false (by omega),decide_eq_false (by simpa using hc)]
 ·
  rw [decide_eq_true (by omega),decide_eq_true hc]
noncomputable abbrev zPr:PrT:=(Z_U,((I.of .u64 0),((I.of .u64 0),((I.of .u64 0),(a2Q,([],()))))))
noncomputable abbrev g4E:f4L:=(I.of .u64 0,(Z_U,([],())))
def c3W (s:PrT) (r:RepT) (now:I .u64):Nat:=b7Z s.units s.last r.upto now
noncomputable def c3Z (pool:U) (l:List Post) (pay:List Pay):S:=S.of (((pool.val - a9O (pay.map amt):Nat):Int) - (a9O (l.map b8H):Int))
open Classical in
noncomputable def c6Q (s:PrT) (p:Prm) (pool:U) (t:f4L):PrT × I .i64 :=
 if a9O (s.posters.map b8H) < U.top then
  if t.1.nat = 0 then (s,I.of .i64 0)
  else if I.neb (c2V s.price (c3Z pool s.posters t.2.2.1) s.surplus t.1 p).2 (I.of .i64 0) = true then (zPr,(c2V s.price (c3Z pool s.posters t.2.2.1) s.surplus t.1 p).2)
  else (((c2V s.price (c3Z pool s.posters t.2.2.1) s.surplus t.1 p).1,(s.units,(s.last,(s.reports,(c3Z pool s.posters t.2.2.1,(s.posters,())))))),I.of .i64 0)
 else (zPr,I.of .i64 4)
end Sym

/- Pricer: a report as a whole. -/
namespace Sym
open Go
theorem d4E {l:List Post} {a:I .u64} {c w:U} {since:I .u64} (hT:TableOk l) (hf:atN l a < l.length) (hs:since.nat ≠ 0) :
  ((b7L l a c w since).2 = I.of .i64 4∧(b7L l a c w since).1 = []) ∨
  ((b7L l a c w since).2 = I.of .i64 0∧e2O (rdL dP l (atN l a)) c w∧(b7L l a c w since).1 = setAt l (atN l a) (b9O (rdL dP l (atN l a)) c w since)∧TableOk (b7L l a c w since).1):=by
 unfold b7L
 split
 ·
  rename_i h
  refine .inr ⟨rfl,h,rfl,?_⟩
  have hv:=a1Y since
  refine f8K hT hf ?_ rfl
  refine e7M (hT.2 _ hf).1 c w since (by omega) h.1 h.2.1 h.2.2 _ ?_
  by_cases hd:(Post.due (rdL dP l (atN l a))).val = 0∧0 < (Post.due (rdL dP l (atN l a))).val + (c.val + w.val)
  ·
   rw [if_pos hd]; exact .inl ⟨rfl,hd.1,hd.2⟩
  ·
   rw [if_neg hd]; exact .inr ⟨rfl,hd⟩
 ·
  exact .inl ⟨rfl,rfl⟩
noncomputable def b4V (s:PrT) (p:Prm) (r:RepT) (now:I .u64):List Post × I .i64:=b7L s.posters r.from' r.cost (U.of (p.rpu.val * c3W s r now)) (I.add s.reports (I.of .u64 1))
noncomputable def a2C (l:List Post) (pool:U):List Pay:=b2Z (ord l) pool.val
noncomputable def c1N (s:PrT) (l:List Post):PrT:=(s.price,(s.units,(s.last,(I.add s.reports (I.of .u64 1),(s.surplus,(l,()))))))
noncomputable def b9Q (s:PrT) (p:Prm) (r:RepT) (now:I .u64) (pay:List Pay):f4L:=(I.of .u64 (c3W s r now:Int),(U.of (p.rpu.val * c3W s r now),(pay,())))
noncomputable def g5G (s:PrT) (n:Nat) (r:RepT) (q:PrT):PrT:=(q.1,(I.sub q.2.1 (I.of .u64 (n:Int)),(r.upto,q.2.2.2)))
noncomputable def b3J (s:PrT) (p:Prm) (pool:U) (r:RepT) (now:I .u64):PrT × f4L × I .i64 :=
 if (c5T s p r now).val = 0 then
  if p.rpu.val * c3W s r now < U.top then
   if (b4V s p r now).2.val = 0 then
    if (a2Y (b4V s p r now).1 (a2C (b4V s p r now).1 pool)).2.val = 0 then
     if (c6Q (c1N s (a2Y (b4V s p r now).1 (a2C (b4V s p r now).1 pool)).1) p pool (b9Q s p r now (a2C (b4V s p r now).1 pool))).2.val = 0 then
      (g5G s (c3W s r now) r (c6Q (c1N s (a2Y (b4V s p r now).1 (a2C (b4V s p r now).1 pool)).1) p pool (b9Q s p r now (a2C (b4V s p r now).1 pool))).1,b9Q s p r now (a2C (b4V s p r now).1 pool),I.of .i64 0)
     else (zPr,g4E,I.of .i64 4)
    else (zPr,g4E,I.of .i64 4)
   else (zPr,g4E,I.of .i64 4)
  else (zPr,g4E,I.of .i64 4)
 else (zPr,g4E,c5T s p r now)
structure Chk (s:PrT) (p:Prm) (r:RepT) (now:I .u64):Prop where
 since:∀ q ∈ s.posters,(Post.since q).nat ≤ s.reports.nat
 tab:TableOk s.posters
 sur:a9M s.surplus = true
 par:a7E p = true
 fnd:atN s.posters r.from' < s.posters.length
 lo:s.last.nat ≤ r.upto.nat
 hi:r.upto.nat ≤ now.nat
 cost:r.cost.val < c6L
 cnt:s.reports.nat < 18446744073709551615
theorem d4P {s:PrT} {p:Prm} {r:RepT} {now:I .u64} (h:(c5T s p r now).val = 0):Chk s p r now:=by
 unfold c5T at h
 split at h
 ·
  rename_i h1
  split at h
  ·
   rename_i h2
   split at h
   ·
    rename_i h3
    split at h
    ·
     rename_i h4
     split at h
     ·
      rename_i h5
      split at h
      ·
       exact absurd h (by decide)
      ·
       rename_i h6
       have ⟨a,b,c⟩:=prV_t.1 h1
       have:=a3E s.reports
       exact ⟨a,b,c,h2,h3,h4.1,h4.2,h5,by omega⟩
     ·
      exact absurd h (by decide)
    ·
     exact absurd h (by decide)
   ·
    exact absurd h (by decide)
  ·
   exact absurd h (by decide)
 ·
  exact absurd h (by decide)
theorem d1U {s:PrT} {p:Prm} {r:RepT} {now:I .u64} (h:Chk s p r now):(I.add s.reports (I.of .u64 1)).nat = s.reports.nat + 1:=by
 have:=h.cnt
 have:=a1Y s.reports
 have h1:(I.of .u64 1).val = 1:=rfl
 have:=e2Q (a:=s.reports) (b:=I.of .u64 1) (by omega)
 have:=a1Y (I.add s.reports (I.of .u64 1))
 omega
theorem d4R (l:List Post) (pool:U):(a2C l pool).length ≤ l.length:=Nat.le_trans (e1A _ _) (g1I l)
theorem d4L (l:List Post) (pool:U):a9O ((a2C l pool).map amt) = min pool.val (a9O (l.map b8H)):=by
 unfold a2C
 rw [e5K (ord l) pool.val pool.lt,g2C]
theorem d9M {l:List Post} (hT:TableOk l) (pool:U) :
  (a2Y l (a2C l pool)).2 = I.of .i64 4 ∨ ((a2Y l (a2C l pool)).2 = I.of .i64 0∧TableOk (a2Y l (a2C l pool)).1∧(a2Y l (a2C l pool)).1.length = l.length ∧
   (∀ i,Post.addr (rdL dP (a2Y l (a2C l pool)).1 i) = Post.addr (rdL dP l i))∧a9O ((a2Y l (a2C l pool)).1.map b8H) + a9O ((a2C l pool).map amt) = a9O (l.map b8H)):=by
 rcases d5W (ord l) pool.val l pool.lt hT (fun p hp=>g2L hp) (e9U hT) with h | ⟨h1,h2,h3,h4,h5,_,_⟩
 ·
  exact .inl h
 ·
  exact .inr ⟨h1,h2,h3,h4,h5⟩
theorem b6D:(I.of .i64 4).val ≠ 0:=by decide
end Sym

/- Pricer: posters and units added. -/
namespace Sym
open Go
noncomputable def f8P (a:I .u64):Post:=(a,(Z_U,(Z_U,(Z_U,(Z_U,((I.of .u64 0),()))))))
noncomputable def d0M:List Post→I .u64→List Post
 | [],a=>[f8P a]
 | p :: r,a=>if (Post.addr p).nat < a.nat then p :: d0M r a else f8P a :: p :: r
theorem e9S {l:List Post} {a:I .u64} {i:Nat} (hi:i < l.length) (h:(Post.addr (rdL dP l i)).nat < a.nat):d0M (l.drop i) a = rdL dP l i :: d0M (l.drop (i + 1)) a:=by
 rw [List.drop_eq_getElem_cons hi,← a4G dP l i hi]
 exact if_pos h
theorem f4C {l:List Post} {a:I .u64} {i:Nat} (hi:i < l.length) (h:¬ (Post.addr (rdL dP l i)).nat < a.nat):d0M (l.drop i) a = f8P a :: l.drop i:=by
 rw [List.drop_eq_getElem_cons hi,← a4G dP l i hi]
 exact if_neg h
theorem d0F:∀ {l:List Post} {a:I .u64} {p:Post},p ∈ d0M l a→p = f8P a ∨ p ∈ l
 | [],a,p,h=>by simp only [d0M,List.mem_singleton] at h; exact .inl h
 | q :: r,a,p,h=>by
  unfold d0M at h
  split at h
  ·
   rcases List.mem_cons.1 h with rfl | h
   ·
    exact .inr (List.mem_cons_self ..)
   ·
    rcases d0F h with h | h
    ·
     exact .inl h
    ·
     exact .inr (List.mem_cons_of_mem _ h)
  ·
   rcases List.mem_cons.1 h with rfl | h
   ·
    exact .inl rfl
   ·
    exact .inr h
theorem d6C:∀ (l:List Post) (a:I .u64),(d0M l a).length = l.length + 1
 | [],a=>rfl
 | p :: r,a=>by
  unfold d0M
  split
  ·
   simp [d6C r a]
  ·
   rfl
theorem d3A:∀ {l:List Post} {a:I .u64},(l.Pairwise fun p q=>(Post.addr p).val < (Post.addr q).val)→(∀ p ∈ l,(Post.addr p).val ≠ a.val)→(d0M l a).Pairwise fun p q=>(Post.addr p).val < (Post.addr q).val
 | [],a,_,_=>by simp [d0M]
 | p :: r,a,h,hn=>by
  have hp:=hn p (List.mem_cons_self ..)
  have ⟨h1,h2⟩:=List.pairwise_cons.1 h
  have e1:=a1Y (Post.addr p)
  have e2:=a1Y a
  unfold d0M
  split
  ·
   rename_i hlt
   refine List.pairwise_cons.2 ⟨fun q hq=>?_,d3A h2 fun q hq=>hn q (List.mem_cons_of_mem _ hq)⟩
   rcases d0F hq with rfl | hq
   ·
    show (Post.addr p).val < a.val; omega
   ·
    exact h1 q hq
  ·
   rename_i hge
   refine List.pairwise_cons.2 ⟨fun q hq=>?_,h⟩
   show a.val < _
   rcases List.mem_cons.1 hq with rfl | hq
   ·
    omega
   ·
    have:=h1 q hq; omega
theorem g0H {l:List Post} {a:I .u64} (hT:TableOk l) (ha:a.nat ≠ 0) (hf:¬ atN l a < l.length) (h64:l.length ≠ 64):TableOk (d0M l a):=by
 have ⟨h1,h2,h3⟩:=table_iff.1 hT
 have hv:=a1Y a
 refine table_iff.2 ⟨by rw [d6C]; omega,fun p hp=>?_,d3A h3 fun p hp=>?_⟩
 ·
  rcases d0F hp with rfl | hp
  ·
   exact g1Q (by omega)
  ·
   exact h2 p hp
 ·
  obtain ⟨k,hk,rfl⟩:=b8W dP hp
  exact e6T hf k hk
open Classical in
noncomputable def c8C (l:List Post) (a:I .u64):List Post × I .i64 :=
 if c5C l = true∧a.nat ≠ 0 then
  if atN l a < l.length then ([],I.of .i64 9)
  else if l.length = 64 then ([],I.of .i64 7) else (d0M l a,I.of .i64 0)
 else ([],I.of .i64 2)
theorem f9X {l:List Post} {a:I .u64} (hl:l.length ≤ 1073741824):I.leb (I.of .i64 0) (atI l a) = decide (atN l a < l.length):=by
 have:=d7O (l:=l) (a:=a) hl
 by_cases h:atN l a < l.length
 ·
  rw [decide_eq_false (by simpa using h)] at this
  rw [decide_eq_true h]
  exact iff_leb.2 (niff_ltb.1 this)
 ·
  rw [decide_eq_true h] at this
  rw [decide_eq_false h]
  exact niff_leb.2 (iff_ltb.1 this)
open Classical in
noncomputable def a5Z (s:PrT) (a:I .u64):PrT × I .i64 :=
 if prV s = true then
  if (c8C s.posters a).2.val = 0 then ((s.price,(s.units,(s.last,(s.reports,(s.surplus,((c8C s.posters a).1,())))))),I.of .i64 0)
  else (zPr,(c8C s.posters a).2)
 else (zPr,I.of .i64 2)
noncomputable def a4H (s:PrT) (n:I .u64):PrT × I .i64 :=
 if prV s = true then
  if s.units.nat + n.nat < 18446744073709551616 then ((s.price,(I.of .u64 ((s.units.nat + n.nat:Nat):Int),s.2.2)),I.of .i64 0)
  else (zPr,I.of .i64 4)
 else (zPr,I.of .i64 2)
end Sym

/- Pricer: what an accepted report has done. -/
namespace Sym
open Go
theorem d4H {Q:Post→Prop} (hQ:∀ p n,Q p→Q (settled p n)):∀ (ps:List Pay) (l:List Post),(∀ q ∈ l,Q q)→∀ q ∈ (a2Y l ps).1,Q q
 | [],l,h=>h
 | y :: ps,l,h=>by
  simp only [a2Y]
  split
  ·
   refine d4H hQ ps _ fun q hq=>?_
   unfold b2G at hq
   split at hq
   ·
    split at hq
    ·
     split at hq
     ·
      split at hq
      ·
       obtain ⟨i,hi,rfl⟩:=b8W dP hq
       rw [b5H]
       split
       ·
        rename_i hk _ _ _
        exact hQ _ _ (h _ (b7N dP l _ hk))
       ·
        refine h _ (b7N dP l _ ?_)
        have:(setAt l (atN l y.1) (settled (rdL dP l (atN l y.1)) y.2.1)).length = l.length:=by rw [a6W,List.length_set]
        rw [← this]; exact hi
      ·
       cases hq
     ·
      cases hq
    ·
     cases hq
   ·
    cases hq
  ·
   intro q hq; cases hq
noncomputable def a9R (s:PrT) (p:Prm) (r:RepT) (now:I .u64):List Post :=
 setAt s.posters (atN s.posters r.from') (b9O (rdL dP s.posters (atN s.posters r.from')) r.cost (U.of (p.rpu.val * c3W s r now)) (I.add s.reports (I.of .u64 1)))
structure RepOk (s:PrT) (p:Prm) (pool:U) (r:RepT) (now:I .u64) (x:PrT) (t:f4L):Prop where
 chk:Chk s p r now
 w:p.rpu.val * c3W s r now < U.top
 fits:e2O (rdL dP s.posters (atN s.posters r.from')) r.cost (U.of (p.rpu.val * c3W s r now))
 tab1:TableOk (a9R s p r now)
 ap:(a2Y (a9R s p r now) (a2C (a9R s p r now) pool)).2.val = 0
 tab2:TableOk x.posters
 len:x.posters.length = s.posters.length
 addr:∀ i,Post.addr (rdL dP x.posters i) = Post.addr (rdL dP s.posters i)
 posters:x.posters = (a2Y (a9R s p r now) (a2C (a9R s p r now) pool)).1
 due:a9O (x.posters.map b8H) + a9O ((a2C (a9R s p r now) pool).map amt) = a9O ((a9R s p r now).map b8H)
 total:a9O (x.posters.map b8H) < U.top
 units:x.units = I.sub s.units (I.of .u64 (c3W s r now:Int))
 last:x.last = r.upto
 reports:x.reports = I.add s.reports (I.of .u64 1)
 surplus:x.surplus = (if c3W s r now = 0 then s.surplus else c3Z pool x.posters (a2C (a9R s p r now) pool))
 price:x.price = (if c3W s r now = 0 then s.price else (c2V s.price (c3Z pool x.posters (a2C (a9R s p r now) pool)) s.surplus (I.of .u64 (c3W s r now:Int)) p).1)
 out:t = b9Q s p r now (a2C (a9R s p r now) pool)
theorem e2B {s:PrT} {p:Prm} {r:RepT} {now:I .u64} (h:Chk s p r now):c3W s r now ≤ s.units.nat∧(I.of .u64 (c3W s r now:Int)).nat = c3W s r now:=by
 have h1:=d1B (units:=s.units) h.lo h.hi
 have h2:=a3E s.units
 exact ⟨h1,b5Q (by unfold c3W; omega)⟩
theorem f8S {s:PrT} {p:Prm} {pool:U} {r:RepT} {now:I .u64} (h:(b3J s p pool r now).2.2.val = 0):RepOk s p pool r now (b3J s p pool r now).1 (b3J s p pool r now).2.1:=by
 unfold b3J at h ⊢
 by_cases h0:(c5T s p r now).val = 0
 case neg=>rw [if_neg h0] at h; exact absurd h h0
 rw [if_pos h0] at h ⊢
 have hC:=d4P h0
 by_cases hw:p.rpu.val * c3W s r now < U.top
 case neg=>rw [if_neg hw] at h; exact absurd h b6D
 rw [if_pos hw] at h ⊢
 have hcnt:=d1U hC
 have ⟨hn1,hn2⟩:=e2B hC
 have hA:=d4E (c:=r.cost) (w:=U.of (p.rpu.val * c3W s r now)) (since:=I.add s.reports (I.of .u64 1)) hC.tab hC.fnd (by rw [hcnt]; omega)
 rw [show b7L s.posters r.from' r.cost (U.of (p.rpu.val * c3W s r now)) (I.add s.reports (I.of .u64 1)) = b4V s p r now from rfl] at hA
 rcases hA with ⟨hA,_⟩ | ⟨hA,hfit,hl1,hT⟩
 ·
  rw [if_neg (by rw [hA]; exact b6D)] at h; exact absurd h b6D
 rw [if_pos (by rw [hA]; rfl)] at h ⊢
 have hl1:(b4V s p r now).1 = a9R s p r now:=hl1
 rw [hl1] at h ⊢
 rw [hl1] at hT
 rcases d9M hT pool with hB | ⟨hB,hT2,hlen,hadr,hdue⟩
 ·
  rw [if_neg (by rw [hB]; exact b6D)] at h; exact absurd h b6D
 have hB0:(a2Y (a9R s p r now) (a2C (a9R s p r now) pool)).2.val = 0:=by rw [hB]; rfl
 rw [if_pos hB0] at h ⊢
 have hl0:(a9R s p r now).length = s.posters.length:=by unfold a9R; rw [a6W,List.length_set]
 have ha0:∀ i,Post.addr (rdL dP (a9R s p r now) i) = Post.addr (rdL dP s.posters i):=by
  intro i
  unfold a9R
  rw [b5H]
  split
  ·
   rename_i e; rw [e.1]; rfl
  ·
   rfl
 by_cases hD:(c6Q (c1N s (a2Y (a9R s p r now) (a2C (a9R s p r now) pool)).1) p pool (b9Q s p r now (a2C (a9R s p r now) pool))).2.val = 0
 case neg=>rw [if_neg hD] at h; exact absurd h b6D
 rw [if_pos hD] at h ⊢
 have key:a9O ((a2Y (a9R s p r now) (a2C (a9R s p r now) pool)).1.map b8H) < U.top ∧
   (c6Q (c1N s (a2Y (a9R s p r now) (a2C (a9R s p r now) pool)).1) p pool (b9Q s p r now (a2C (a9R s p r now) pool))).1 =
    ((if c3W s r now = 0 then s.price else (c2V s.price (c3Z pool (a2Y (a9R s p r now) (a2C (a9R s p r now) pool)).1 (a2C (a9R s p r now) pool)) s.surplus (I.of .u64 (c3W s r now:Int)) p).1),
     (s.units,(s.last,(I.add s.reports (I.of .u64 1),((if c3W s r now = 0 then s.surplus else c3Z pool (a2Y (a9R s p r now) (a2C (a9R s p r now) pool)).1 (a2C (a9R s p r now) pool)),((a2Y (a9R s p r now) (a2C (a9R s p r now) pool)).1,())))))):=by
  unfold c6Q at hD ⊢
  have e1:(c1N s (a2Y (a9R s p r now) (a2C (a9R s p r now) pool)).1).posters = (a2Y (a9R s p r now) (a2C (a9R s p r now) pool)).1:=rfl
  have e2:(b9Q s p r now (a2C (a9R s p r now) pool)).1.nat = c3W s r now:=hn2
  rw [e1] at hD ⊢
  split at hD
  ·
   rename_i hs
   refine ⟨hs,?_⟩
   rw [if_pos hs]
   rw [e2] at hD ⊢
   split at hD
   ·
    rename_i hz
    rw [if_pos hz,if_pos hz,if_pos hz]
    rfl
   ·
    rename_i hz
    rw [if_neg hz,if_neg hz,if_neg hz]
    split at hD
    ·
     rename_i hN
     exact absurd hD (iff_neb.1 hN)
    ·
     rename_i hN
     rw [if_neg hN]
     rfl
  ·
   exact absurd hD b6D
 rw [key.2]
 exact ⟨hC,hw,hfit,hT,hB0,hT2,hlen.trans hl0,fun i=>(hadr i).trans (ha0 i),rfl,hdue,key.1,rfl,rfl,rfl,rfl,rfl,rfl⟩
theorem f1F {s:PrT} {p:Prm} {pool:U} {r:RepT} {now:I .u64} {x:PrT} {t:f4L} (h:RepOk s p pool r now x t):prV x = true:=by
 have hcnt:=d1U h.chk
 refine prV_t.2 ⟨?_,h.tab2,?_⟩
 ·
  rw [h.reports,hcnt,h.posters]
  refine d4H (Q:=fun q=>(Post.since q).nat ≤ s.reports.nat + 1) ?_ _ _ ?_
  ·
   intro q n hq
   show (if _ then I.of .u64 0 else q.since).nat ≤ _
   split
   ·
    exact Nat.zero_le _
   ·
    exact hq
  ·
   intro q hq
   obtain ⟨i,hi,rfl⟩:=b8W dP hq
   unfold a9R at hi ⊢
   rw [a6W,List.length_set] at hi
   rw [b5H]
   split
   ·
    show (if _ then I.add s.reports (I.of .u64 1) else Post.since _).nat ≤ _
    split
    ·
     rw [hcnt]; exact Nat.le_refl _
    ·
     have:=h.chk.since _ (b7N dP s.posters _ h.chk.fnd)
     exact Nat.le_succ_of_le this
   ·
    have:=h.chk.since _ (b7N dP s.posters i hi)
    omega
 ·
  rw [h.surplus]
  split
  ·
   exact h.chk.sur
  ·
   unfold c3Z
   have:=pool.lt
   have:=h.total
   refine S.of_valid ?_
   omega
end Sym

/- Pricer: the reference's parts. -/
namespace Sym
open Go
theorem f5Y {n i:Nat}:n % 2 ^ (i + 1) = n % 2 ^ i + 2 ^ i * (n / 2 ^ i % 2):=by
 rw [Nat.pow_succ,Nat.mod_mul]
theorem Bits.top {m i:Nat} (h1:2 ^ i ≤ m) (h2:m < 2 ^ (i + 1)):Bits m (i + 1):=by
 intro k
 constructor
 ·
  intro h; exact Nat.lt_of_lt_of_le h2 (Nat.pow_le_pow_right (by decide) h)
 ·
  intro h
  refine Classical.byContradiction fun hk=>?_
  have:2 ^ k ≤ 2 ^ i:=Nat.pow_le_pow_right (by decide) (by omega)
  omega
theorem e8N (a:U):∃ y,b2B K0 ((a,()),()) = some y∧∃ k,y = ((i6 k,()),())∧Bits a.val k∧k ≤ 256:=by
 refine Wp.out (T:=fun o=>∃ y,o = some y∧∃ k,y = ((i6 k,()),())∧Bits a.val k∧k ≤ 256) ?_
 unfold b2B
 have e256:I.of .i64 256 = i6 256:=rfl
 have e64:I.of .i64 64 = i6 64:=rfl
 simp only [c0K,b4T,e256,e64]
 refine Wp.iter (fun s=>∃ i n,s = ((i6 n,(i6 i,())),(a,()))∧i ≤ 256∧n ≤ i∧Bits (a.val % 2 ^ i) n) (fun s=>256 - s.1.2.1.val.toNat) ?_ ⟨0,0,rfl,by omega,by omega,by rw [Nat.pow_zero,Nat.mod_one]; exact Bits.zero⟩ (by rw [a6Y]; show 256 - _ < _; omega)
 rintro s ⟨i,n,rfl,hi,hn,hB⟩
 simp only [a2T (show i < 9223372036854775808 by omega) (show 256 < 9223372036854775808 by omega),a3S (show i + 1 < 9223372036854775808 by omega)]
 refine Wp.brn (fun hc=>?_) (fun hc=>?_)
 ·
  have hc:=of_decide_eq_true hc
  have hm:256 - (i6 (i + 1)).val.toNat < 256 - (i6 i).val.toNat:=by rw [a0V (by omega),a0V (by omega)]; omega
  have hq:I.quo (i6 i) (i6 64) = i6 (i / 64):=by
   apply I.ext'
   rw [b9B (by rw [a0V (by omega)]; omega) (by rw [a0V (by omega)]; omega),a0V (by omega),a0V (by omega),a0V (by omega)]
   omega
  have hr:I.rem (i6 i) (i6 64) = i6 (i % 64):=by
   apply I.ext'
   rw [b7O (by rw [a0V (by omega)]; omega) (by rw [a0V (by omega)]; omega),a0V (by omega),a0V (by omega),a0V (by omega)]
   omega
  have hcv:(I.conv (k:=.i64) .u64 (i6 (i % 64))).val = ((i % 64:Nat):Int):=by
   show (I.of .u64 (i6 (i % 64)).val).val = _
   rw [a0V (by omega),b9N (by omega)]
  have hcn:(I.conv (k:=.i64) .u64 (i6 (i % 64))).nat = i % 64:=by
   have:=a1Y (I.conv (k:=.i64) .u64 (i6 (i % 64)))
   omega
  simp only [hq,hr,a3G (show i / 64 < 9223372036854775808 by omega)]
  refine Wp.brnT (a3T (by omega) (by omega)) (Wp.brnT (iff_nn.2 (by rw [hcv]; omega)) ?_)
  have hsh:(I.shr (Arr.sel (I.of .u64 0) 4 a (i / 64)) (I.conv (k:=.i64) .u64 (i6 (i % 64)))).nat = limb' a (i / 64) / 2 ^ (i % 64):=by
   have h:=g3W (Arr.sel (I.of .u64 0) 4 a (i / 64)) (I.conv (k:=.i64) .u64 (i6 (i % 64))) (by rw [hcn]; omega)
   rw [hcn] at h
   exact h
  have hb:(I.and (I.shr (Arr.sel (I.of .u64 0) 4 a (i / 64)) (I.conv (k:=.i64) .u64 (i6 (i % 64)))) (I.of .u64 1)).nat = a.val / 2 ^ i % 2:=by
   rw [g0R _ 1 _ (by decide) (by rfl),hsh,g5Y a i (by omega)]
  have hs:=f5Y (n:=a.val) (i:=i)
  have hlt:a.val % 2 ^ i < 2 ^ i:=Nat.mod_lt _ (Nat.pow_pos (by decide))
  rw [d1V,hb,show (I.of .u64 1).nat = 1 from rfl]
  refine Wp.brn (fun h=>?_) (fun h=>?_)
  ·
   have h:=of_decide_eq_true h
   rw [h,Nat.mul_one] at hs
   refine Wp.again ⟨i + 1,i + 1,rfl,by omega,by omega,?_⟩ hm
   exact Bits.top (by rw [hs]; omega) (by rw [hs,Nat.pow_succ]; omega)
  ·
   have h:=of_decide_eq_false h
   have h0:a.val / 2 ^ i % 2 = 0:=by omega
   rw [h0,Nat.mul_zero,Nat.add_zero] at hs
   exact Wp.again ⟨i + 1,n,rfl,by omega,by omega,by rw [hs]; exact hB⟩ hm
 ·
  have hc:=of_decide_eq_false hc
  have hi':i = 256:=by omega
  subst hi'
  have ha:=a.lt
  rw [g1M] at ha
  rw [Nat.mod_eq_of_lt ha] at hB
  exact Wp.done ⟨_,rfl,n,rfl,hB,hn⟩
theorem e7W (a b:U):b1M K0 ((a,(b,())),()) = some (((c3X (a.val * b.val)).1,((c3X (a.val * b.val)).2,())),()):=by
 refine Wp.out (T:=fun o=>o = _) ?_
 unfold b1M
 refine Wp.call (b2L a) ?_
 rintro _ ⟨x,rfl,hx⟩
 refine Wp.call (b2L b) ?_
 rintro _ ⟨y,rfl,hy⟩
 obtain ⟨z,hz,hz2⟩:=b2O hx hy (c1B hx) (c1B hy)
 refine Wp.optF hz (Wp.optF (Checked_ok' hz2 ?_) rfl)
 refine a9H hz2 64 ?_ (by decide)
 have h1:=a.lt
 have h2:=b.lt
 have h3:a.val * b.val < U.top * U.top:=Nat.mul_lt_mul_of_lt_of_le h1 (Nat.le_of_lt h2) (by decide)
 exact Nat.lt_trans h3 (by decide)
theorem e9T (units last upto now:I .u64) (h1:last.nat ≤ upto.nat) (h2:upto.nat ≤ now.nat) :
  a9J K0 ((units,(last,(upto,(now,())))),()) = some ((I.of .u64 (b7Z units last upto now:Int),(I.of .i64 0,())),()):=by
 have hle:=d1B (units:=units) h1 h2
 have hu:=a3E units
 refine Wp.out (T:=fun o=>o = _) ?_
 unfold a9J
 refine Wp.jnI ?_
 simp only [c3C]
 refine Wp.brnF (decide_eq_false (by omega)) (Wp.brnF (decide_eq_false (by omega)) ?_)
 simp only [d1V]
 refine Wp.brn (fun h=>?_) (fun h=>?_)
 ·
  have h:=of_decide_eq_true h
  have:I.of .u64 (b7Z units last upto now:Int) = units:=by
   unfold b7Z
   rw [if_pos h,a1Y]
   exact I.ext' units.ok
  rw [this]
  rfl
 ·
  have h:=of_decide_eq_false h
  have d1:=sub_nat_le' upto last h1
  have d2:=sub_nat_le' now last (by omega)
  obtain ⟨x,gx,hx⟩:=a1J units
  obtain ⟨y,gy,hy⟩:=a1J (I.sub upto last)
  obtain ⟨z,gz,hz⟩:=a1J (I.sub now last)
  obtain ⟨m,gm,hm⟩:=b2O hx hy (Nat.le_trans (e3I hx) (by decide)) (Nat.le_trans (e3I hy) (by decide))
  have hml:m.length ≤ 1000000:=by
   refine a9H hm 64 ?_ (by decide)
   have:=a3E (I.sub upto last)
   exact Nat.lt_trans (Nat.mul_lt_mul_of_lt_of_le hu (Nat.le_of_lt this) (by decide)) (by decide)
  obtain ⟨q,r,gq,hq,_⟩:=c4X hm hz (by omega) hml (Nat.le_trans (e3I hz) (by decide))
  have e:b7Z units last upto now = units.nat * (upto.nat - last.nat) / (now.nat - last.nat):=if_neg h
  rw [d1,d2,← e] at hq
  refine Wp.optF gx (Wp.optF gy (Wp.optF gm (Wp.optF gz (Wp.optF gq (Wp.optF (a3B hq (Nat.lt_trans (Nat.lt_of_le_of_lt hle hu) (by decide))) ?_)))))
  show some (((U.of (b7Z units last upto now)).1,(I.of .i64 0,())),()) = _
  rw [f2L (by omega)]
theorem e0M {l:List Post} (hl:l.length ≤ 1073741824) (hT:TableOk l):a9E K0 ((l,()),()) = some (((c3X (a9O (l.map b8H))).1,((c3X (a9O (l.map b8H))).2,())),()):=by
 refine Wp.out (T:=fun o=>o = _) ?_
 unfold a9E
 simp only [a7C,a8Z,c0K,b4T]
 refine Wp.optF (c1R hl) (Wp.brnF (f3W hT) ?_)
 have h64:=hT.1
 have hb:∀ i,a9O ((l.take i).map b8H) ≤ 64 * U.top:=fun i=>by
  have h1:=c9A b8H U.top (fun p=>U.lt _) (l.take i)
  have h2:(l.take i).length * U.top ≤ 64 * U.top:=Nat.mul_le_mul_right _ (by rw [List.length_take]; omega)
  omega
 have hbig:64 * U.top < 65536 ^ 64:=by decide
 refine Wp.iter (fun s=>∃ i b,s = ((l,(b,(i6 i,()))),(Z_U,()))∧i ≤ l.length∧IsB b (a9O ((l.take i).map b8H))) (fun s=>l.length - s.1.2.2.1.val.toNat) ?_ ⟨0,[],rfl,by omega,d2E⟩ (by rw [a6Y]; show l.length - _ < _; omega)
 rintro s ⟨i,b,rfl,hi,hB⟩
 simp only [a2T (show i < 9223372036854775808 by omega) (show l.length < 9223372036854775808 by omega),a3G (show i < 9223372036854775808 by omega),a3S (show i + 1 < 9223372036854775808 by omega)]
 have hbl:b.length ≤ 1000000:=a9H hB 64 (by have:=hb i; omega) (by decide)
 refine Wp.brn (fun hc=>?_) (fun hc=>?_)
 ·
  have hc:=of_decide_eq_true hc
  refine Wp.brnT (a3T (by omega) (by omega)) ?_
  refine Wp.call (b2L (Post.due (rdL dP l i))) ?_
  rintro _ ⟨x,rfl,hx⟩
  obtain ⟨z,gz,hz⟩:=b2K hB hx hbl (c1B hx)
  refine Wp.optF gz ?_
  exact Wp.again ⟨i + 1,z,rfl,by omega,by rw [e0B dP b8H hc]; exact hz⟩ (by show l.length - (i6 (i + 1)).val.toNat < l.length - (i6 i).val.toNat; rw [a0V (by omega),a0V (by omega)]; omega)
 ·
  have hc:=of_decide_eq_false hc
  rw [List.take_of_length_le (by omega)] at hB
  exact Wp.done (Wp.optF (Checked_ok' hB hbl) rfl)
end Sym

/- Pricer: the reference computes the same. -/
namespace Sym
open Go
theorem e8G (l:List Post) (a:I .u64) (c w:U) (since:I .u64) (h:TableOk l) (hf:atN l a < l.length) (hs:since.nat ≠ 0) :
  b0X K0 ((l,(a,(c,(w,(since,()))))),()) = some (((b7L l a c w since).1,((b7L l a c w since).2,())),()):=by
 refine Wp.out (T:=fun o=>o = _) ?_
 have hl:=h.1
 unfold b0X b7L
 refine Wp.jnI (Wp.optF (c1R (l:=l) (by omega)) (Wp.brnF (f3W h) (Wp.brnF (by rw [d1V]; exact decide_eq_false hs) ?_)))
 refine Wp.optF (d0Q (l:=l) a (by omega)) ?_
 have e:atI l a = i6 (atN l a):=if_pos hf
 rw [e]
 have hE:=(h.2 _ hf).1
 generalize atN l a = k at hf hE ⊢
 refine Wp.brnF (by rw [c0K,a2T (by omega) (by omega)]; exact decide_eq_false (by omega)) ?_
 have en:a2A ([]:List Post) l = l:=rfl
 simp only [a3G (show k < 9223372036854775808 by omega),pw,d2G,b5H,en]
 simp only [true_and,hf,if_true]
 have bi:inB (i6 k) l.length = true:=a3T hf (by omega)
 generalize rdL dP l k = p at *
 refine Wp.brnT (a8P (by show l.length ≤ _; omega)) (Wp.brnT bi ?_)
 refine Wp.call (b2L (Post.due p)) ?_
 rintro _ ⟨d1,rfl,b1⟩
 refine Wp.call (b2L c) ?_
 rintro _ ⟨d2,rfl,b2⟩
 refine Wp.call (b2L w) ?_
 rintro _ ⟨d3,rfl,b3⟩
 have t1:=U.lt (Post.due p)
 have t2:=c.lt
 have t3:=w.lt
 have t4:=U.lt (Post.costs p)
 have t5:=U.lt (Post.rewards p)
 have hp:U.top + U.top + U.top ≤ 65536 ^ 17:=by decide
 obtain ⟨d4,g4,b4⟩:=b2K b2 b3 (c1B b2) (c1B b3)
 refine Wp.optF g4 ?_
 obtain ⟨d5,g5,b5⟩:=b2K b1 b4 (c1B b1) (a9H b4 17 (by omega) (by decide))
 refine Wp.optF g5 ?_
 refine Wp.call (b2L (Post.costs p)) ?_
 rintro _ ⟨d6,rfl,b6⟩
 refine Wp.call (b2L c) ?_
 rintro _ ⟨d7,rfl,b7⟩
 obtain ⟨d8,g8,b8⟩:=b2K b6 b7 (c1B b6) (c1B b7)
 refine Wp.optF g8 ?_
 refine Wp.call (b2L (Post.rewards p)) ?_
 rintro _ ⟨d9,rfl,b9⟩
 refine Wp.call (b2L w) ?_
 rintro _ ⟨d10,rfl,b10⟩
 obtain ⟨d11,g11,b11⟩:=b2K b9 b10 (c1B b9) (c1B b10)
 refine Wp.optF g11 ?_
 have l5:=a9H b5 17 (by omega) (by decide)
 have l8:=a9H b8 17 (by omega) (by decide)
 have l11:=a9H b11 17 (by omega) (by decide)
 refine Wp.optF (e0W b5 l5) ?_
 refine Wp.brn (fun f1=>?_) (fun f1=>?_)
 ·
  have f1:=of_decide_eq_false (b3G f1)
  rw [if_neg (fun hh=>f1 hh.1)]; rfl
 have f1:=of_decide_eq_true (b3E f1)
 refine Wp.optF (e0W b8 l8) ?_
 refine Wp.brn (fun f2=>?_) (fun f2=>?_)
 ·
  have f2:=of_decide_eq_false (b3G f2)
  rw [if_neg (fun hh=>f2 hh.2.1)]; rfl
 have f2:=of_decide_eq_true (b3E f2)
 refine Wp.optF (e0W b11 l11) ?_
 refine Wp.brn (fun f3=>?_) (fun f3=>?_)
 ·
  have f3:=of_decide_eq_false (b3G f3)
  rw [if_neg (fun hh=>f3 hh.2.2)]; rfl
 have f3:=of_decide_eq_true (b3E f3)
 rw [if_pos ⟨f1,f2,f3⟩]
 refine Wp.optF (c5I (Post.due p)) ?_
 have hpos:=g2M b5 l5
 refine Wp.brn (fun z=>?_) (fun z=>?_)
 ·
  have z:=of_decide_eq_true z
  refine Wp.brn (fun y=>?_) (fun y=>?_)
  ·
   have y:=of_decide_eq_true (hpos.symm.trans y)
   refine Wp.optF (a3B b5 f1) (Wp.optF (a3B b8 f2) (Wp.optF (a3B b11 f3) ?_))
   have e:b9O p c w since = (p.1,(U.of (p.due.val + (c.val + w.val)),(U.of (p.costs.val + c.val),(U.of (p.rewards.val + w.val),(p.paid,(since,())))))):=by unfold b9O; rw [if_pos ⟨z,y⟩]
   rw [e]; rfl
  ·
   have y:=of_decide_eq_false (hpos.symm.trans y)
   refine Wp.optF (a3B b5 f1) (Wp.optF (a3B b8 f2) (Wp.optF (a3B b11 f3) ?_))
   have e:b9O p c w since = (p.1,(U.of (p.due.val + (c.val + w.val)),(U.of (p.costs.val + c.val),(U.of (p.rewards.val + w.val),(p.paid,(p.since,())))))):=by unfold b9O; rw [if_neg (fun hh=>y hh.2)]
   rw [e]; rfl
 ·
  have z:=of_decide_eq_false z
  refine Wp.optF (a3B b5 f1) (Wp.optF (a3B b8 f2) (Wp.optF (a3B b11 f3) ?_))
  have e:b9O p c w since = (p.1,(U.of (p.due.val + (c.val + w.val)),(U.of (p.costs.val + c.val),(U.of (p.rewards.val + w.val),(p.paid,(p.since,())))))):=by unfold b9O; rw [if_neg (fun hh=>z hh.1)]
  rw [e]; rfl
theorem f6U (l:List Post) (a:I .u64) (hl:l.length ≤ 1073741824):b4A K0 ((l,(a,())),()) = some (((c8C l a).1,((c8C l a).2,())),()):=by
 refine Wp.out (T:=fun o=>o = _) ?_
 unfold b4A c8C
 refine Wp.jnI (Wp.optF (c1R hl) ?_)
 have e0:(I.of .u64 0).nat = 0:=rfl
 refine Wp.brn (fun h=>?_) (fun h=>?_)
 ·
  have h:c5C l = false:=b3G h
  simp only [if_neg (show ¬ (c5C l = true∧a.nat ≠ 0) by rw [h]; simp)]; rfl
 have hT:c5C l = true:=b3E h
 rw [d1V,e0]
 refine Wp.brn (fun h=>?_) (fun h=>?_)
 ·
  have h:a.nat = 0:=of_decide_eq_true h
  simp only [if_neg (show ¬ (c5C l = true∧a.nat ≠ 0) from fun hh=>hh.2 h)]; rfl
 have ha:a.nat ≠ 0:=of_decide_eq_false h
 simp only [if_pos (show c5C l = true∧a.nat ≠ 0 from ⟨hT,ha⟩)]
 refine Wp.optF (d0Q (l:=l) a hl) ?_
 rw [show (((atI l a,()),()):((I .i64) × Unit) × Unit).1.1 = atI l a from rfl,f9X hl]
 refine Wp.brn (fun h=>?_) (fun h=>?_)
 ·
  have h:=of_decide_eq_true h
  simp only [if_pos h]; rfl
 have hf:=of_decide_eq_false h
 simp only [if_neg hf]
 have hne:=e6T hf
 have hlim:l.length ≤ 64:=(tabB_t.1 hT).1
 have e64:I.of .i64 64 = i6 64:=rfl
 simp only [a7C,a8Z,c0K,b4T,e64,e1I (show 64 < 9223372036854775808 by omega) (show l.length < 9223372036854775808 by omega)]
 refine Wp.brn (fun h=>?_) (fun h=>?_)
 ·
  have h:=of_decide_eq_true h
  simp only [if_pos (show l.length = 64 by omega)]; rfl
 have h64:=of_decide_eq_false h
 simp only [if_neg (show ¬ l.length = 64 by omega)]
 have hva:=a1Y a
 refine Wp.iter (fun s=>∃ i put out,s = ((l,(a,(put,(i6 i,())))),(out,()))∧i ≤ l.length∧out.length ≤ i + (if put = true then 1 else 0) ∧
   ((put = false∧out ++ d0M (l.drop i) a = d0M l a) ∨ (put = true∧out ++ l.drop i = d0M l a)))
  (fun s=>l.length - s.1.2.2.2.1.val.toNat) ?_ ⟨0,false,[],rfl,by omega,by simp,.inl ⟨rfl,rfl⟩⟩ (by rw [a6Y]; show l.length - _ < _; omega)
 rintro s ⟨i,put,out,rfl,hi,hol0,hcase⟩
 have hol:out.length ≤ i + 1:=by revert hol0; split <;> omega
 simp only [a2T (show i < 9223372036854775808 by omega) (show l.length < 9223372036854775808 by omega),a3G (show i < 9223372036854775808 by omega)]
 refine Wp.brn (fun hc=>?_) (fun hc=>?_)
 ·
  have hc:=of_decide_eq_true hc
  have hm:l.length - (i6 (i + 1)).val.toNat < l.length - (i6 i).val.toNat:=by rw [a0V (by omega),a0V (by omega)]; omega
  have bi:inB (i6 i) l.length = true:=a3T (by omega) (by omega)
  have hdr:l.drop i = rdL dP l i :: l.drop (i + 1):=by rw [List.drop_eq_getElem_cons hc,a4G dP l i hc]
  have hvi:=a1Y (Post.addr (rdL dP l i))
  have hnei:=hne i hc
  refine Wp.jnI ?_
  have place:put = false→a.nat < (Post.addr (rdL dP l i)).nat→out ++ f8P a :: rdL dP l i :: l.drop (i + 1) = d0M l a:=by
   intro hp hlt
   rcases hcase with ⟨_,h⟩ | ⟨h,_⟩
   ·
    rw [f4C hc (by omega),hdr] at h; exact h
   ·
    rw [hp] at h; cases h
  have keep:put = false→¬ a.nat < (Post.addr (rdL dP l i)).nat→(out ++ [rdL dP l i]) ++ d0M (l.drop (i + 1)) a = d0M l a:=by
   intro hp hlt
   rcases hcase with ⟨_,h⟩ | ⟨h,_⟩
   ·
    rw [e9S hc (by omega)] at h; rw [← h]; simp
   ·
    rw [hp] at h; cases h
  have keep2:put = true→(out ++ [rdL dP l i]) ++ l.drop (i + 1) = d0M l a:=by
   intro hp
   rcases hcase with ⟨h,_⟩ | ⟨_,h⟩
   ·
    rw [hp] at h; cases h
   ·
    rw [hdr] at h; rw [← h]; simp
  have hfit:a1E (a0I (a2A out [rdL dP l i])) = true:=a8P (by show (out ++ [_]).length ≤ _; simp; omega)
  refine Wp.brn (fun hp=>?_) (fun hp=>?_)
  ·
   have hp:put = false:=b3G hp
   refine Wp.brnT bi ?_
   rw [c3C]
   simp only [a3G (show i < 9223372036854775808 by omega),a3S (show i + 1 < 9223372036854775808 by omega)]
   refine Wp.brn (fun hlt=>?_) (fun hlt=>?_)
   ·
    have hlt:a.nat < (Post.addr (rdL dP l i)).nat:=of_decide_eq_true hlt
    refine Wp.brnT (a8P (by show (out ++ [_]).length ≤ _; simp; omega)) (Wp.brnT bi (Wp.brnT (a8P (by show (out ++ [_] ++ [_]).length ≤ _; simp; omega)) ?_))
    refine Wp.again ⟨i + 1,true,_,rfl,by omega,?_,.inr ⟨rfl,?_⟩⟩ hm
    ·
     rw [hp] at hol0
     simp [a2A] at hol0 ⊢
     omega
    ·
     rw [← place hp hlt]; simp [a2A,f8P]
   ·
    have hlt:¬ a.nat < (Post.addr (rdL dP l i)).nat:=of_decide_eq_false hlt
    exact Wp.brnT bi (Wp.brnT hfit (Wp.again ⟨i + 1,put,_,rfl,by omega,by rw [hp] at hol0 ⊢; simp [a2A] at hol0 ⊢; omega,.inl ⟨hp,keep hp hlt⟩⟩ hm))
  ·
   have hp:put = true:=b3E hp
   simp only [a3G (show i < 9223372036854775808 by omega),a3S (show i + 1 < 9223372036854775808 by omega)]
   exact Wp.brnF rfl (Wp.brnT bi (Wp.brnT hfit (Wp.again ⟨i + 1,put,_,rfl,by omega,by rw [hp] at hol0 ⊢; simp [a2A] at hol0 ⊢; omega,.inr ⟨hp,keep2 hp⟩⟩ hm)))
 ·
  have hc:=of_decide_eq_false hc
  have hi':i = l.length:=by omega
  subst hi'
  refine Wp.done ?_
  rcases hcase with ⟨rfl,h⟩ | ⟨rfl,h⟩
  ·
   rw [List.drop_length] at h
   refine Wp.brnT rfl (Wp.brnT (a8P (by show (out ++ [_]).length ≤ _; simp; omega)) ?_)
   show some ((out ++ [f8P a],(I.of .i64 0,())),()) = _
   rw [← h]; rfl
  ·
   rw [List.drop_length,List.append_nil] at h
   refine Wp.brnF rfl ?_
   rw [h]; rfl
end Sym

/- Pricer: the reference's report. -/
namespace Sym
open Go
theorem c6K (s:PrT) (hl:s.posters.length ≤ 1073741824):a7J K0 ((s,()),()) = some ((prV s,()),()):=by
 refine Wp.out (T:=fun o=>o = _) ?_
 unfold a7J
 refine Wp.jnI (Wp.optF (c1R (l:=s.posters) hl) ?_)
 refine Wp.brn (fun h=>?_) (fun h=>?_)
 ·
  have h:c5C s.posters = false:=b3G h
  unfold prV; rw [h,Bool.false_and,Bool.and_false]; rfl
 have hT:c5C s.posters = true:=b3E h
 refine Wp.optF (b8P s.surplus) ?_
 refine Wp.brn (fun h=>?_) (fun h=>?_)
 ·
  have h:a9M s.surplus = false:=b3G h
  unfold prV; rw [h,Bool.and_false,Bool.and_false]; rfl
 have hS:a9M s.surplus = true:=b3E h
 simp only [a7C,a8Z,c0K,b4T]
 obtain ⟨l,hl'⟩:∃ l,l = s.posters:=⟨_,rfl⟩
 rw [← hl'] at hl
 refine Wp.iter (fun t=>∃ i,t = ((i6 i,()),(s,()))∧i ≤ l.length∧∀ k,k < i→(Post.since (rdL dP l k)).nat ≤ s.reports.nat) (fun t=>l.length - t.1.1.val.toNat) ?_ ⟨0,rfl,by omega,by intro k hk; omega⟩ (by rw [a6Y]; show l.length - _ < _; omega)
 rintro t ⟨i,rfl,hi,hinv⟩
 have e:s.2.2.2.2.2.1 = l:=hl'.symm
 simp only [e,a2T (show i < 9223372036854775808 by omega) (show l.length < 9223372036854775808 by omega),a3G (show i < 9223372036854775808 by omega),a3S (show i + 1 < 9223372036854775808 by omega)]
 refine Wp.brn (fun hc=>?_) (fun hc=>?_)
 ·
  have hc:=of_decide_eq_true hc
  refine Wp.brnT (a3T (by omega) (by omega)) ?_
  simp only [c3C]
  refine Wp.brn (fun h=>?_) (fun h=>?_)
  ·
   have h:s.reports.nat < (Post.since (rdL dP l i)).nat:=of_decide_eq_true h
   refine Wp.done ?_
   have:prV s = false:=by
    cases hv:prV s with
    | false=>rfl
    | true =>
     have:=(prV_t.1 hv).1 (rdL dP l i) (by rw [← hl']; exact b7N dP _ i hc)
     omega
   rw [this]
   rfl
  ·
   have h:¬ s.reports.nat < (Post.since (rdL dP l i)).nat:=of_decide_eq_false h
   refine Wp.again ⟨i + 1,rfl,by omega,fun k hk=>?_⟩ (by show l.length - (i6 (i + 1)).val.toNat < l.length - (i6 i).val.toNat; rw [a0V (by omega),a0V (by omega)]; omega)
   by_cases hki:k = i
   ·
    subst hki; omega
   ·
    exact hinv k (by omega)
 ·
  have hc:=of_decide_eq_false hc
  refine Wp.done ?_
  have:prV s = true:=by
   refine prV_t.2 ⟨fun p hp=>?_,tabB_t.1 hT,hS⟩
   rw [← hl'] at hp
   obtain ⟨k,hk,rfl⟩:=b8W dP hp
   exact hinv k (by omega)
  rw [this]
  rfl
theorem d6R (s:PrT) (a:I .u64) (hl:s.posters.length ≤ 1073741824):a8H K0 ((s,(a,())),()) = some (((a5Z s a).1,((a5Z s a).2,())),()):=by
 refine Wp.out (T:=fun o=>o = _) ?_
 unfold a8H a5Z
 refine Wp.optF (c6K s hl) ?_
 refine Wp.brn (fun h=>?_) (fun h=>?_)
 ·
  have h:prV s = false:=b3G h
  rw [if_neg (by rw [h]; simp)]; rfl
 have h:prV s = true:=b3E h
 rw [if_pos h]
 refine Wp.optF (f6U s.posters a hl) ?_
 refine Wp.brn (fun h=>?_) (fun h=>?_)
 ·
  have h:¬ (c8C s.posters a).2.val = 0:=iff_neb.1 h
  rw [if_neg h]; rfl
 ·
  have h:(c8C s.posters a).2.val = 0:=niff_neb.1 h
  rw [if_pos h]; rfl
theorem c8T (a b:I .u64):I.add a b = I.of .u64 ((a.nat + b.nat:Nat):Int):=by
 unfold I.add
 rw [← a1Y a,← a1Y b]
 rfl
theorem d9I (s:PrT) (n:I .u64) (hl:s.posters.length ≤ 1073741824):a9A K0 ((s,(n,())),()) = some (((a4H s n).1,((a4H s n).2,())),()):=by
 refine Wp.out (T:=fun o=>o = _) ?_
 unfold a9A a4H
 refine Wp.optF (c6K s hl) ?_
 refine Wp.brn (fun h=>?_) (fun h=>?_)
 ·
  have h:prV s = false:=b3G h
  rw [if_neg (by rw [h]; simp)]; rfl
 have h:prV s = true:=b3E h
 rw [if_pos h]
 have hu:=a3E s.units
 have hn:=a3E n
 have hw:(I.add s.units n).nat = (s.units.nat + n.nat) % 18446744073709551616:=by
  rw [c8T]
  have h1:(I.of .u64 ((s.units.nat + n.nat:Nat):Int)).val = ((s.units.nat + n.nat:Nat):Int) % 18446744073709551616:=rfl
  have:=a1Y (I.of .u64 ((s.units.nat + n.nat:Nat):Int))
  omega
 refine Wp.brn (fun h=>?_) (fun h=>?_)
 ·
  rw [c3C] at h
  have h:(I.add s.units n).nat < n.nat:=of_decide_eq_true h
  rw [if_neg (by omega)]; rfl
 ·
  rw [c3C] at h
  have h:¬ (I.add s.units n).nat < n.nat:=of_decide_eq_false h
  rw [if_pos (by omega)]
  refine Wp.brnT (a8P hl) ?_
  rw [← c8T]
  rfl
noncomputable def c5U (s:PrT) (p:Prm) (r:RepT) (now:I .u64):I .i64 :=
 if prV s = true then
  if a7E p = true then
   if atN s.posters r.from' < s.posters.length then
    if s.last.nat ≤ r.upto.nat∧r.upto.nat ≤ now.nat then
     if r.cost.val < c6L then I.of .i64 0
     else I.of .i64 2
    else I.of .i64 14
   else I.of .i64 8
  else I.of .i64 15
 else I.of .i64 2
theorem e3F (s:PrT) (p:Prm) (r:RepT) (now:I .u64) :
  ((c5U s p r now).val = 0∧((c5T s p r now).val = 0 ∨ (s.reports.nat = 18446744073709551615∧c5T s p r now = I.of .i64 4))) ∨ ((c5U s p r now).val ≠ 0∧c5T s p r now = c5U s p r now):=by
 unfold c5U c5T
 split
 ·
  split
  ·
   split
   ·
    split
    ·
     split
     ·
      left
      refine ⟨rfl,?_⟩
      split
      ·
       rename_i h; exact .inr ⟨h,rfl⟩
      ·
       exact .inl rfl
     ·
      exact .inr ⟨by decide,rfl⟩
    ·
     exact .inr ⟨by decide,rfl⟩
   ·
    exact .inr ⟨by decide,rfl⟩
  ·
   exact .inr ⟨by decide,rfl⟩
 ·
  exact .inr ⟨by decide,rfl⟩
theorem e0F {s:PrT} {p:Prm} {r:RepT} {now:I .u64} (h:(c5U s p r now).val = 0):prV s = true∧a7E p = true∧atN s.posters r.from' < s.posters.length∧(s.last.nat ≤ r.upto.nat∧r.upto.nat ≤ now.nat)∧r.cost.val < c6L:=by
 unfold c5U at h
 split at h
 ·
  rename_i h1
  split at h
  ·
   rename_i h2
   split at h
   ·
    rename_i h3
    split at h
    ·
     rename_i h4
     split at h
     ·
      rename_i h5; exact ⟨h1,h2,h3,h4,h5⟩
     ·
      exact absurd h (by decide)
    ·
     exact absurd h (by decide)
   ·
    exact absurd h (by decide)
  ·
   exact absurd h (by decide)
 ·
  exact absurd h (by decide)
theorem e9N (s:PrT) (p:Prm) (r:RepT) (now:I .u64) (hl:s.posters.length ≤ 1073741824) :
  b1Z K0 ((s,(p,(r,(now,())))),()) = some ((c5U s p r now,()),()):=by
 refine Wp.out (T:=fun o=>o = _) ?_
 unfold b1Z c5U
 refine Wp.optF (c6K s hl) ?_
 refine Wp.brn (fun h=>?_) (fun h=>?_)
 ·
  have h:prV s = false:=b3G h
  rw [if_neg (by rw [h]; simp)]; rfl
 have h:prV s = true:=b3E h
 rw [if_pos h]
 refine Wp.optF (b6A p) ?_
 refine Wp.brn (fun h=>?_) (fun h=>?_)
 ·
  have h:a7E p = false:=b3G h
  rw [if_neg (by rw [h]; simp)]; rfl
 have h:a7E p = true:=b3E h
 rw [if_pos h]
 refine Wp.optF (d0Q (l:=s.posters) r.from' hl) ?_
 rw [show (((atI s.posters r.from',()),()):((I .i64) × Unit) × Unit).1.1 = atI s.posters r.from' from rfl,d7O hl]
 refine Wp.brn (fun h=>?_) (fun h=>?_)
 ·
  rw [if_neg (of_decide_eq_true h)]; rfl
 rw [if_pos (by simpa using of_decide_eq_false h)]
 refine Wp.jnI ?_
 simp only [c3C]
 refine Wp.brn (fun h=>?_) (fun h=>?_)
 ·
  have h:r.upto.nat < s.last.nat:=of_decide_eq_true h
  rw [if_neg (by omega)]; rfl
 have h1:¬ r.upto.nat < s.last.nat:=of_decide_eq_false h
 refine Wp.brn (fun h=>?_) (fun h=>?_)
 ·
  have h:now.nat < r.upto.nat:=of_decide_eq_true h
  rw [if_neg (by omega)]; rfl
 have h2:¬ now.nat < r.upto.nat:=of_decide_eq_false h
 rw [if_pos (by omega)]
 refine Wp.call (e8N r.cost) ?_
 rintro _ ⟨k,rfl,hB,hk⟩
 rw [show (((i6 k,()),()):((I .i64) × Unit) × Unit).1.1 = i6 k from rfl,g1X hB hk]
 refine Wp.brn (fun h=>?_) (fun h=>?_)
 ·
  rw [if_neg (of_decide_eq_true h)]; rfl
 rw [if_pos (Classical.byContradiction (of_decide_eq_false h))]
 rfl
theorem e8V (s:PrT) (p:Prm) (pool:U) (r:RepT) (now:I .u64) (hl:s.posters.length ≤ 1073741824) :
  b0N K0 ((s,(p,(pool,(r,(now,()))))),()) = some (((b3J s p pool r now).1,((b3J s p pool r now).2.1,((b3J s p pool r now).2.2,()))),()):=by
 refine Wp.out (T:=fun o=>o = _) ?_
 unfold b0N b3J
 refine Wp.optF (e9N s p r now hl) ?_
 have hcc:=e3F s p r now
 refine Wp.brn (fun h=>?_) (fun h=>?_)
 ·
  have h:¬ (c5U s p r now).val = 0:=iff_neb.1 h
  rcases hcc with ⟨h',_⟩ | ⟨_,h'⟩
  ·
   exact absurd h' h
  rw [h',if_neg h]
  rfl
 have h0:(c5U s p r now).val = 0:=niff_neb.1 h
 have ⟨f1,f2,f3,f4,f5⟩:=e0F h0
 refine Wp.optF (e9T s.units s.last r.upto now f4.1 f4.2) ?_
 have hle:=d1B (units:=s.units) f4.1 f4.2
 have hu:=a3E s.units
 have hnv:(I.of .u64 (b7Z s.units s.last r.upto now:Int)).nat = b7Z s.units s.last r.upto now:=b5Q (by omega)
 have e:U.val (I.of .u64 (b7Z s.units s.last r.upto now:Int),(I.of .u64 0,(I.of .u64 0,(I.of .u64 0,())))) = c3W s r now:=(c5O _).trans hnv
 have hM:=e7W p.rpu (I.of .u64 (b7Z s.units s.last r.upto now:Int),(I.of .u64 0,(I.of .u64 0,(I.of .u64 0,()))))
 rw [e] at hM
 refine Wp.optF hM (Wp.jnI ?_)
 rcases hcc with ⟨_,hcs⟩ | ⟨h',_⟩
 case inr=>exact absurd h0 h'
 simp only [f3V]
 refine Wp.brn (fun hw=>?_) (fun hw=>?_)
 ·
  have hw:¬ p.rpu.val * c3W s r now < U.top:=of_decide_eq_true hw
  rcases hcs with hcs | ⟨_,hcs⟩
  ·
   rw [if_pos hcs,if_neg hw]; rfl
  ·
   rw [hcs,if_neg b6D]; rfl
 have hw:=of_decide_eq_false hw
 have hw:p.rpu.val * c3W s r now < U.top:=by omega
 rw [c3Y hw]
 rcases hcs with hcs | ⟨hmax,hcs⟩
 case inr =>
  refine Wp.brnT ?_ ?_
  ·
   have hv:=a1Y s.reports
   rw [c8T,hmax]
   rfl
  ·
   rw [hcs,if_neg b6D]; rfl
 have hC:=d4P hcs
 have hcnt:=d1U hC
 rw [if_pos hcs,if_pos hw]
 refine Wp.brnF (by rw [d1V]; exact decide_eq_false (by show ¬ (I.add s.reports (I.of .u64 1)).nat = 0; rw [hcnt]; omega)) ?_
 refine Wp.optF (e8G s.posters r.from' r.cost (U.of (p.rpu.val * c3W s r now)) (I.add s.reports (I.of .u64 1)) hC.tab hC.fnd (by rw [hcnt]; omega)) ?_
 have hA:=d4E (c:=r.cost) (w:=U.of (p.rpu.val * c3W s r now)) (since:=I.add s.reports (I.of .u64 1)) hC.tab hC.fnd (by rw [hcnt]; omega)
 have hL:b7L s.posters r.from' r.cost (U.of (p.rpu.val * c3W s r now)) (I.add s.reports (I.of .u64 1)) = b4V s p r now:=rfl
 rw [hL] at hA ⊢
 rcases hA with ⟨hA,_⟩ | ⟨hA,_,_,hT⟩
 ·
  rw [if_neg (by rw [hA]; exact b6D)]
  simp only [hA]
  exact Wp.brnT rfl rfl
 rw [if_pos (by rw [hA]; rfl)]
 simp only [hA]
 refine Wp.brnF rfl ?_
 generalize (b4V s p r now).1 = l at hT ⊢
 have hl64:=hT.1
 have hP:=f5F l pool (by omega)
 rw [f6E hT pool] at hP
 refine Wp.optF hP ?_
 have hpl:=d4R l pool
 refine Wp.optF (f3O l (b2Z (ord l) pool.val) (by omega) (by show (a2C l pool).length ≤ _; omega)) ?_
 rw [show b2Z (ord l) pool.val = a2C l pool from rfl]
 rcases d9M hT pool with hB | ⟨hB,hT2,_,_,hdu⟩
 ·
  rw [if_neg (by rw [hB]; exact b6D)]
  simp only [hB]
  exact Wp.brnT rfl rfl
 rw [if_pos (by rw [hB]; rfl)]
 simp only [hB]
 refine Wp.brnF rfl ?_
 have hsum:=d4L l pool
 have hpo:=pool.lt
 have hps:a9O ((a2C l pool).map amt) < U.top:=by omega
 refine Wp.optF (f2T (l:=a2C l pool) (by omega)) ?_
 rw [c3Y hps]
 refine Wp.optF (c2B pool _) ?_
 have hsv:(U.of (a9O ((a2C l pool).map amt))).val = a9O ((a2C l pool).map amt):=U.val_of hps
 have hsub:(f2W pool (U.of (a9O ((a2C l pool).map amt)))).1 = U.of (pool.val - a9O ((a2C l pool).map amt)):=by
  unfold f2W
  rw [hsv,if_pos (by omega)]
 refine Wp.optF (e0M (by have:=hT2.1; omega) hT2) ?_
 unfold c6Q
 have e1:(c1N s (a2Y l (a2C l pool)).1).posters = (a2Y l (a2C l pool)).1:=rfl
 rw [e1]
 simp only [f3V]
 refine Wp.brn (fun hd=>?_) (fun hd=>?_)
 ·
  have hd:=of_decide_eq_true hd
  simp only [if_neg hd]
  rw [if_neg b6D]; rfl
 have hd:=of_decide_eq_false hd
 have hd:a9O ((a2Y l (a2C l pool)).1.map b8H) < U.top:=by omega
 simp only [if_pos hd,hsub]
 rw [c3Y hd]
 refine Wp.optF (f5H _ _) (Wp.jnI ?_)
 have hz:S.of (((U.of (pool.val - a9O ((a2C l pool).map amt))).val:Int) - ((U.of (a9O ((a2Y l (a2C l pool)).1.map b8H))).val:Int)) = c3Z pool (a2Y l (a2C l pool)).1 (a2C l pool):=by
  unfold c3Z
  rw [U.val_of hd,U.val_of (by omega)]
 simp only [hz]
 have hn1:(b9Q s p r now (a2C l pool)).1.nat = c3W s r now:=hnv
 rw [hn1]
 have e0:(I.of .u64 0).nat = 0:=rfl
 simp only [c3C]
 rw [e0,show (I.of .u64 (b7Z s.units s.last r.upto now:Int)).nat = c3W s r now from hnv]
 refine Wp.brn (fun hp=>?_) (fun hp=>?_)
 ·
  have hp:=of_decide_eq_true hp
  simp only [if_neg (show ¬ c3W s r now = 0 by omega)]
  refine Wp.optF (f6J _ _ _ _ _) ?_
  refine Wp.brn (fun hN=>?_) (fun hN=>?_)
  ·
   have hN:I.neb (c2V s.price (c3Z pool (a2Y l (a2C l pool)).1 (a2C l pool)) s.surplus (I.of .u64 (b7Z s.units s.last r.upto now:Int)) p).2 (I.of .i64 0) = true:=hN
   have hN2:I.neb (c2V (c1N s (a2Y l (a2C l pool)).1).price (c3Z pool (a2Y l (a2C l pool)).1 (b9Q s p r now (a2C l pool)).2.2.1) (c1N s (a2Y l (a2C l pool)).1).surplus (b9Q s p r now (a2C l pool)).1 p).2 (I.of .i64 0) = true:=hN
   simp only [if_pos hN2]
   have:¬ (c2V (c1N s (a2Y l (a2C l pool)).1).price (c3Z pool (a2Y l (a2C l pool)).1 (b9Q s p r now (a2C l pool)).2.2.1) (c1N s (a2Y l (a2C l pool)).1).surplus (b9Q s p r now (a2C l pool)).1 p).2.val = 0:=iff_neb.1 hN2
   rw [if_neg this]; rfl
  ·
   have hN:I.neb (c2V s.price (c3Z pool (a2Y l (a2C l pool)).1 (a2C l pool)) s.surplus (I.of .u64 (b7Z s.units s.last r.upto now:Int)) p).2 (I.of .i64 0) = false:=hN
   have hN2:¬ I.neb (c2V (c1N s (a2Y l (a2C l pool)).1).price (c3Z pool (a2Y l (a2C l pool)).1 (b9Q s p r now (a2C l pool)).2.2.1) (c1N s (a2Y l (a2C l pool)).1).surplus (b9Q s p r now (a2C l pool)).1 p).2 (I.of .i64 0) = true:=fun h=>by
    have h:I.neb (c2V s.price (c3Z pool (a2Y l (a2C l pool)).1 (a2C l pool)) s.surplus (I.of .u64 (b7Z s.units s.last r.upto now:Int)) p).2 (I.of .i64 0) = true:=h
    rw [hN] at h; cases h
   simp only [if_neg hN2]
   rw [if_pos (show (I.of .i64 0).val = 0 from rfl)]; rfl
 ·
  have hp:=of_decide_eq_false hp
  have hp0:c3W s r now = 0:=by omega
  simp only [if_pos hp0]
  rw [if_pos (show (I.of .i64 0).val = 0 from rfl)]; rfl
end Sym

/- The machine of the reference: numbers that need not fit, the ledger. -/
namespace Sym
open Go
theorem f4R (a q:Nat):U.of (a + U.top * q) = U.of a:=by
 unfold U.of U.top
 have h0:(a + 115792089237316195423570985008687907853269984665640564039457584007913129639936 * q) % 18446744073709551616 = a % 18446744073709551616:=by omega
 have h1:(a + 115792089237316195423570985008687907853269984665640564039457584007913129639936 * q) / 18446744073709551616 % 18446744073709551616 = a / 18446744073709551616 % 18446744073709551616:=by omega
 have h2:(a + 115792089237316195423570985008687907853269984665640564039457584007913129639936 * q) / 340282366920938463463374607431768211456 % 18446744073709551616 = a / 340282366920938463463374607431768211456 % 18446744073709551616:=by omega
 have h3:(a + 115792089237316195423570985008687907853269984665640564039457584007913129639936 * q) / 6277101735386680763835789423207666416102355444464034512896 % 18446744073709551616 = a / 6277101735386680763835789423207666416102355444464034512896 % 18446744073709551616:=by omega
 rw [h0,h1,h2,h3]
theorem c4N {l:List Dg} {n:Nat} (hl:IsB l n) (hlen:l.length ≤ 1000000):a0R K0 ((l,()),()) = some ((U.of n,()),()):=by
 have ht:U.top = 65536 ^ 16:=by decide
 have c16:(I.of .i64 16).val = 16:=rfl
 have c4:(I.of .i64 4).val = 4:=rfl
 have c1:(I.of .i64 1).val = 1:=rfl
 have hol:(I.ofNat .i64 (a0I l)).val = l.length:=a3N (by show l.length < _; omega)
 have key:Wp (fun o=>o = some ((U.of n,()),())) (a0R K0 ((l,()),())):=by
  unfold a0R
  refine Wp.iter (fun x=>x.1.1 = l∧0 ≤ x.1.2.1.val∧x.1.2.1.val ≤ (l.length:Int)∧x.1.2.1.val ≤ 16∧U.val x.2.2.1 = bv (l.take x.1.2.1.val.toNat)) (fun x=>((l.length:Int) - x.1.2.1.val).toNat) ?_ ?_ ?_
  ·
   rintro ⟨⟨l',i,⟨⟩⟩,r0,u,⟨⟩⟩ ⟨e1,hi0,hi1,hi2,hu⟩
   simp only at e1 hi0 hi1 hi2 hu
   subst e1
   have fin:i.val.toNat = min 16 l'.length→u = U.of n:=by
    intro e
    have e16:l'.take i.val.toNat = l'.take 16:=by rw [e,List.take_eq_take_iff]; simp
    rw [e16] at hu
    have hn:n = bv (l'.take 16) + U.top * bv (l'.drop 16):=by
     rw [← hl.val]
     conv=>lhs; rw [← List.take_append_drop 16 l',c3I]
     by_cases hc:l'.length ≤ 16
     ·
      rw [List.drop_eq_nil_of_le hc]
      rfl
     ·
      rw [List.length_take,Nat.min_eq_left (by omega),ht]
    rw [hn,f4R,← hu]
    exact (U.of_val u).symm
   refine Wp.brn (fun h=>?_) (fun h=>?_)
   ·
    have h:=iff_ltb.1 h
    simp only [hol] at h
    have hlt:i.val.toNat < l'.length:=by omega
    refine Wp.brn (fun h16=>?_) (fun h16=>?_)
    case refine_2 =>
     have h16:(I.of .i64 16).val ≤ i.val:=niff_ltb.1 h16
     have:=fin (by omega)
     subst this
     exact Wp.done rfl
    have h16:i.val < (I.of .i64 16).val:=iff_ltb.1 h16
    have hq:(I.quo i (I.of .i64 4)).val = i.val / 4:=b9B hi0 (by decide)
    have hr:(I.rem i (I.of .i64 4)).val = i.val % 4:=b7O hi0 (by decide)
    have hs:(I.add i (I.of .i64 1)).val = i.val + 1:=by rw [a5T (by omega)]; omega
    have hm:(I.mul (I.of .i64 16) (I.rem i (I.of .i64 4))).val = 16 * (i.val % 4):=by rw [c4I (by rw [c16,hr]; omega),hr,c16]
    have hin:inB (I.quo i (I.of .i64 4)) 4 = true:=iff_inB.2 ⟨by omega,by omega⟩
    refine Wp.brnT hin ?_
    refine Wp.brnT (iff_inB.2 ⟨hi0,by show i.val < ((l'.length:Nat):Int); omega⟩) ?_
    refine Wp.brnT (c3J _) ?_
    refine Wp.brnT hin ?_
    have hdig:DigOk l'[i.val.toNat]:=hl.dig _ (List.getElem_mem hlt)
    have hrd:rdL (I.of .i64 0) l' (I.nat i) = l'[i.val.toNat]:=a4G _ _ _ hlt
    have e1:I.nat (I.quo i (I.of .i64 4)) = i.val.toNat / 4:=by unfold I.nat; omega
    have e2:I.conv .u64 (I.mul (I.of .i64 16) (I.rem i (I.of .i64 4))) = I.of .u64 (16 * (i.val.toNat % 4):Nat):=by
     show I.of .u64 _ = _
     rw [hm]
     congr 1
     omega
    have e3:I.conv .u64 (rdL (I.of .i64 0) l' (I.nat i)) = I.of .u64 ((l'[i.val.toNat]).nat:Int):=by
     show I.of .u64 _ = _
     rw [hrd,hdig.nat.1]
    have hub:U.val u < 65536 ^ i.val.toNat:=by
     rw [hu]
     have:=e2H (c2J hl.dig i.val.toNat)
     rw [List.length_take] at this
     rwa [Nat.min_eq_left (by omega)] at this
    have st:=e5W u (l'[i.val.toNat]).nat i.val.toNat (by omega) hub hdig.nat.2
    refine Wp.again ⟨rfl,?_,?_,by show (I.add i (I.of .i64 1)).val ≤ 16; omega,?_⟩ ?_
    ·
     show 0 ≤ (I.add i (I.of .i64 1)).val; omega
    ·
     show (I.add i (I.of .i64 1)).val ≤ _; omega
    ·
     show U.val (Arr.upd 4 u (I.nat (I.quo i (I.of .i64 4))) (I.add (Arr.sel (I.of .u64 0) 4 u (I.nat (I.quo i (I.of .i64 4)))) (I.shl (I.conv .u64 (rdL (I.of .i64 0) l' (I.nat i))) (I.conv .u64 (I.mul (I.of .i64 16) (I.rem i (I.of .i64 4))))))) = bv (l'.take (I.add i (I.of .i64 1)).val.toNat)
     have e4:(I.add i (I.of .i64 1)).val.toNat = i.val.toNat + 1:=by omega
     rw [e1,e2,e3,e4,st,c4F hlt,← hu]
    ·
     show ((l'.length:Int) - (I.add i (I.of .i64 1)).val).toNat < _
     simp only; omega
   ·
    have h:=niff_ltb.1 h
    simp only [hol] at h
    have:=fin (by omega)
    subst this
    exact Wp.done rfl
  ·
   refine ⟨rfl,by show 0 ≤ (I.of .i64 0).val; decide,by show (I.of .i64 0).val ≤ (l.length:Int); have:(I.of .i64 0).val = 0:=rfl; omega,by show (I.of .i64 0).val ≤ 16; decide,?_⟩
   show U.val _ = bv (l.take (I.of .i64 0).val.toNat)
   rfl
  ·
   exact b8J _ (by show ((l.length:Int) - (I.of .i64 0).val).toNat < _; have:(I.of .i64 0).val = 0:=rfl; omega)
 exact key.out
end Sym

/- The ledger of the reference. -/
namespace Sym
open Go
abbrev Ac:Type:=a0E
abbrev V4:Type:=c0Q
noncomputable abbrev dA:Ac:=a1G
abbrev LgH:Type:=a0M
def aAt (l:List Ac) (a:I .u64):Nat:=l.findIdx fun p=>I.eqb p.1 a
def aAI (l:List Ac) (a:I .u64):I .i64:=if aAt l a < l.length then i6 (aAt l a) else I.of .i64 (-1)
theorem f3C {l:List Ac} {a:I .u64} {i:Nat} (hi:i < l.length) (h1:I.eqb (rdL dA l i).1 a = true) (h2:∀ k,k < i→I.eqb (rdL dA l k).1 a = false):aAt l a = i:=by
 unfold aAt
 rw [List.findIdx_eq hi]
 refine ⟨by rw [← a4G dA l i hi]; exact h1,fun k hk=>?_⟩
 rw [← a4G dA l k (by omega)]
 exact h2 k hk
theorem f7V {l:List Ac} {a:I .u64} (h2:∀ k,k < l.length→I.eqb (rdL dA l k).1 a = false):aAt l a = l.length:=by
 unfold aAt
 rw [List.findIdx_eq_length]
 intro x hx
 obtain ⟨k,hk,rfl⟩:=b8W dA hx
 exact h2 k hk
theorem at_eq (l:List Ac) (v:V4 × Unit) (a:I .u64) (hl:l.length ≤ 1073741824):a6I K0 (((l,v),(a,())),()) = some ((aAI l a,()),()):=by
 refine Wp.out (T:=fun o=>o = some ((aAI l a,()),())) ?_
 unfold a6I
 simp only [a7C,a8Z,c0K,b4T]
 refine Wp.iter (fun s=>∃ i,s = (((l,v),(a,(i6 i,()))),())∧i ≤ l.length∧∀ k,k < i→I.eqb (rdL dA l k).1 a = false) (fun s=>l.length - s.1.2.2.1.val.toNat) ?_ ⟨0,rfl,by omega,fun k hk=>by omega⟩ ?_
 ·
  rintro s ⟨i,rfl,hi,ht⟩
  simp only [a2T (show i < 9223372036854775808 by omega) (show l.length < 9223372036854775808 by omega),a3G (show i < 9223372036854775808 by omega),a3S (show i + 1 < 9223372036854775808 by omega)]
  refine Wp.brn (fun hc=>?_) (fun hc=>?_)
  ·
   have hc:=of_decide_eq_true hc
   refine Wp.brnT (a3T (by omega) (by omega)) ?_
   refine Wp.brn (fun h=>?_) (fun h=>?_)
   ·
    refine Wp.done ?_
    have e:=f3C hc h ht
    unfold aAI
    rw [e,if_pos hc]
    rfl
   ·
    refine Wp.again ⟨i + 1,rfl,by omega,fun k hk=>?_⟩ (by show l.length - (i6 (i + 1)).val.toNat < l.length - (i6 i).val.toNat; rw [a0V (by omega),a0V (by omega)]; omega)
    rcases (by omega:k < i ∨ k = i) with h3 | rfl
    ·
     exact ht k h3
    ·
     exact h
  ·
   have hc:=of_decide_eq_false hc
   refine Wp.done ?_
   have e:=f7V fun k hk=>ht k (by omega)
   unfold aAI
   rw [if_neg (by omega)]
   rfl
 ·
  rw [a6Y]
  show l.length - _ < _
  omega
theorem d6U {l:List Ac} {a:I .u64} (hl:l.length ≤ 1073741824):I.leb (I.of .i64 0) (aAI l a) = decide (aAt l a < l.length):=by
 unfold aAI
 by_cases h:aAt l a < l.length
 ·
  rw [if_pos h,decide_eq_true h]
  exact iff_leb.2 (by rw [a0V (by omega),show (I.of .i64 0).val = 0 from rfl]; omega)
 ·
  rw [if_neg h,decide_eq_false h]
  exact niff_leb.2 (by decide)
noncomputable def a8M (l:List Ac) (a:I .u64):Ac:=if aAt l a < l.length then rdL dA l (aAt l a) else (a,(Z_U,((I.of .u64 0),())))
def e1O (l:List Ac) (x:Ac):List Ac:=if aAt l x.1 < l.length then c2C l (aAt l x.1) x else l ++ [x]
theorem e0R (l:List Ac) (v:V4 × Unit) (a:I .u64) (hl:l.length ≤ 1073741824):a3C K0 (((l,v),(a,())),()) = some ((a8M l a,()),()):=by
 refine Wp.out (T:=fun o=>o = some ((a8M l a,()),())) ?_
 unfold a3C
 refine Wp.optF (at_eq l v a hl) ?_
 refine Wp.brn (fun h=>?_) (fun h=>?_)
 ·
  have h:I.leb (I.of .i64 0) (aAI l a) = true:=h
  rw [d6U hl] at h
  have h:=of_decide_eq_true h
  have e:aAI l a = i6 (aAt l a):=by unfold aAI; rw [if_pos h]
  refine Wp.brnT (by show inB (aAI l a) (a0I l) = true; rw [e]; exact a3T h (by omega)) ?_
  show some ((rdL dA l (I.nat (aAI l a)),()),()) = _
  rw [e,a3G (by omega)]
  unfold a8M
  rw [if_pos h]
 ·
  have h:I.leb (I.of .i64 0) (aAI l a) = false:=h
  rw [d6U hl] at h
  have h:=of_decide_eq_false h
  show some (((a,(Z_U,((I.of .u64 0),()))),()),()) = _
  unfold a8M
  rw [if_neg h]
theorem put_eq (l:List Ac) (h0:LgH) (x:Ac) (hl:l.length < 1073741824):a4Q K0 ((x,()),(h0,(l,()))) = some ((),(h0,(e1O l x,()))):=by
 refine Wp.out (T:=fun o=>o = some ((),(h0,(e1O l x,())))) ?_
 unfold a4Q
 refine Wp.optF (at_eq l h0.2 x.1 (by omega)) ?_
 refine Wp.brn (fun h=>?_) (fun h=>?_)
 ·
  have h:I.leb (I.of .i64 0) (aAI l x.1) = true:=h
  rw [d6U (by omega)] at h
  have h:=of_decide_eq_true h
  have e:aAI l x.1 = i6 (aAt l x.1):=by unfold aAI; rw [if_pos h]
  refine Wp.brnT (by show inB (aAI l x.1) (a0I l) = true; rw [e]; exact a3T h (by omega)) ?_
  show some ((),(h0,(c2C l (I.nat (aAI l x.1)) x,()))) = _
  rw [e,a3G (by omega)]
  unfold e1O
  rw [if_pos h]
 ·
  have h:I.leb (I.of .i64 0) (aAI l x.1) = false:=h
  rw [d6U (by omega)] at h
  have h:=of_decide_eq_false h
  refine Wp.brnT (a8P (by show (l ++ [x]).length ≤ _; rw [List.length_append]; show l.length + 1 ≤ _; omega)) ?_
  show some ((),(h0,(l ++ [x],()))) = _
  unfold e1O
  rw [if_neg h]
theorem d6O {X:Type} (l:List X) (i:Nat) (x:X):(c2C l i x).length = l.length:=by rw [c2C,a6W,List.length_set]
theorem d6H (l:List Ac) (x:Ac):(e1O l x).length ≤ l.length + 1:=by
 unfold e1O
 split
 ·
  rw [d6O]; omega
 ·
  simp
def c7U (x:Ac) (n:U):Ac:=(x.1,(n,x.2.2))
noncomputable def b7H (l:List Ac) (a:I .u64) (n:U):List Ac:=e1O l (c7U (a8M l a) (U.of ((a8M l a).2.1.val + n.val)))
noncomputable def b0G (l:List Ac) (a:I .u64) (n:U):Bool:=decide (n.val ≤ (a8M l a).2.1.val)
noncomputable def a4T (l:List Ac) (a:I .u64) (n:U):List Ac:=if n.val ≤ (a8M l a).2.1.val then e1O l (c7U (a8M l a) (U.of ((a8M l a).2.1.val - n.val))) else l
theorem e7T {l:List Dg} {a:U} (h:IsB l a.val):l.length ≤ 1000000:=b3P h (k:=16) (Nat.lt_of_lt_of_le (U.lt a) (by decide)) (by decide)
theorem f5A {l:List Dg} {n:Nat} (h:IsB l n) (hn:n < U.top + U.top):l.length ≤ 1000000:=b3P h (k:=17) (Nat.lt_of_lt_of_le hn (by decide)) (by decide)
theorem e0V (l:List Ac) (h0:LgH) (a:I .u64) (n:U) (hl:l.length < 1073741824):a4U K0 ((a,(n,())),(h0,(l,()))) = some ((),(h0,(b7H l a n,()))):=by
 refine Wp.out (T:=fun o=>o = some ((),(h0,(b7H l a n,())))) ?_
 unfold a4U
 obtain ⟨b1,e1,B1⟩:=a1C (a8M l a).2.1
 obtain ⟨b2,e2,B2⟩:=a1C n
 obtain ⟨b3,e3,B3⟩:=b2K B1 B2 (e7T B1) (e7T B2)
 have e4:=c4N B3 (f5A B3 (by have:=U.lt (a8M l a).2.1; have:=U.lt n; omega))
 exact Wp.optF (e0R l h0.2 a (by omega)) (Wp.optF e1 (Wp.optF e2 (Wp.optF e3 (Wp.optF e4 (Wp.optF (put_eq l h0 (c7U (a8M l a) (U.of ((a8M l a).2.1.val + n.val))) hl) rfl)))))
theorem d7G (l:List Ac) (h0:LgH) (a:I .u64) (n:U) (hl:l.length < 1073741824):a3Y K0 ((a,(n,())),(h0,(l,()))) = some ((b0G l a n,()),(h0,(a4T l a n,()))):=by
 refine Wp.out (T:=fun o=>o = some ((b0G l a n,()),(h0,(a4T l a n,())))) ?_
 unfold a3Y
 refine Wp.optF (e0R l h0.2 a (by omega)) (Wp.optF (c2B _ n) ?_)
 unfold b0G a4T f2W
 by_cases h:n.val ≤ (a8M l a).2.1.val
 ·
  simp only [if_pos h,decide_eq_true h]
  refine Wp.brnF (show I.neb (I.of .i64 0) (I.of .i64 0) = false by decide) ?_
  exact Wp.optF (put_eq l h0 (c7U (a8M l a) (U.of ((a8M l a).2.1.val - n.val))) hl) rfl
 ·
  simp only [if_neg h,decide_eq_false h]
  exact Wp.brnT (show I.neb (I.of .i64 4) (I.of .i64 0) = true by decide) rfl
theorem d1X (l:List Ac) (a:I .u64) (n:U):(b7H l a n).length ≤ l.length + 1:=d6H _ _
theorem c1M (l:List Ac) (a:I .u64) (n:U):(a4T l a n).length ≤ l.length + 1:=by
 unfold a4T
 split
 ·
  exact d6H _ _
 ·
  omega
end Sym

/- The ledger of the reference: payments, the supply. -/
namespace Sym
open Go
def g8B {X R S:Type} (g:R→S):Stp X R→Stp X S
 | .again y=>.again y
 | .done r=>.done (g r)
theorem f5W {X R S:Type} (g:R→S) (c:Bool) (t f:Stp X R):g8B g (brn c t f) = brn c (g8B g t) (g8B g f):=by cases c <;> rfl
theorem e6M {X R S:Type} (g:R→S) {fail:R} {f:X→Stp X R} {f':X→Stp X S} (h:∀ x,f' x = g8B g (f x)):∀ k x,iter (g fail) f' k x = g (iter fail f k x)
 | 0,_=>rfl
 | k + 1,x=>by
  unfold iter
  rw [h x]
  cases f x with
  | again y=>exact e6M g h k y
  | done r=>rfl
def g9T (o:Option ((List Dg × Unit) × Unit)):Option (Unit × (List Dg × Unit)):=match o with
 | some y=>some ((),(y.1.1,()))
 | none=>none
theorem f5Q (a b:List Dg):a8T K0 ((a,(b,())),()) = g9T (a1H K0 ((a,(b,())),())):=by
 unfold a8T a1H
 refine e6M g9T (fail:=none) (fun x=>?_) _ _
 unfold jn
 dsimp only
 repeat erw [f5W]
 rfl
theorem f0S {a b:List Dg} {m n:Nat} (ha:IsB a m) (hb:IsB b n) (hal:a.length ≤ 1000000) (hbl:b.length ≤ 1000000):∃ r,a8T K0 ((a,(b,())),()) = some ((),(r,()))∧IsB r (m + n):=by
 obtain ⟨r,h,hB⟩:=b2K ha hb hal hbl
 exact ⟨r,by rw [f5Q]; exact congrArg g9T h,hB⟩
def c0O (l:List Ac):Nat:=(l.map fun x=>U.val x.2.1).sum
def e5N (v:V4):Nat:=v.1.val + v.2.1.val + v.2.2.1.val + v.2.2.2.1.val
theorem f3G {l:List Ac} {i:Nat} (h:i < l.length):c0O (l.take (i + 1)) = c0O (l.take i) + U.val (rdL dA l i).2.1:=by
 unfold c0O
 rw [List.take_add_one,List.getElem?_eq_getElem h,a4G _ _ _ h,List.map_append,List.sum_append]
 simp
theorem e3C (l:List Ac) (hl:l.length ≤ 1073741824):c0O l < 65536 ^ 19:=by
 have:∀ l:List Ac,c0O l ≤ l.length * U.top:=by
  intro l
  induction l with
  | nil=>exact Nat.zero_le _
  | cons x l ih =>
   have:=U.lt x.2.1
   show U.val x.2.1 + c0O l ≤ (l.length + 1) * U.top
   rw [Nat.add_mul]
   omega
 have h1:=this l
 have h2:l.length * U.top ≤ 1073741824 * U.top:=Nat.mul_le_mul_right _ hl
 have h3:1073741824 * U.top < 65536 ^ 19:=by decide
 omega
theorem f5U {l:List Dg} {n:Nat} (h:IsB l n) (hn:n < 65536 ^ 20):l.length ≤ 1000000:=b3P h (k:=20) hn (by decide)
def d8V (v:V4) (i:Nat):Nat:=(if 0 < i then v.1.val else 0) + (if 1 < i then v.2.1.val else 0) + (if 2 < i then v.2.2.1.val else 0) + (if 3 < i then v.2.2.2.1.val else 0)
theorem e9M (v:V4) (i:Nat) (h:i < 4):d8V v (i + 1) = d8V v i + U.val (Arr.sel Z_U 4 v i):=by
 rcases (by omega:i = 0 ∨ i = 1 ∨ i = 2 ∨ i = 3) with rfl | rfl | rfl | rfl
 ·
  show d8V v 1 = d8V v 0 + U.val v.1; simp [d8V]
 ·
  show d8V v 2 = d8V v 1 + U.val v.2.1; simp [d8V]
 ·
  show d8V v 3 = d8V v 2 + U.val v.2.2.1; simp [d8V]
 ·
  show d8V v 4 = d8V v 3 + U.val v.2.2.2.1; simp [d8V]
theorem f0C (v:V4) (i:Nat):d8V v i < 65536 ^ 18:=by
 have h0:=U.lt v.1; have h1:=U.lt v.2.1; have h2:=U.lt v.2.2.1; have h3:=U.lt v.2.2.2.1
 have:4 * U.top < 65536 ^ 18:=by decide
 unfold d8V
 split <;> split <;> split <;> split <;> omega
theorem f3Y (l:List Ac) (v:V4) (hl:l.length ≤ 1073741824):∃ y,a6H K0 (((l,(v,())),()),()) = some y∧∃ r,y = ((r,()),())∧IsB r (c0O l + e5N v):=by
 refine Wp.out (T:=fun o=>∃ y,o = some y∧∃ r,y = ((r,()),())∧IsB r (c0O l + e5N v)) ?_
 unfold a6H
 have hp:(65536 ^ 20:Nat) = 65536 * 65536 ^ 19:=by decide
 have hp2:(65536 ^ 19:Nat) = 65536 * 65536 ^ 18:=by decide
 have hb:=e3C l hl
 refine Wp.iter (fun s=>∃ (i:Nat) (r:List Dg),s = (((l,(v,())),(i6 i,())),(r,()))∧i ≤ l.length∧IsB r (c0O (l.take i))) (fun s=>l.length - s.1.2.1.val.toNat) ?_ ⟨0,[],rfl,by omega,⟨(fun _ h=>by cases h),trivial,rfl⟩⟩ (by rw [a6Y]; show l.length - _ < _; omega)
 rintro s ⟨i,r,rfl,hi,hB⟩
 simp only [a7C,a8Z,c0K,b4T,a2T (show i < 9223372036854775808 by omega) (show l.length < 9223372036854775808 by omega),a3G (show i < 9223372036854775808 by omega),a3S (show i + 1 < 9223372036854775808 by omega)]
 refine Wp.brn (fun hc=>?_) (fun hc=>?_)
 ·
  have hc:=of_decide_eq_true hc
  refine Wp.brnT (a3T (by omega) (by omega)) ?_
  obtain ⟨b1,e1,B1⟩:=a1C (rdL dA l i).2.1
  have hlt:c0O (l.take i) < 65536 ^ 20:=by
   have:=e3C (l.take i) (by rw [List.length_take]; omega)
   omega
  obtain ⟨b2,e2,B2⟩:=f0S hB B1 (f5U hB hlt) (e7T B1)
  refine Wp.optF e1 (Wp.optF e2 ?_)
  exact Wp.again ⟨i + 1,b2,rfl,by omega,by rw [f3G hc]; exact B2⟩ (by show l.length - (i6 (i + 1)).val.toNat < l.length - (i6 i).val.toNat; rw [a0V (by omega),a0V (by omega)]; omega)
 ·
  have hc:i = l.length:=by have:=of_decide_eq_false hc; omega
  subst hc
  rw [List.take_length] at hB
  refine Wp.done ?_
  refine Wp.iter (fun s=>∃ (i:Nat) (r:List Dg),s = (((l,(v,())),(i6 i,())),(r,()))∧i ≤ 4∧IsB r (c0O l + d8V v i)) (fun s=>4 - s.1.2.1.val.toNat) ?_ ⟨0,r,rfl,by omega,hB⟩ (by rw [a6Y]; show 4 - 0 < _; decide)
  rintro s ⟨i,r,rfl,hi,hB⟩
  simp only [show (I.of .i64 4) = i6 4 from rfl,a2T (show i < 9223372036854775808 by omega) (show 4 < 9223372036854775808 by omega),a3G (show i < 9223372036854775808 by omega),a3S (show i + 1 < 9223372036854775808 by omega)]
  refine Wp.brn (fun hc=>?_) (fun hc=>?_)
  ·
   have hc:=of_decide_eq_true hc
   refine Wp.brnT (a3T (by omega) (by omega)) ?_
   obtain ⟨b1,e1,B1⟩:=a1C (Arr.sel Z_U 4 v i)
   have hv:=f0C v i
   obtain ⟨b2,e2,B2⟩:=f0S hB B1 (f5U hB (by omega)) (e7T B1)
   refine Wp.optF e1 (Wp.optF e2 ?_)
   exact Wp.again ⟨i + 1,b2,rfl,by omega,by rw [e9M v i hc,← Nat.add_assoc]; exact B2⟩ (by show 4 - (i6 (i + 1)).val.toNat < 4 - (i6 i).val.toNat; rw [a0V (by omega),a0V (by omega)]; omega)
  ·
   have hc:i = 4:=by have:=of_decide_eq_false hc; omega
   subst hc
   exact Wp.done ⟨_,rfl,r,rfl,hB⟩
end Sym

/- The ledger of the reference: its methods. -/
namespace Sym
open Go
abbrev LgR:Type:=I .i64 × V4 × List Ac
noncomputable def c6F (v:V4) (l:List Ac) (a:I .u64) (n:U):LgR :=
 if a.val = 0 then (I.of .i64 2,v,l)
 else if c0O l + e5N v + n.val < U.top then (I.of .i64 0,v,b7H l a n) else (I.of .i64 4,v,l)
def lgH (v:V4):LgH:=((),(v,()))
theorem g2I (v:V4) (l:List Ac) (a:I .u64) (n:U) (hl:l.length < 1073741824) :
  a7I K0 ((a,(n,())),(lgH v,(l,()))) = some (((c6F v l a n).1,()),(lgH (c6F v l a n).2.1,((c6F v l a n).2.2,()))):=by
 refine Wp.out (T:=fun o=>o = some (((c6F v l a n).1,()),(lgH (c6F v l a n).2.1,((c6F v l a n).2.2,())))) ?_
 unfold a7I c6F
 refine Wp.brn (fun h=>?_) (fun h=>?_)
 ·
  rw [if_pos (by have:=iff_eqb.1 h; exact this)]
  rfl
 ·
  rw [if_neg (by have:=niff_eqb.1 h; exact this)]
  obtain ⟨y,hy,r,rfl,hB⟩:=f3Y l v (by omega)
  obtain ⟨b1,e1,B1⟩:=a1C n
  have hb:=e3C l (by omega)
  have hv:=f0C v 4
  have hv':d8V v 4 = e5N v:=rfl
  have hp:(65536 ^ 20:Nat) = 65536 * 65536 ^ 19:=by decide
  have hp2:(65536 ^ 19:Nat) = 65536 * 65536 ^ 18:=by decide
  have hn:=U.lt n
  have ht:U.top < 65536 ^ 18:=by decide
  obtain ⟨b2,e2,B2⟩:=b2K hB B1 (f5U hB (by omega)) (e7T B1)
  have e3:=e0W B2 (f5U B2 (by omega))
  refine Wp.optF hy (Wp.optF e1 (Wp.optF e2 (Wp.optF e3 ?_)))
  by_cases hc:c0O l + e5N v + n.val < U.top
  ·
   rw [if_pos hc]
   refine Wp.brnF (by rw [decide_eq_true hc]; rfl) ?_
   exact Wp.optF (e0V l (lgH v) a n hl) rfl
  ·
   rw [if_neg hc]
   exact Wp.brnT (by rw [decide_eq_false hc]; rfl) rfl
def f9M (v:V4) (k:Nat) (n:U):V4:=Arr.upd 4 v k n
noncomputable def d4W (v:V4) (k:Nat):U:=Arr.sel Z_U 4 v k
noncomputable def c6D (v:V4) (l:List Ac) (a:I .u64) (k:Nat) (n:U):LgR :=
 if a.val = 0 then (I.of .i64 2,v,l)
 else if b0G l a n = true then (I.of .i64 0,f9M v k (U.of ((d4W v k).val + n.val)),a4T l a n) else (I.of .i64 10,v,a4T l a n)
theorem d8K (v:V4) (l:List Ac) (a:I .u64) (k:Nat) (hk:k < 4) (n:U) (hl:l.length < 1073741824) :
  a2O K0 ((a,(i6 (k + 1),(n,()))),(lgH v,(l,()))) = some (((c6D v l a k n).1,()),(lgH (c6D v l a k n).2.1,((c6D v l a k n).2.2,()))):=by
 refine Wp.out (T:=fun o=>o = some (((c6D v l a k n).1,()),(lgH (c6D v l a k n).2.1,((c6D v l a k n).2.2,())))) ?_
 unfold a2O c6D
 have hsub:I.sub (i6 (k + 1)) (I.of .i64 1) = i6 k:=by rw [b4T,b9U (by omega) (by omega)]; rfl
 refine Wp.jn (fun x=>a.val ≠ 0∧x = ((a,(i6 (k + 1),())),(lgH v,(l,(n,()))))) ?_ ?_
 ·
  rintro x ⟨ha,rfl⟩
  rw [if_neg ha]
  refine Wp.optF (d7G l (lgH v) a n hl) ?_
  refine Wp.brn (fun h=>?_) (fun h=>?_)
  ·
   have h:b0G l a n = false:=by revert h; show a4S (b0G l a n) = true→_; cases b0G l a n <;> simp [a4S]
   rw [if_neg (by rw [h]; decide)]
   rfl
  ·
   have h:b0G l a n = true:=by revert h; show a4S (b0G l a n) = false→_; cases b0G l a n <;> simp [a4S]
   rw [if_pos h]
   have hin:inB (I.sub (i6 (k + 1)) (I.of .i64 1)) 4 = true:=by rw [hsub]; exact a3T hk (by omega)
   refine Wp.brnT hin ?_
   simp only [hsub,a3G (show k < 9223372036854775808 by omega)]
   obtain ⟨b1,e1,B1⟩:=a1C (d4W v k)
   obtain ⟨b2,e2,B2⟩:=a1C n
   obtain ⟨b3,e3,B3⟩:=b2K B1 B2 (e7T B1) (e7T B2)
   have e4:=c4N B3 (f5A B3 (by have:=U.lt (d4W v k); have:=U.lt n; omega))
   exact Wp.optF e1 (Wp.optF e2 (Wp.optF e3 (Wp.optF e4 (Wp.brnT (a3T hk (by omega)) rfl))))
 ·
  intro j hj
  refine Wp.brn (fun h=>?_) (fun h=>?_)
  ·
   rw [if_pos (by have:=iff_eqb.1 h; exact this)]
   rfl
  ·
   have ha:a.val ≠ 0:=by have:=niff_eqb.1 h; exact this
   refine Wp.brnF (niff_ltb.2 (by show (I.of .i64 1).val ≤ (i6 (k + 1)).val; rw [a0V (by omega),show (I.of .i64 1).val = 1 from rfl]; omega)) ?_
   refine Wp.brnF (niff_ltb.2 (by show (i6 (k + 1)).val ≤ (I.of .i64 4).val; rw [a0V (by omega),show (I.of .i64 4).val = 4 from rfl]; omega)) ?_
   exact hj _ ⟨ha,rfl⟩
noncomputable def e9D (l:List Ac) (a:I .u64):I .i64 × List Ac :=
 if a.val = 0 then (I.of .i64 2,l)
 else if (I.add (a8M l a).2.2.1 (I.of .u64 1)).val = 0 then (I.of .i64 4,l)
 else (I.of .i64 0,e1O l ((a8M l a).1,((a8M l a).2.1,(I.add (a8M l a).2.2.1 (I.of .u64 1),(a8M l a).2.2.2))))
theorem g7H (v:V4) (l:List Ac) (a:I .u64) (hl:l.length < 1073741824) :
  a3X K0 ((a,()),(lgH v,(l,()))) = some (((e9D l a).1,()),(lgH v,((e9D l a).2,()))):=by
 refine Wp.out (T:=fun o=>o = some (((e9D l a).1,()),(lgH v,((e9D l a).2,())))) ?_
 unfold a3X e9D
 refine Wp.brn (fun h=>?_) (fun h=>?_)
 ·
  rw [if_pos (by have:=iff_eqb.1 h; exact this)]
  rfl
 ·
  rw [if_neg (by have:=niff_eqb.1 h; exact this)]
  refine Wp.optF (e0R l (lgH v).2 a (by omega)) ?_
  refine Wp.brn (fun h=>?_) (fun h=>?_)
  ·
   rw [if_pos (by have:=iff_eqb.1 h; exact this)]
   rfl
  ·
   rw [if_neg (by have:=niff_eqb.1 h; exact this)]
   exact Wp.optF (put_eq l (lgH v) ((a8M l a).1,((a8M l a).2.1,(I.add (a8M l a).2.2.1 (I.of .u64 1),(a8M l a).2.2.2))) hl) rfl
noncomputable def e1L (l:List Ac) (a:I .u64) (n:U):I .i64 × List Ac :=
 if a.val = 0 then (I.of .i64 2,l) else (if b0G l a n = true then I.of .i64 0 else I.of .i64 10,a4T l a n)
theorem g5J (v:V4) (l:List Ac) (a:I .u64) (n:U) (hl:l.length < 1073741824) :
  a5R K0 ((a,(n,())),(lgH v,(l,()))) = some (((e1L l a n).1,()),(lgH v,((e1L l a n).2,()))):=by
 refine Wp.out (T:=fun o=>o = some (((e1L l a n).1,()),(lgH v,((e1L l a n).2,())))) ?_
 unfold a5R e1L
 refine Wp.brn (fun h=>?_) (fun h=>?_)
 ·
  rw [if_pos (by have:=iff_eqb.1 h; exact this)]
  rfl
 ·
  rw [if_neg (by have:=niff_eqb.1 h; exact this)]
  refine Wp.optF (d7G l (lgH v) a n hl) ?_
  refine Wp.brn (fun h=>?_) (fun h=>?_)
  ·
   have h:b0G l a n = false:=by revert h; show a4S (b0G l a n) = true→_; cases b0G l a n <;> simp [a4S]
   rw [if_neg (by rw [h]; decide)]
   rfl
  ·
   have h:b0G l a n = true:=by revert h; show a4S (b0G l a n) = false→_; cases b0G l a n <;> simp [a4S]
   rw [if_pos h]
   rfl
noncomputable def e9C (l:List Ac) (a b:I .u64) (n:U):I .i64 × List Ac :=
 if a.val = 0 ∨ b.val = 0 then (I.of .i64 2,l)
 else if b0G l a n = true then (I.of .i64 0,b7H (a4T l a n) b n) else (I.of .i64 10,a4T l a n)
theorem g7L (v:V4) (l:List Ac) (a b:I .u64) (n:U) (hl:l.length < 1073741823) :
  a5Q K0 ((a,(b,(n,()))),(lgH v,(l,()))) = some (((e9C l a b n).1,()),(lgH v,((e9C l a b n).2,()))):=by
 refine Wp.out (T:=fun o=>o = some (((e9C l a b n).1,()),(lgH v,((e9C l a b n).2,())))) ?_
 unfold a5Q e9C
 refine Wp.jn (fun x=>(a.val ≠ 0∧b.val ≠ 0)∧x = ((a,(b,())),(lgH v,(l,(n,()))))) ?_ ?_
 ·
  rintro x ⟨⟨ha,hb⟩,rfl⟩
  rw [if_neg (by omega)]
  refine Wp.optF (d7G l (lgH v) a n (by omega)) ?_
  refine Wp.brn (fun h=>?_) (fun h=>?_)
  ·
   have h:b0G l a n = false:=by revert h; show a4S (b0G l a n) = true→_; cases b0G l a n <;> simp [a4S]
   rw [if_neg (by rw [h]; decide)]
   rfl
  ·
   have h:b0G l a n = true:=by revert h; show a4S (b0G l a n) = false→_; cases b0G l a n <;> simp [a4S]
   rw [if_pos h]
   exact Wp.optF (e0V (a4T l a n) (lgH v) b n (by have:=c1M l a n; omega)) rfl
 ·
  intro j hj
  refine Wp.brn (fun h=>?_) (fun h=>?_)
  ·
   rw [if_pos (.inl (by have:=iff_eqb.1 h; exact this))]
   rfl
  ·
   have ha:a.val ≠ 0:=by have:=niff_eqb.1 h; exact this
   refine Wp.brn (fun h=>?_) (fun h=>?_)
   ·
    rw [if_pos (.inr (by have:=iff_eqb.1 h; exact this))]
    rfl
   ·
    exact hj _ ⟨⟨ha,by have:=niff_eqb.1 h; exact this⟩,rfl⟩
end Sym

/- The fees: the whole charge; both programs answer alike. -/
namespace Sym
open Go
def chg (g:I .u64 × I .u64 × I .i64) (lim ex:I .u64) (tip:U):CH :=
 (g.1,g.2.1,I.of .u64 (f7Y lim ex g.2.1:Int),I.of .u64 ((g.2.1.nat + f7Y lim ex g.2.1:Nat):Int),decide (f7Y lim ex g.2.1 < ex.nat),tip,zU,zU,zU,zU,())
def d9B (data:List B8) (lim:I .u64) (cap base unit:U) (p:Prm):I .u64 × I .u64 × I .i64 :=
 if a7E p = false then (I.of .u64 0,I.of .u64 0,I.of .i64 15)
 else if base.val = 0 then (I.of .u64 0,I.of .u64 0,I.of .i64 5)
 else if cap.val < base.val then (I.of .u64 0,I.of .u64 0,I.of .i64 12)
 else g3D data lim base unit p.2.2.2.2.2.2.2.2.2.2.1 p.2.2.2.2.2.2.2.2.2.2.2.1
def e2A (data:List B8) (lim ex:I .u64) (cap tip base unit:U) (p:Prm):CH × I .i64 :=
 if I.neb (d9B data lim cap base unit p).2.2 (I.of .i64 0) = true then (zCH,(d9B data lim cap base unit p).2.2)
 else g1U (chg (d9B data lim cap base unit p) lim ex (U.of (min tip.val (cap.val - base.val)))) base p.2.2.2.2.2.1 p.2.2.2.2.2.2.1
theorem d2Q {p:Prm} (h:a7E p = true):p.2.2.2.2.2.2.1.nat ≤ 10000:=by
 rw [c8Q] at h
 have h7:=of_decide_eq_true (h 7 (by omega) (by omega))
 replace h7:(I.of .u64 0).nat ≤ (d3G p.2.2.2.2.2.2.1).val∧(d3G p.2.2.2.2.2.2.1).val ≤ (I.of .u64 10000).nat:=h7
 rw [c5O] at h7
 have e2:(I.of .u64 10000).nat = 10000:=rfl
 rw [e2] at h7
 exact h7.2
theorem g4D {n:Nat} (h:n < 18446744073709551616):n < 65536 ^ 64:=Nat.lt_trans h (by decide)
theorem g4N {n:Nat} (h:n < 20000 * (U.top * 18446744073709551616)):n < 65536 ^ 64:=Nat.lt_trans h (by decide)
theorem bigB' {n:Nat} (h:n < U.top * 18446744073709551616):n < 65536 ^ 64:=Nat.lt_trans h (by decide)
theorem g8F (a:U) {x:Nat} (hx:x < 18446744073709551616):a.val * x < U.top * 18446744073709551616:=by
 have h1:a.val * x ≤ a.val * 18446744073709551616:=Nat.mul_le_mul_left _ (Nat.le_of_lt hx)
 have h2:a.val * 18446744073709551616 < U.top * 18446744073709551616:=Nat.mul_lt_mul_of_pos_right a.lt (by decide)
 omega
theorem f0G (m n:Nat):I.ltb (c3H m n) (I.of .i64 0) = decide (m < n):=by
 unfold c3H
 by_cases h:m < n
 ·
  rw [if_pos h,decide_eq_true h]; rfl
 ·
  rw [if_neg h,decide_eq_false h]; split <;> rfl
theorem f0W (m n:Nat):I.ltb (I.of .i64 0) (c3H m n) = decide (n < m):=by
 unfold c3H
 by_cases h:m < n
 ·
  rw [if_pos h,decide_eq_false (by omega)]; rfl
 ·
  rw [if_neg h]
  by_cases h2:n < m
  ·
   rw [if_pos h2,decide_eq_true h2]; rfl
  ·
   rw [if_neg h2,decide_eq_false h2]; rfl
theorem f2J (f1 f2 f3 lim ex:I .u64) (data:List B8) (v cap tip base unit:U) (p:Prm) (hd:data.length ≤ 100000000) :
  b4E K0 (((f1,f2,f3,v,lim,cap,tip,ex,data,()),base,unit,p,()),()) = some (((d9B data lim cap base unit p).1,(d9B data lim cap base unit p).2.1,(d9B data lim cap base unit p).2.2,()),()):=by
 generalize hg:d9B data lim cap base unit p = R
 refine Wp.out (T:=fun o=>o = some ((R.1,R.2.1,R.2.2,()),())) ?_
 unfold d9B at hg
 unfold b4E
 refine Wp.optF (b6A p) ?_
 refine Wp.brn (fun h=>?_) (fun h=>?_)
 ·
  have h:a7E p = false:=b3G h
  rw [if_pos h] at hg
  rw [← hg]; rfl
 have hv:a7E p = true:=b3E h
 rw [if_neg (show ¬ a7E p = false by rw [hv]; simp)] at hg
 refine Wp.optF (c1T base) ?_
 refine Wp.brn (fun h=>?_) (fun h=>?_)
 ·
  have h:base.val = 0:=of_decide_eq_true h
  rw [if_pos h] at hg
  rw [← hg]; rfl
 have h0:base.val ≠ 0:=of_decide_eq_false h
 rw [if_neg h0] at hg
 have hcl:=cap.lt
 have hbl:=base.lt
 have hul:=unit.lt
 obtain ⟨l1,e1,b1⟩:=a1C cap
 obtain ⟨l2,e2,b2⟩:=a1C base
 refine Wp.optF e1 (Wp.optF e2 ?_)
 refine Wp.optF (c4G b1 b2 (a6R b1 (b4N (by omega))) (a6R b2 (b4N (by omega)))) ?_
 refine Wp.brn (fun h=>?_) (fun h=>?_)
 ·
  rw [f0G] at h
  rw [if_pos (of_decide_eq_true h)] at hg
  rw [← hg]; rfl
 rw [f0G] at h
 rw [if_neg (of_decide_eq_false h)] at hg
 refine Wp.optF (f1U data _ _ hd) ?_
 unfold g3D at hg
 generalize b8T data p.2.2.2.2.2.2.2.2.2.2.1 p.2.2.2.2.2.2.2.2.2.2.2.1 = u at hg ⊢
 refine Wp.brn (fun h=>?_) (fun h=>?_)
 ·
  have h:I.neb u.2 (I.of .i64 0) = true:=h
  rw [if_pos h] at hg
  rw [← hg]; rfl
 have h:I.neb u.2 (I.of .i64 0) = false:=h
 rw [if_neg (show ¬ I.neb u.2 (I.of .i64 0) = true by rw [h]; simp)] at hg
 obtain ⟨l3,e3,b3⟩:=a1J u.1
 obtain ⟨l4,e4,b4⟩:=a1C unit
 have hu1:=a3E u.1
 have hm:=g8F unit hu1
 rw [Nat.mul_comm] at hm
 refine Wp.optF e3 (Wp.optF e4 ?_)
 obtain ⟨l5,e5,b5⟩:=b2O b3 b4 (a6R b3 (g4D hu1)) (a6R b4 (b4N (by omega)))
 have hl5:=a6R b5 (bigB' hm)
 refine Wp.optF e5 (Wp.optF (c2T b5 (Nat.lt_of_le_of_lt hl5 (by decide))) ?_)
 refine Wp.brn (fun h=>?_) (fun h=>?_)
 ·
  have h:=of_decide_eq_false (b3G h)
  rw [if_pos (by omega)] at hg
  rw [← hg]; rfl
 have h:=of_decide_eq_true (b3E h)
 rw [if_neg (by omega)] at hg
 refine Wp.optF e2 ?_
 obtain ⟨l6,l7,e6,b6,b7⟩:=c4X b5 b2 h0 hl5 (Nat.le_trans (b2.len.2 (Nat.lt_of_lt_of_le base.lt (Nat.le_of_eq top_pow'))) (by decide))
 have hq:u.1.nat * unit.val / base.val < U.top:=Nat.lt_of_le_of_lt (Nat.div_le_self _ _) (by omega)
 generalize u.1.nat * unit.val / base.val = q at hg hq b6 ⊢
 refine Wp.optF e6 ?_
 obtain ⟨l8,e8,b8⟩:=a1J lim
 have hlim:=a3E lim
 refine Wp.optF e8 ?_
 refine Wp.optF (c4G b6 b8 (a6R b6 (b4N (by omega))) (a6R b8 (g4D (by omega)))) ?_
 refine Wp.brn (fun h=>?_) (fun h=>?_)
 ·
  rw [f0W] at h
  rw [if_pos (of_decide_eq_true h)] at hg
  rw [← hg]; rfl
 rw [f0W] at h
 have h:=of_decide_eq_false h
 rw [if_neg h] at hg
 refine Wp.optF (a3B b6 hq) ?_
 rw [← hg]
 show some ((u.1,(U.of q).1,I.of .i64 0,()),()) = _
 rw [g9V (by omega)]
theorem e1V (f1 f2 f3 lim ex:I .u64) (data:List B8) (v cap tip base unit:U) (p:Prm) (hd:data.length ≤ 100000000) :
  a9V K0 (((f1,f2,f3,v,lim,cap,tip,ex,data,()),base,unit,p,()),()) = some (((e2A data lim ex cap tip base unit p).1,(e2A data lim ex cap tip base unit p).2,()),()):=by
 generalize hg:e2A data lim ex cap tip base unit p = R
 refine Wp.out (T:=fun o=>o = some ((R.1,R.2,()),())) ?_
 unfold e2A at hg
 unfold a9V
 refine Wp.optF (f2J f1 f2 f3 lim ex data v cap tip base unit p hd) ?_
 have hprem:I.neb (d9B data lim cap base unit p).2.2 (I.of .i64 0) = false→a7E p = true∧base.val ≤ cap.val∧(d9B data lim cap base unit p).2.1.nat ≤ lim.nat:=by
  intro h
  unfold d9B g3D at h ⊢
  split at h
  ·
   exact absurd h (by decide)
  ·
   rename_i hv
   rw [if_neg hv]
   split at h
   ·
    exact absurd h (by decide)
   ·
    rename_i h0
    rw [if_neg h0]
    split at h
    ·
     exact absurd h (by decide)
    ·
     rename_i hc
     rw [if_neg hc]
     split at h
     ·
      rename_i hu
      exact absurd (h.symm.trans hu) (by decide)
     ·
      rename_i hu
      rw [if_neg hu]
      split at h
      ·
       exact absurd h (by decide)
      ·
       rename_i ht
       rw [if_neg ht]
       split at h
       ·
        exact absurd h (by decide)
       ·
        rename_i hq
        rw [if_neg hq]
        refine ⟨by simpa using hv,Nat.le_of_not_lt hc,?_⟩
        have:=a3E lim
        show (I.of .u64 (_:Int)).nat ≤ _
        rw [b5Q (by omega)]
        omega
 generalize d9B data lim cap base unit p = g at hg hprem ⊢
 obtain ⟨u,po,er⟩:=g
 refine Wp.brn (fun h=>?_) (fun h=>?_)
 ·
  have h:I.neb er (I.of .i64 0) = true:=h
  rw [if_pos h] at hg
  rw [← hg]; rfl
 have h:I.neb er (I.of .i64 0) = false:=h
 obtain ⟨hv,hc,hpo⟩:=hprem h
 simp only at hpo
 rw [if_neg (show ¬ I.neb ((u,po,er):I .u64 × I .u64 × I .i64).2.2 (I.of .i64 0) = true by rw [show I.neb ((u,po,er):I .u64 × I .u64 × I .i64).2.2 (I.of .i64 0) = false from h]; simp)] at hg
 have hb:=d2Q hv
 have hlim:=a3E lim
 have hex:=a3E ex
 have hcl:=cap.lt
 have hbl:=base.lt
 have htl:=tip.lt
 obtain ⟨E,hE⟩:∃ E,E = f7Y lim ex po:=⟨_,rfl⟩
 have hEl:E ≤ lim.nat - po.nat:=by rw [hE]; unfold f7Y; omega
 have hEn:(I.of .u64 (E:Int)).nat = E:=b5Q (by omega)
 refine Wp.jn (fun x=>x = ((po,()),((f1,f2,f3,v,lim,cap,tip,ex,data,()),base,p,zCH,(u,po,I.of .u64 (E:Int),I.of .u64 0,decide (E < ex.nat),zU,zU,zU,zU,zU,()),()))) ?_ ?_
 ·
  rintro x rfl
  unfold g1U chg at hg
  simp only at hg
  rw [← hE] at hg
  rw [hEn,b5Q (n:=po.nat + E) (by omega)] at hg
  obtain ⟨l2,e2,b2⟩:=a1C base
  obtain ⟨l3,e3,b3⟩:=f9N f1 f2 f3 lim ex data v cap tip base hc
  obtain ⟨l4,e4,b4⟩:=a1J po
  have hpo64:=a3E po
  have hl2:=a6R b2 (b4N (by omega))
  have hl4:=a6R b4 (g4D hpo64)
  have hm1:=g8F base hpo64
  refine Wp.optF e2 (Wp.optF e3 (Wp.optF e4 ?_))
  obtain ⟨l5,e5,b5⟩:=b2O b2 b4 hl2 hl4
  have hl5:=a6R b5 (bigB' hm1)
  refine Wp.optF e5 ?_
  obtain ⟨l6,e6,b6⟩:=a1J (I.of .u64 (E:Int))
  rw [hEn] at b6
  have hE64:E < 18446744073709551616:=by omega
  have hl6:=a6R b6 (g4D hE64)
  refine Wp.optF e6 ?_
  obtain ⟨l7,e7,b7⟩:=b2O b2 b6 hl2 hl6
  have hm2:=g8F base hE64
  have hl7:=a6R b7 (bigB' hm2)
  refine Wp.optF e7 ?_
  obtain ⟨l8,e8,b8⟩:=a1C p.2.2.2.2.2.1
  have hil:=U.lt p.2.2.2.2.2.1
  have hl8:=a6R b8 (b4N (by omega))
  refine Wp.optF e8 ?_
  obtain ⟨l9,e9,b9⟩:=f2Z b8 b2 hl8 hl2
  have hl9:=a6R b9 (b4N (by omega))
  refine Wp.optF e9 (Wp.optF e6 ?_)
  obtain ⟨l11,e11,b11⟩:=b2O b9 b6 hl9 hl6
  have hinf:min (U.val p.2.2.2.2.2.1) base.val * E ≤ base.val * E:=Nat.mul_le_mul_right _ (Nat.min_le_right _ _)
  refine Wp.optF e11 ?_
  obtain ⟨l12,e12,b12⟩:=c7W b7 b11 hinf hl7
  have hl12:=a6R b12 (g4N (by omega))
  have hnet:base.val * E - min (U.val p.2.2.2.2.2.1) base.val * E = e5S base p.2.2.2.2.2.1 E:=rfl
  rw [hnet] at b12
  refine Wp.optF e12 ?_
  obtain ⟨l13,e13,b13⟩:=a1J p.2.2.2.2.2.2.1
  have hl13:=a6R b13 (g4D (by omega))
  refine Wp.optF e13 ?_
  obtain ⟨l14,e14,b14⟩:=b2O b12 b13 hl12 hl13
  have hm3:e5S base p.2.2.2.2.2.1 E * p.2.2.2.2.2.2.1.nat ≤ e5S base p.2.2.2.2.2.1 E * 10000:=Nat.mul_le_mul_left _ hb
  have hl14:=a6R b14 (g4N (by omega))
  refine Wp.optF e14 ?_
  obtain ⟨l15,e15,b15⟩:=a1J (I.of .u64 10000)
  have e10k:(I.of .u64 10000).nat = 10000:=rfl
  rw [e10k] at b15
  refine Wp.optF e15 ?_
  obtain ⟨l16,l16',e16,b16,_⟩:=c4X b14 b15 (by decide) hl14 (Nat.le_trans ((IsB.len b15 (k:=1)).2 (by decide)) (by decide))
  have hburn:e5S base p.2.2.2.2.2.1 E * p.2.2.2.2.2.2.1.nat / 10000 = c7S base p.2.2.2.2.2.1 p.2.2.2.2.2.2.1 E:=rfl
  rw [hburn] at b16
  have hbl2:c7S base p.2.2.2.2.2.1 p.2.2.2.2.2.2.1 E ≤ e5S base p.2.2.2.2.2.1 E:=e5D _ _ hb
  refine Wp.optF e16 ?_
  obtain ⟨l17,e17,b17⟩:=c7W b12 b16 hbl2 hl12
  refine Wp.optF e17 ?_
  have eadd:I.add po (I.of .u64 (E:Int)) = I.of .u64 ((po.nat + E:Nat):Int):=by
   apply e2C
   rw [c5M _ _ (by omega),hEn,b5Q (by omega)]
  obtain ⟨l18,e18,b18⟩:=a1J (I.add po (I.of .u64 (E:Int)))
  rw [c5M _ _ (by omega),hEn] at b18
  refine Wp.optF e18 ?_
  have hl18:=a6R b18 (g4D (by omega))
  have hl3:=a6R b3 (b4N (by omega))
  obtain ⟨l19,e19,b19⟩:=b2O b3 b18 hl3 hl18
  have hm4:min tip.val (cap.val - base.val) * (po.nat + E) ≤ cap.val * (po.nat + E):=Nat.mul_le_mul_right _ (by omega)
  have hm5:=g8F cap (x:=po.nat + E) (by omega)
  have hl19:=a6R b19 (g4N (by omega))
  refine Wp.optF e19 ?_
  obtain ⟨l20,e20,b20⟩:=b2K b17 b19 (a6R b17 (g4N (by omega))) hl19
  have hrest:e5S base p.2.2.2.2.2.1 E - c7S base p.2.2.2.2.2.1 p.2.2.2.2.2.2.1 E + min tip.val (cap.val - base.val) * (po.nat + E) = f1G base p.2.2.2.2.2.1 (U.of (min tip.val (cap.val - base.val))) p.2.2.2.2.2.2.1 E (po.nat + E):=by
   unfold f1G
   rw [U.val_of (by omega)]
  have hl20:=a6R b20 (g4N (by omega))
  rw [hrest] at b20
  refine Wp.optF e20 (Wp.jnZ ?_)
  refine Wp.optF (c2T b5 (Nat.lt_of_le_of_lt hl5 (by decide))) ?_
  refine Wp.brn (fun h=>?_) (fun h=>?_)
  ·
   have h:=of_decide_eq_false (b3G h)
   rw [if_pos (.inl (by omega))] at hg
   rw [← hg]; rfl
  have h1:=of_decide_eq_true (b3E h)
  refine Wp.optF (c2T b7 (Nat.lt_of_le_of_lt hl7 (by decide))) ?_
  refine Wp.brn (fun h=>?_) (fun h=>?_)
  ·
   have h:=of_decide_eq_false (b3G h)
   rw [if_pos (.inr (.inl (by omega)))] at hg
   rw [← hg]; rfl
  have h2:=of_decide_eq_true (b3E h)
  refine Wp.optF (c2T b20 (Nat.lt_of_le_of_lt hl20 (by decide))) ?_
  refine Wp.brn (fun h=>?_) (fun h=>?_)
  ·
   have h:=of_decide_eq_false (b3G h)
   rw [if_pos (.inr (.inr (by omega)))] at hg
   rw [← hg]; rfl
  have h3:=of_decide_eq_true (b3E h)
  rw [if_neg (by rintro (h | h | h) <;> omega)] at hg
  refine Wp.optF (a3B b3 (by omega)) (Wp.optF (a3B b5 h1) (Wp.optF (a3B b11 (by omega)) (Wp.optF (a3B b16 (by omega)) (Wp.optF (a3B b20 h3) ?_))))
  rw [← hg,← eadd]
  rfl
 ·
  intro j hj
  have es:(I.sub lim po).nat = lim.nat - po.nat:=e8X _ _ hpo
  refine Wp.brn (fun h=>?_) (fun h=>?_)
  ·
   rw [c3C] at h
   have h:(I.sub lim po).nat < ex.nat:=of_decide_eq_true h
   rw [es] at h
   have hEe:E = lim.nat - po.nat:=by rw [hE]; unfold f7Y; omega
   have e1:I.sub lim po = I.of .u64 (E:Int):=e2C (by rw [es,hEn,hEe])
   refine hj _ ?_
   rw [show decide (E < ex.nat) = true from decide_eq_true (by omega),← e1]
   rfl
  ·
   rw [c3C] at h
   have h:¬ (I.sub lim po).nat < ex.nat:=of_decide_eq_false h
   rw [es] at h
   have hEe:E = ex.nat:=by rw [hE]; unfold f7Y; omega
   have e1:ex = I.of .u64 (E:Int):=e2C (by rw [hEn,hEe])
   refine hj _ ?_
   rw [show decide (E < ex.nat) = false from decide_eq_false (by omega),← e1]
   rfl
end Sym

/- The fees: what is built, what a charge without an error is. -/
namespace Sym
open Go
theorem g0E {data:List B8} {lim:I .u64} {base unit:U} {lo hi:I .u64} (h:I.neb (g3D data lim base unit lo hi).2.2 (I.of .i64 0) = false) :
  ∃ u:I .u64,b8T data lo hi = (u,I.of .i64 0)∧u.nat * unit.val < U.top∧u.nat * unit.val / base.val ≤ lim.nat∧g3D data lim base unit lo hi = (u,I.of .u64 ((u.nat * unit.val / base.val:Nat):Int),I.of .i64 0):=by
 unfold g3D at h ⊢
 split at h
 ·
  rename_i hu
  exact absurd (h.symm.trans hu) (by decide)
 ·
  rename_i hu
  rw [if_neg hu]
  split at h
  ·
   exact absurd h (by decide)
  ·
   rename_i ht
   rw [if_neg ht]
   split at h
   ·
    exact absurd h (by decide)
   ·
    rename_i hq
    rw [if_neg hq]
    generalize b8T data lo hi = r at *
    obtain ⟨u,e⟩:=r
    have he:e = I.of .i64 0:=by
     apply I.ext'
     have:¬ I.neb e (I.of .i64 0) = true:=hu
     rw [iff_neb] at this
     exact Classical.not_not.1 this
    subst he
    exact ⟨u,rfl,by simpa using Nat.lt_of_not_le ht,by simpa using Nat.le_of_not_lt hq,rfl⟩
theorem g7S {data:List B8} {lim ex:I .u64} {cap tip base unit:U} {p:Prm} (h:I.neb (e2A data lim ex cap tip base unit p).2 (I.of .i64 0) = false) :
  ∃ (u:I .u64) (po E T:Nat),base.val ≠ 0∧base.val ≤ cap.val∧T = min tip.val (cap.val - base.val)∧b8T data p.2.2.2.2.2.2.2.2.2.2.1 p.2.2.2.2.2.2.2.2.2.2.2.1 = (u,I.of .i64 0)∧u.nat * unit.val < U.top∧po = u.nat * unit.val / base.val∧po ≤ lim.nat∧E = min ex.nat (lim.nat - po) ∧
   base.val * po < U.top∧base.val * E < U.top∧e5S base p.2.2.2.2.2.1 E - c7S base p.2.2.2.2.2.1 p.2.2.2.2.2.2.1 E + T * (po + E) < U.top ∧
   e2A data lim ex cap tip base unit p = ((u,I.of .u64 (po:Int),I.of .u64 (E:Int),I.of .u64 ((po + E:Nat):Int),decide (E < ex.nat),U.of T,U.of (base.val * po),U.of (min (U.val p.2.2.2.2.2.1) base.val * E),U.of (e5S base p.2.2.2.2.2.1 E - c7S base p.2.2.2.2.2.1 p.2.2.2.2.2.2.1 E + T * (po + E)),U.of (c7S base p.2.2.2.2.2.1 p.2.2.2.2.2.2.1 E),()),I.of .i64 0):=by
 have hcl:=cap.lt
 have hlim:=a3E lim
 unfold e2A at h ⊢
 split at h
 ·
  rename_i hg
  exact absurd (h.symm.trans hg) (by decide)
 ·
  rename_i hg
  rw [if_neg hg]
  have hg':I.neb (d9B data lim cap base unit p).2.2 (I.of .i64 0) = false:=by simpa using hg
  have hR:d9B data lim cap base unit p = g3D data lim base unit p.2.2.2.2.2.2.2.2.2.2.1 p.2.2.2.2.2.2.2.2.2.2.2.1∧base.val ≠ 0∧base.val ≤ cap.val:=by
   unfold d9B at hg' ⊢
   split at hg'
   ·
    exact absurd hg' (by decide)
   ·
    rename_i hv
    rw [if_neg hv]
    split at hg'
    ·
     exact absurd hg' (by decide)
    ·
     rename_i h0
     rw [if_neg h0]
     split at hg'
     ·
      exact absurd hg' (by decide)
     ·
      rename_i hc
      rw [if_neg hc]
      exact ⟨rfl,h0,Nat.le_of_not_lt hc⟩
  obtain ⟨hR,h0,hc⟩:=hR
  rw [hR] at h hg' ⊢
  obtain ⟨u,hu,hcost,hq,hG⟩:=g0E hg'
  rw [hG] at h ⊢
  obtain ⟨po,hpo⟩:∃ po,po = u.nat * unit.val / base.val:=⟨_,rfl⟩
  rw [← hpo] at h hq ⊢
  have hpn:(I.of .u64 (po:Int)).nat = po:=b5Q (by omega)
  obtain ⟨E,hE⟩:∃ E,E = min ex.nat (lim.nat - po):=⟨_,rfl⟩
  have hEx:f7Y lim ex (I.of .u64 (po:Int)) = E:=by unfold f7Y; rw [hpn,hE]
  have hEl:E ≤ lim.nat - po:=by omega
  have hEn:(I.of .u64 (E:Int)).nat = E:=b5Q (by omega)
  unfold g1U chg at h ⊢
  simp only [hEx,hpn,hEn,b5Q (n:=po + E) (by omega)] at h ⊢
  unfold f1G at h ⊢
  rw [U.val_of (n:=min tip.val (cap.val - base.val)) (by omega)] at h ⊢
  split at h
  ·
   exact absurd h (by decide)
  ·
   rename_i hd
   rw [if_neg hd]
   have d1:¬ U.top ≤ base.val * po:=fun h=>hd (.inl h)
   have d2:¬ U.top ≤ base.val * E:=fun h=>hd (.inr (.inl h))
   have d3:=fun h=>hd (.inr (.inr h))
   exact ⟨u,po,E,_,h0,hc,rfl,hu,hcost,hpo,hq,hE,Nat.lt_of_not_le d1,Nat.lt_of_not_le d2,Nat.lt_of_not_le d3,rfl⟩
end Sym

/- The laws of the fees. -/
namespace Sym
open Go
end Sym

/- The base fee of the reference, blocks, parameters. -/
namespace Sym
open Go
theorem d8U {l:List Dg} {a:I .u64} (h:IsB l a.nat):l.length ≤ 1000000:=b3P h (k:=4) (Nat.lt_of_lt_of_le (a3E a) (by decide)) (by decide)
def P40:Nat:=65536 ^ 40
theorem h3M {l:List Dg} {n:Nat} (h:IsB l n) (hn:n < P40):l.length ≤ 900000:=Nat.le_trans (h.len.2 hn) (by decide)
theorem lenK' {l:List Dg} {n:Nat} (h:IsB l n) (hn:n < P40):l.length ≤ 1000000:=Nat.le_trans (h3M h hn) (by decide)
theorem f7L (m n:Nat):I.leb (c3H m n) (I.of .i64 0) = decide (m ≤ n):=by
 unfold c3H
 by_cases h:m < n
 ·
  rw [if_pos h,decide_eq_true (by omega)]; rfl
 ·
  rw [if_neg h]
  by_cases h2:n < m
  ·
   rw [if_pos h2,decide_eq_false (by omega)]; rfl
  ·
   rw [if_neg h2,decide_eq_true (by omega)]; rfl
theorem d0K (a b:I .u64):a.nat * b.nat < 65536 ^ 8:=by
 have h1:=a3E a
 have h2:=a3E b
 have:a.nat * b.nat ≤ 18446744073709551616 * 18446744073709551616 - 1:=by
  have:=Nat.mul_le_mul (show a.nat ≤ 18446744073709551615 by omega) (show b.nat ≤ 18446744073709551615 by omega)
  omega
 have e:(65536 ^ 8:Nat) = 18446744073709551616 * 18446744073709551616:=by decide
 omega
theorem f2A (a b c:I .u64):b0A K0 ((a,(b,(c,()))),()) = some ((I.of .u64 ((a.nat - b.nat * c.nat:Nat):Int),()),()):=by
 refine Wp.out (T:=fun o=>o = some ((I.of .u64 ((a.nat - b.nat * c.nat:Nat):Int),()),())) ?_
 unfold b0A
 obtain ⟨r0,e0,B0⟩:=a1J a
 obtain ⟨r1,e1,B1⟩:=a1J b
 obtain ⟨r2,e2,B2⟩:=a1J c
 obtain ⟨r3,e3,B3⟩:=b2O B1 B2 (d8U B1) (d8U B2)
 have h3:=d0K b c
 have l3:=b3P B3 h3 (by decide)
 have e4:=c4G B0 B3 (d8U B0) l3
 refine Wp.optF e0 (Wp.optF e1 (Wp.optF e2 (Wp.optF e3 (Wp.optF e4 ?_))))
 have hc:=f7L a.nat (b.nat * c.nat)
 have ha:=a3E a
 refine Wp.brn (fun h=>?_) (fun h=>?_)
 ·
  have h:I.leb (c3H a.nat (b.nat * c.nat)) (I.of .i64 0) = true:=h
  rw [hc] at h
  rw [show a.nat - b.nat * c.nat = 0 by have:=of_decide_eq_true h; omega]
  rfl
 ·
  have h:I.leb (c3H a.nat (b.nat * c.nat)) (I.of .i64 0) = false:=h
  rw [hc] at h
  have h:=of_decide_eq_false h
  obtain ⟨r5,e5,B5⟩:=c7W B0 B3 (by omega) (d8U B0)
  have e6:=c4N B5 (b3P B5 (k:=4) (Nat.lt_of_le_of_lt (Nat.sub_le _ _) (Nat.lt_of_lt_of_le ha (by decide))) (by decide))
  refine Wp.optF e5 (Wp.optF e6 ?_)
  show some (((U.of _).1,()),()) = _
  rw [f2L (by omega)]
def g0T (p:Prm):Prop:=p.1.nat ≠ 0∧p.2.2.1.nat ≠ 0
theorem d9O {p:Prm} (h:a7E p = true):g0T p:=by
 rw [c8Q] at h
 have h1:=h 1 (by omega) (by omega)
 have h3:=h 3 (by omega) (by omega)
 have h1:=of_decide_eq_true h1
 have h3:=of_decide_eq_true h3
 replace h1:(I.of .u64 1).nat ≤ (d3G p.1).val∧_:=h1
 replace h3:(I.of .u64 1).nat ≤ (d3G p.2.2.1).val∧_:=h3
 rw [c5O] at h1 h3
 have c1:(I.of .u64 1).nat = 1:=rfl
 constructor <;> omega
def c9Z (b:I .u64) (p:Prm):Nat:=min ((b.nat - p.1.nat * p.2.1.nat) * 10000 / (p.2.2.1.nat * p.1.nat)) 200000
theorem e1R (b:I .u64) (p:Prm):a9B K0 ((b,(p,())),()) = some (((if a7E p = true then I.of .u64 ((c9Z b p:Nat):Int) else I.of .u64 0),((if a7E p = true then I.of .i64 0 else I.of .i64 15),())),()):=by
 refine Wp.out (T:=fun o=>o = some (((if a7E p = true then I.of .u64 ((c9Z b p:Nat):Int) else I.of .u64 0),((if a7E p = true then I.of .i64 0 else I.of .i64 15),())),())) ?_
 unfold a9B
 refine Wp.optF (b6A p) ?_
 by_cases hv:a7E p = true
 ·
  rw [if_pos hv,if_pos hv]
  refine Wp.brnF (by rw [hv]; rfl) ?_
  have hex:b0M K0 ((b,(p.1,(p.2.1,()))),()) = some ((I.of .u64 ((b.nat - p.1.nat * p.2.1.nat:Nat):Int),()),()):=by
   refine Wp.out (T:=fun o=>o = some ((I.of .u64 ((b.nat - p.1.nat * p.2.1.nat:Nat):Int),()),())) ?_
   unfold b0M
   exact Wp.optF (f2A b p.1 p.2.1) rfl
  have hb:=a3E b
  have hxn:(I.of .u64 ((b.nat - p.1.nat * p.2.1.nat:Nat):Int)).nat = b.nat - p.1.nat * p.2.1.nat:=b5Q (by omega)
  obtain ⟨r2,e2,B2⟩:=a1J (I.of .u64 ((b.nat - p.1.nat * p.2.1.nat:Nat):Int))
  obtain ⟨r3,e3,B3⟩:=a1J (I.of .u64 10000)
  obtain ⟨r4,e4,B4⟩:=b2O B2 B3 (d8U B2) (d8U B3)
  obtain ⟨r5,e5,B5⟩:=a1J p.2.2.1
  obtain ⟨r6,e6,B6⟩:=a1J p.1
  obtain ⟨r7,e7,B7⟩:=b2O B5 B6 (d8U B5) (d8U B6)
  have h4:=d0K (I.of .u64 ((b.nat - p.1.nat * p.2.1.nat:Nat):Int)) (I.of .u64 10000)
  have h7:=d0K p.2.2.1 p.1
  obtain ⟨s1,s3⟩:=d9O hv
  obtain ⟨q,rr,e8,B8,_⟩:=c4X B4 B7 (Nat.mul_ne_zero s3 s1) (b3P B4 h4 (by decide)) (Nat.le_trans (B7.len.2 h7) (by decide))
  obtain ⟨r9,e9,B9⟩:=a1J (I.of .u64 200000)
  have hq:(I.of .u64 ((b.nat - p.1.nat * p.2.1.nat:Nat):Int)).nat * (I.of .u64 10000).nat / (p.2.2.1.nat * p.1.nat) < 65536 ^ 8:=Nat.lt_of_le_of_lt (Nat.div_le_self _ _) h4
  obtain ⟨y,e10,r10,rfl,B10⟩:=e2L B8 B9 (b3P B8 hq (by decide)) (d8U B9)
  have c1:(I.of .u64 10000).nat = 10000:=rfl
  have c2:(I.of .u64 200000).nat = 200000:=rfl
  rw [hxn,c1,c2] at B10
  have hm:min ((b.nat - p.1.nat * p.2.1.nat) * 10000 / (p.2.2.1.nat * p.1.nat)) 200000 ≤ 200000:=Nat.min_le_right _ _
  have e11:=c4N B10 (b3P B10 (k:=2) (Nat.lt_of_le_of_lt hm (by decide)) (by decide))
  refine Wp.optF hex (Wp.optF e2 (Wp.optF e3 (Wp.optF e4 (Wp.optF e5 (Wp.optF e6 (Wp.optF e7 (Wp.optF e8 (Wp.optF e9 (Wp.optF e10 (Wp.optF e11 ?_))))))))))
  show some (((U.of _).1,_),()) = _
  rw [f2L (by omega)]
  rfl
 ·
  rw [if_neg hv,if_neg hv]
  have hv:a7E p = false:=by cases h:a7E p with | true=>exact absurd h hv | false=>rfl
  exact Wp.brnT (by rw [hv]; rfl) rfl
end Sym

/- The exponential, the base fee, blocks. -/
namespace Sym
open Go
def g7Y (x:Nat):Nat→Nat→Nat
 | 0,y=>y
 | k + 1,y=>g7Y x k (10000 + y * x / ((k + 1) * 10000))
def f4H (x b:Nat):Nat:=g7Y x b 10000
def pwE (j:Nat):Nat:=2 ^ (20 * (j + 1))
theorem e4K (j:Nat):pwE (j + 1) = pwE j * 1048576:=by
 unfold pwE
 rw [show 20 * (j + 1 + 1) = 20 * (j + 1) + 20 by omega,Nat.pow_add]
theorem f0V (j:Nat):0 < pwE j:=Nat.pow_pos (by decide)
theorem e5Y:∀ (n j:Nat),pwE j ≤ pwE (j + n)
 | 0,_=>Nat.le_refl _
 | n + 1,j=>by
  have h1:=e5Y n j
  have h2:=e4K (j + n)
  have h3:=f0V (j + n)
  rw [← Nat.add_assoc,h2]
  omega
theorem g9Z:pwE 20 * 200000 < P40:=by
 decide +kernel
theorem h0E {j:Nat} (h:j ≤ 20):pwE j * 200000 < P40:=by
 have h1:=e5Y (20 - j) j
 rw [show j + (20 - j) = 20 by omega] at h1
 exact Nat.lt_of_le_of_lt (Nat.mul_le_mul_right _ h1) g9Z
theorem e9Q {y x k j:Nat} (hx:x ≤ 200000) (hy:y < pwE j):10000 + y * x / ((k + 1) * 10000) < pwE (j + 1):=by
 have h1:y * x / ((k + 1) * 10000) ≤ y * x:=Nat.div_le_self _ _
 have h2:y * x ≤ (pwE j - 1) * 200000:=Nat.mul_le_mul (by omega) hx
 have e:=e4K j
 have hp:=f0V j
 generalize pwE j = P at *
 omega
theorem g6T (a:I .u64) (b:Nat) (hb:1 ≤ b) (hb2:b ≤ 20):b5D K0 ((a,(i6 b,())),()) = some ((if a.nat ≤ 200000 then (U.of (f4H a.nat b)).1 else I.of .u64 0,(if a.nat ≤ 200000 then I.of .i64 0 else I.of .i64 2,())),()):=by
 refine Wp.out (T:=fun o=>o = some ((if a.nat ≤ 200000 then (U.of (f4H a.nat b)).1 else I.of .u64 0,(if a.nat ≤ 200000 then I.of .i64 0 else I.of .i64 2,())),())) ?_
 unfold b5D
 have c2:(I.of .u64 200000).nat = 200000:=rfl
 refine Wp.jn (fun x=>a.nat ≤ 200000∧x = ((a,(i6 b,())),())) ?_ ?_
 ·
  rintro x ⟨ha,rfl⟩
  rw [if_pos ha,if_pos ha]
  obtain ⟨r1,e1,B1⟩:=a1J (I.of .u64 10000)
  have c1:(I.of .u64 10000).nat = 10000:=rfl
  refine Wp.optF e1 ?_
  refine Wp.iter (fun s=>∃ (k j y:Nat) (r:List Dg),s = ((a,(r,(i6 k,()))),())∧k + j = b∧IsB r y∧y < pwE j∧g7Y a.nat k y = f4H a.nat b) (fun s=>s.1.2.2.1.val.toNat) ?_ ⟨b,0,_,r1,rfl,rfl,B1,by rw [c1]; decide +kernel,by rw [c1]; rfl⟩ (by rw [a6Y]; show (i6 b).val.toNat < _; rw [a0V (by omega)]; omega)
  rintro s ⟨k,j,y,r,rfl,hk,hB,hy,he⟩
  have hpw:=h0E (show j ≤ 20 by omega)
  have hyx:y * a.nat < P40:=by
   have h2:y * a.nat ≤ pwE j * 200000:=Nat.mul_le_mul (Nat.le_of_lt hy) ha
   omega
  have hy40:y < P40:=by
   have:pwE j * 1 ≤ pwE j * 200000:=Nat.mul_le_mul_left _ (by decide)
   omega
  refine Wp.brn (fun hc=>?_) (fun hc=>?_)
  ·
   have hc:1 ≤ k:=by have:=iff_leb.1 hc; simp only [a0V (show k < 9223372036854775808 by omega),show (I.of .i64 1).val = 1 from rfl] at this; omega
   obtain ⟨k',rfl⟩:∃ k',k = k' + 1:=⟨k - 1,by omega⟩
   obtain ⟨r3,e3,B3⟩:=a1J a
   obtain ⟨r4,e4,B4⟩:=b2O hB B3 (lenK' hB hy40) (d8U B3)
   have hcv:I.conv .u64 (i6 (k' + 1)) = I.of .u64 ((k' + 1:Nat):Int):=by
    unfold I.conv
    rw [a0V (by omega)]
   have hkn:(I.of .u64 ((k' + 1:Nat):Int)).nat = k' + 1:=b5Q (by omega)
   obtain ⟨r5,e5,B5⟩:=a1J (I.of .u64 ((k' + 1:Nat):Int))
   obtain ⟨r7,e7,B7⟩:=b2O B5 B1 (d8U B5) (d8U B1)
   have h7:=d0K (I.of .u64 ((k' + 1:Nat):Int)) (I.of .u64 10000)
   rw [hkn,c1] at B7 h7
   obtain ⟨q,rr,e8,B8,_⟩:=c4X B4 B7 (by omega) (lenK' B4 hyx) (Nat.le_trans (B7.len.2 h7) (by decide))
   have h8:y * a.nat / ((k' + 1) * 10000) < P40:=Nat.lt_of_le_of_lt (Nat.div_le_self _ _) hyx
   obtain ⟨r10,e10,B10⟩:=b2K B1 B8 (d8U B1) (lenK' B8 h8)
   rw [c1] at B10
   have e5':a0H K0 ((I.conv .u64 (i6 (k' + 1)),()),()) = some ((r5,()),()):=by rw [hcv]; exact e5
   refine Wp.optF e3 (Wp.optF e4 (Wp.optF e5' (Wp.optF e1 (Wp.optF e7 (Wp.optF e8 (Wp.optF e1 (Wp.optF e10 ?_)))))))
   have hs:I.sub (i6 (k' + 1)) (I.of .i64 1) = i6 k':=by rw [b4T,b9U (by omega) (by omega)]; rfl
   have he':g7Y a.nat k' (10000 + y * a.nat / ((k' + 1) * 10000)) = f4H a.nat b:=he
   have hst:=e9Q (k:=k') ha hy
   generalize 10000 + y * a.nat / ((k' + 1) * 10000) = z at B10 he' hst
   refine Wp.again ⟨k',j + 1,z,r10,by show ((a,(r10,(I.sub (i6 (k' + 1)) (I.of .i64 1),()))),()) = _; rw [hs]; rfl,by omega,B10,hst,he'⟩ (by show (I.sub (i6 (k' + 1)) (I.of .i64 1)).val.toNat < (i6 (k' + 1)).val.toNat; rw [hs,a0V (by omega),a0V (by omega)]; omega)
  ·
   have hc:k = 0:=by have:=niff_leb.1 hc; simp only [a0V (show k < 9223372036854775808 by omega),show (I.of .i64 1).val = 1 from rfl] at this; omega
   subst hc
   have e:=c4N hB (lenK' hB hy40)
   have he:y = f4H a.nat b:=he
   rw [he] at e
   exact Wp.done (Wp.optF e rfl)
 ·
  intro j hj
  refine Wp.brn (fun h=>?_) (fun h=>?_)
  ·
   have h:(I.of .u64 200000).val < a.val:=iff_ltb.1 h
   have h1:=a1Y a
   have h2:(I.of .u64 200000).val = 200000:=rfl
   rw [if_neg (by omega),if_neg (by omega)]
   rfl
  ·
   have h:a.val ≤ (I.of .u64 200000).val:=niff_ltb.1 h
   have h1:=a1Y a
   have h2:(I.of .u64 200000).val = 200000:=rfl
   refine Wp.brnF (niff_ltb.2 (by show (I.of .i64 1).val ≤ (i6 b).val; rw [a0V (by omega),show (I.of .i64 1).val = 1 from rfl]; omega)) ?_
   refine Wp.brnF (niff_ltb.2 (by show (i6 b).val ≤ (I.of .i64 20).val; rw [a0V (by omega),show (I.of .i64 20).val = 20 from rfl]; omega)) ?_
   exact hj _ ⟨by omega,rfl⟩
theorem f8F (a:U) (b:I .u64):b2V K0 ((a,(b,())),()) = some (((c3X (a.val * b.nat / 10000)).1,((c3X (a.val * b.nat / 10000)).2,())),()):=by
 refine Wp.out (T:=fun o=>o = some (((c3X (a.val * b.nat / 10000)).1,((c3X (a.val * b.nat / 10000)).2,())),())) ?_
 unfold b2V
 obtain ⟨r0,e0,B0⟩:=a1C a
 obtain ⟨r1,e1,B1⟩:=a1J b
 obtain ⟨r2,e2,B2⟩:=b2O B0 B1 (e7T B0) (d8U B1)
 obtain ⟨r3,e3,B3⟩:=a1J (I.of .u64 10000)
 have c1:(I.of .u64 10000).nat = 10000:=rfl
 have h2:a.val * b.nat < P40:=by
  have h3:a.val * b.nat ≤ U.top * 18446744073709551616:=Nat.mul_le_mul (Nat.le_of_lt (U.lt a)) (Nat.le_of_lt (a3E b))
  exact Nat.lt_of_le_of_lt h3 (by decide +kernel)
 rw [c1] at B3
 obtain ⟨q,rr,e4,B4,_⟩:=c4X B2 B3 (by decide) (lenK' B2 h2) (Nat.le_trans (B3.len.2 (show 10000 < 65536 ^ 1 by decide)) (by decide))
 have e5:=Checked_ok' B4 (lenK' B4 (Nat.lt_of_le_of_lt (Nat.div_le_self _ _) h2))
 exact Wp.optF e0 (Wp.optF e1 (Wp.optF e2 (Wp.optF e3 (Wp.optF e4 (Wp.optF e5 rfl)))))
noncomputable def d2D (b:I .u64) (p:Prm):U × I .i64 :=
 if a7E p = true then c3X (U.val p.2.2.2.1 * (U.of (f4H (c9Z b p) 10)).1.nat / 10000) else (Z_U,I.of .i64 15)
theorem d8N (b:I .u64) (p:Prm):c9Z b p ≤ 200000:=Nat.min_le_right _ _
theorem g4L (b:I .u64) (p:Prm):b1H K0 ((b,(p,())),()) = some (((d2D b p).1,((d2D b p).2,())),()):=by
 refine Wp.out (T:=fun o=>o = some (((d2D b p).1,((d2D b p).2,())),())) ?_
 unfold b1H d2D
 refine Wp.optF (e1R b p) ?_
 by_cases hv:a7E p = true
 ·
  rw [if_pos hv,if_pos hv,if_pos hv]
  refine Wp.brnF (show I.neb (I.of .i64 0) (I.of .i64 0) = false by decide) ?_
  have hx:(I.of .u64 ((c9Z b p:Nat):Int)).nat = c9Z b p:=b5Q (by have:=d8N b p; omega)
  have hE:=g6T (I.of .u64 ((c9Z b p:Nat):Int)) 10 (by omega) (by omega)
  rw [hx,if_pos (d8N b p),if_pos (d8N b p)] at hE
  have hS:a9U K0 ((p.2.2.2.1,(I.of .u64 ((c9Z b p:Nat):Int),(I.of .i64 10,()))),()) = some (((c3X (U.val p.2.2.2.1 * (U.of (f4H (c9Z b p) 10)).1.nat / 10000)).1,((c3X (U.val p.2.2.2.1 * (U.of (f4H (c9Z b p) 10)).1.nat / 10000)).2,())),()):=by
   refine Wp.out (T:=fun o=>o = some (((c3X (U.val p.2.2.2.1 * (U.of (f4H (c9Z b p) 10)).1.nat / 10000)).1,((c3X (U.val p.2.2.2.1 * (U.of (f4H (c9Z b p) 10)).1.nat / 10000)).2,())),())) ?_
   unfold a9U
   exact Wp.optF hE (Wp.brnF (show I.neb (I.of .i64 0) (I.of .i64 0) = false by decide) (Wp.optF (f8F _ _) rfl))
  exact Wp.optF hS rfl
 ·
  rw [if_neg hv,if_neg hv,if_neg hv]
  exact Wp.brnT (show I.neb (I.of .i64 15) (I.of .i64 0) = true by decide) rfl
abbrev f9Q:Type:=a7N
noncomputable def c4J (k:f9Q) (sec left:I .u64) (p:Prm):f9Q × I .i64 :=
 if 1 ≤ sec.val∧sec.val ≤ 1048576 then
  if (d2D left p).2.val ≠ 0 then (a4A,(d2D left p).2)
  else if (I.add k.1 (I.of .u64 1)).val = 0 then (a4A,I.of .i64 4)
  else if (I.add k.2.1 sec).val < k.2.1.val then (a4A,I.of .i64 4)
  else ((I.add k.1 (I.of .u64 1),(I.add k.2.1 sec,(I.of .u64 0,((d2D left p).1,())))),I.of .i64 0)
 else (a4A,I.of .i64 2)
theorem f5O (k:f9Q) (sec left:I .u64) (p:Prm):b2Y K0 ((k,(sec,(left,(p,())))),()) = some (((c4J k sec left p).1,((c4J k sec left p).2,())),()):=by
 refine Wp.out (T:=fun o=>o = some (((c4J k sec left p).1,((c4J k sec left p).2,())),())) ?_
 unfold b2Y c4J
 have c1:(I.of .u64 1).val = 1:=rfl
 have c2:(I.of .u64 1048576).val = 1048576:=rfl
 refine Wp.jn (fun x=>(1 ≤ sec.val∧sec.val ≤ 1048576)∧x = ((sec,(left,())),(k,(p,(a4A,()))))) ?_ ?_
 ·
  rintro x ⟨hs,rfl⟩
  rw [if_pos hs]
  refine Wp.optF (g4L left p) ?_
  refine Wp.brn (fun h=>?_) (fun h=>?_)
  ·
   have h:(d2D left p).2.val ≠ 0:=iff_neb.1 h
   simp only [if_pos h]
   rfl
  ·
   have h:¬ (d2D left p).2.val ≠ 0:=by have h:(d2D left p).2.val = 0:=niff_neb.1 h; omega
   simp only [if_neg h]
   refine Wp.brn (fun h=>?_) (fun h=>?_)
   ·
    rw [if_pos (by have:=iff_eqb.1 h; exact this)]
    rfl
   ·
    rw [if_neg (by have:=niff_eqb.1 h; exact this)]
    refine Wp.brn (fun h=>?_) (fun h=>?_)
    ·
     rw [if_pos (by have:=iff_ltb.1 h; exact this)]
     rfl
    ·
     rw [if_neg (by have:=niff_ltb.1 h; omega)]
     rfl
 ·
  intro j hj
  refine Wp.brn (fun h=>?_) (fun h=>?_)
  ·
   have h:=iff_ltb.1 h
   rw [if_neg (by simp only [c1] at h; omega)]
   rfl
  ·
   have h:=niff_ltb.1 h
   refine Wp.brn (fun h2=>?_) (fun h2=>?_)
   ·
    have h2:=iff_ltb.1 h2
    rw [if_neg (by simp only [c2] at h2; omega)]
    rfl
   ·
    have h2:=niff_ltb.1 h2
    exact hj _ ⟨by simp only [c1,c2] at h h2; omega,rfl⟩
end Sym

/- Hashes and trees of the reference: they end. -/
namespace Sym
open Go
def Tot {Y:Type} (o:Option Y):Prop:=∃ y,o = some y
theorem Wp.tot {R Y:Type} {T:R→Prop} {fail:R} {o:Option Y} {k:Y→R} (ho:Tot o) (h:∀ y,Wp T (k y)):Wp T (Sym.optF fail o k):=by
 obtain ⟨y,rfl⟩:=ho
 exact h y
abbrev Hs:Type:=a0G
theorem b8I {X:Type} (l:List X) (a n:Nat):(a3W l a n).length = min n (l.length - a):=by
 unfold a3W
 rw [List.length_take,List.length_drop]
theorem b3R (a:I .u32) (b:I .u64):Tot (a2S K0 ((a,(b,())),())):=by
 refine Wp.out (T:=fun o=>Tot o) ?_
 unfold a2S
 exact Wp.brnT (c3J _) (Wp.brnT (c3J _) ⟨_,rfl⟩)
theorem f2D (a:b5X) (b:List (I .u8)) (hb:b.length = 64):Tot (b2R K0 ((a,(b,())),())):=by
 refine Wp.out (T:=fun o=>Tot o) ?_
 unfold b2R
 refine Wp.tot ⟨_,rfl⟩ (fun y0=>?_)
 have m4:∀ i,i < 16→I.mul (I.of .i64 4) (i6 i) = i6 (4 * i):=by
  intro i hi
  apply I.ext'
  rw [c4I (by rw [a0V (by omega),show (I.of .i64 4).val = 4 from rfl]; omega),a0V (by omega),a0V (by omega),show (I.of .i64 4).val = 4 from rfl]
  omega
 have ad:∀ (i j:Nat),i < 64→j < 64→I.add (i6 i) (I.of .i64 (j:Int)) = i6 (i + j):=fun i j hi hj=>a3S (by omega)
 have sb:∀ (i j:Nat),i < 64→j ≤ i→I.sub (i6 i) (I.of .i64 (j:Int)) = i6 (i - j):=fun i j hi hj=>b9U (by omega) hj
 have inb:∀ i n,i < n→n < 1000→inB (i6 i) n = true:=fun i n h h2=>a3T h (by omega)
 refine Wp.iter (fun x=>x.1.1 = b∧∃ i,i ≤ 64∧x.1.2.1 = i6 i) (fun x=>64 - x.1.2.1.val.toNat) ?_ ⟨rfl,0,by omega,rfl⟩ (by rw [a6Y]; show 64 - 0 < _; decide)
 rintro ⟨⟨b',j,⟨⟩⟩,x2⟩ ⟨e,i,hi,e2⟩
 simp only at e e2
 subst e e2
 have hm:∀ j,j = i + 1→64 - (i6 j).val.toNat < 64 - (i6 i).val.toNat ∨ 64 ≤ i:=by
  intro j hj; rw [a0V (by omega),a0V (by omega)]; omega
 have hn:I.add (i6 i) (I.of .i64 1) = i6 (i + 1):=a3S (m:=1) (by omega)
 have hlen:a0I b' = 64:=hb
 refine Wp.brn (fun hc=>?_) (fun hc=>?_)
 ·
  have hc:i < 64:=by have:=iff_ltb.1 hc; simp only [a0V (show i < 9223372036854775808 by omega),show (I.of .i64 64).val = 64 from rfl] at this; omega
  have ag:∀ z,Wp (Rnd (fun o:Option _=>Tot o) (fun x:((List (I .u8)) × ((I .i64) × Unit)) × _=>x.1.1 = b'∧∃ i,i ≤ 64∧x.1.2.1 = i6 i) (fun x=>64 - x.1.2.1.val.toNat) (64 - (i6 i).val.toNat)) (.again ((b',(I.add (i6 i) (I.of .i64 1),())),z):Stp (((List (I .u8)) × ((I .i64) × Unit)) × (b5X × (b5X × (c4T × (c4T × Unit))))) (Option ((⟨[.pl (.arr 8 (.int .u32))],[]⟩:Tm).D))):=by
   intro z
   refine Wp.again ⟨rfl,i + 1,by omega,hn⟩ ?_
   show 64 - (I.add (i6 i) (I.of .i64 1)).val.toNat < _
   rw [hn]
   exact (hm _ rfl).resolve_right (by omega)
  refine Wp.brn (fun h16=>?_) (fun h16=>?_)
  ·
   have h16:i < 16:=by have:=iff_ltb.1 h16; simp only [a0V (show i < 9223372036854775808 by omega),show (I.of .i64 16).val = 16 from rfl] at this; omega
   simp only [m4 i h16,hlen]
   rw [show I.add (i6 (4 * i)) (I.of .i64 1) = i6 (4 * i + 1) from ad (4 * i) 1 (by omega) (by omega),show I.add (i6 (4 * i)) (I.of .i64 2) = i6 (4 * i + 2) from ad (4 * i) 2 (by omega) (by omega),show I.add (i6 (4 * i)) (I.of .i64 3) = i6 (4 * i + 3) from ad (4 * i) 3 (by omega) (by omega)]
   exact Wp.brnT (inb _ _ (by omega) (by omega)) (Wp.brnT (inb _ _ (by omega) (by omega)) (Wp.brnT (inb _ _ (by omega) (by omega)) (Wp.brnT (inb _ _ (by omega) (by omega)) (Wp.brnT (inb _ _ (by omega) (by omega)) (ag _)))))
  ·
   have h16:16 ≤ i:=by have:=niff_ltb.1 h16; simp only [a0V (show i < 9223372036854775808 by omega),show (I.of .i64 16).val = 16 from rfl] at this; omega
   rw [show I.sub (i6 i) (I.of .i64 15) = i6 (i - 15) from sb i 15 hc (by omega),show I.sub (i6 i) (I.of .i64 2) = i6 (i - 2) from sb i 2 hc (by omega),show I.sub (i6 i) (I.of .i64 16) = i6 (i - 16) from sb i 16 hc (by omega),show I.sub (i6 i) (I.of .i64 7) = i6 (i - 7) from sb i 7 hc (by omega)]
   refine Wp.brnT (inb _ _ (by omega) (by omega)) (Wp.brnT (inb _ _ (by omega) (by omega)) (Wp.brnT (inb _ _ (by omega) (by omega)) (Wp.tot (b3R _ _) fun y2=>Wp.tot (b3R _ _) fun y3=>Wp.brnT (inb _ _ (by omega) (by omega)) (Wp.tot (b3R _ _) fun y4=>Wp.tot (b3R _ _) fun y5=>Wp.brnT (inb _ _ (by omega) (by omega)) (ag _)))))
 ·
  refine Wp.done ?_
  refine Wp.iter (fun x=>∃ i,i ≤ 64∧x.1.1 = i6 i) (fun x=>64 - x.1.1.val.toNat) ?_ ⟨0,by omega,rfl⟩ (by rw [a6Y]; show 64 - 0 < _; decide)
  rintro ⟨⟨j,⟨⟩⟩,x2⟩ ⟨k,hk,e2⟩
  simp only at e2
  subst e2
  refine Wp.brn (fun hc=>?_) (fun hc=>?_)
  ·
   have hc:k < 64:=by have:=iff_ltb.1 hc; simp only [a0V (show k < 9223372036854775808 by omega),show (I.of .i64 64).val = 64 from rfl] at this; omega
   have hn:I.add (i6 k) (I.of .i64 1) = i6 (k + 1):=a3S (m:=1) (by omega)
   refine Wp.tot (b3R _ _) fun y3=>Wp.tot (b3R _ _) fun y4=>Wp.tot (b3R _ _) fun y5=>Wp.brnT (inb _ _ hc (by omega)) (Wp.brnT (inb _ _ hc (by omega)) (Wp.tot (b3R _ _) fun y6=>Wp.tot (b3R _ _) fun y7=>Wp.tot (b3R _ _) fun y8=>?_))
   refine Wp.again ⟨k + 1,by omega,hn⟩ ?_
   show 64 - (I.add (i6 k) (I.of .i64 1)).val.toNat < 64 - (i6 k).val.toNat
   rw [hn,a0V (by omega),a0V (by omega)]; omega
  ·
   refine Wp.done ?_
   refine Wp.iter (fun x=>∃ i,i ≤ 8∧x.1.1 = i6 i) (fun x=>8 - x.1.1.val.toNat) ?_ ⟨0,by omega,rfl⟩ (by rw [a6Y]; show 8 - 0 < _; decide)
   rintro ⟨⟨j,⟨⟩⟩,x3⟩ ⟨q,hq,e2⟩
   simp only at e2
   subst e2
   refine Wp.brn (fun hc=>?_) (fun hc=>Wp.done ⟨_,rfl⟩)
   have hc:q < 8:=by have:=iff_ltb.1 hc; simp only [a0V (show q < 9223372036854775808 by omega),show (I.of .i64 8).val = 8 from rfl] at this; omega
   have hn:I.add (i6 q) (I.of .i64 1) = i6 (q + 1):=a3S (m:=1) (by omega)
   refine Wp.brnT (inb _ _ hc (by omega)) (Wp.brnT (inb _ _ hc (by omega)) (Wp.brnT (inb _ _ hc (by omega)) ?_))
   refine Wp.again ⟨q + 1,by omega,hn⟩ ?_
   show 8 - (I.add (i6 q) (I.of .i64 1)).val.toNat < 8 - (i6 q).val.toNat
   rw [hn,a0V (by omega),a0V (by omega)]; omega
end Sym

/- Hashes and trees of the reference: they end, continued. -/
namespace Sym
open Go
abbrev By:Type:=List (I .u8)
theorem e4B:(f1X).length = 1:=rfl
theorem c8A:(d6L).length = 1:=rfl
theorem a8L {X:Type} (a b:List X):(a2A a b).length = a.length + b.length:=List.length_append
theorem b9Z {X:Type} (a b:List X) (h:a.length + b.length ≤ 1073741824):a1E (a0I (a2A a b)) = true:=a8P (by show (a2A a b).length ≤ _; rw [a8L]; exact h)
theorem i6_neb' {n m:Nat} (hn:n < 9223372036854775808) (hm:m < 9223372036854775808):I.neb (i6 n) (i6 m) = decide (n ≠ m):=by
 simp only [I.neb,a0V hn,a0V hm]
 by_cases h:n = m
 ·
  subst h; simp
 ·
  simp [h]; omega
theorem g4Y {n m:Nat} (hn:n < 9223372036854775808) (hm:0 < m) (hm2:m < 9223372036854775808):I.rem (i6 n) (i6 m) = i6 (n % m):=by
 apply I.ext'
 rw [b7O (by rw [a0V hn]; omega) (by rw [a0V hm2]; omega),a0V hn,a0V hm2,a0V (Nat.lt_of_lt_of_le (Nat.mod_lt _ hm) (by omega))]
 omega
theorem g6J {n m:Nat} (hn:n < 9223372036854775808) (hm:0 < m) (hm2:m < 9223372036854775808):I.quo (i6 n) (i6 m) = i6 (n / m):=by
 apply I.ext'
 rw [b9B (by rw [a0V hn]; omega) (by rw [a0V hm2]; omega),a0V hn,a0V hm2,a0V (Nat.lt_of_le_of_lt (Nat.div_le_self _ _) hn)]
 omega
theorem d8S (a:By) (ha:a.length ≤ 1073741000):Tot (a9Y K0 ((a,()),())):=by
 refine Wp.out (T:=fun o=>Tot o) ?_
 unfold a9Y
 refine Wp.brnT (b9Z _ _ (by show 0 + a.length ≤ _; omega)) (Wp.brnT (b9Z _ _ (by rw [a8L,e4B]; show 0 + a.length + 1 ≤ _; omega)) ?_)
 refine Wp.iter (fun x=>x.1.1 = a∧List.length x.2.2.1 + (120 - List.length x.2.2.1 % 64) % 64 ≤ a.length + 64) (fun x=>(120 - List.length x.2.2.1 % 64) % 64) ?_ ⟨rfl,?_⟩ (by rw [a6Y]; exact Nat.lt_of_lt_of_le (Nat.mod_lt _ (by decide)) (by decide))
 case refine_2 =>
  show (a2A (a2A [] a) f1X).length + (120 - (a2A (a2A [] a) f1X).length % 64) % 64 ≤ a.length + 64
  rw [a8L,a8L,e4B]
  show 0 + a.length + 1 + _ ≤ _
  omega
 rintro ⟨⟨a',⟨⟩⟩,u,l,⟨⟩⟩ ⟨e,hl⟩
 simp only at e hl
 subst e
 have hl0:l.length ≤ 1073741064:=by omega
 simp only [a7C,a8Z,show (I.of .i64 64) = i6 64 from rfl,show (I.of .i64 56) = i6 56 from rfl,g4Y (show l.length < 9223372036854775808 by omega) (show 0 < 64 by omega) (by omega),i6_neb' (show l.length % 64 < 9223372036854775808 by omega) (show 56 < 9223372036854775808 by omega)]
 refine Wp.brn (fun hc=>?_) (fun hc=>?_)
 ·
  have hc:=of_decide_eq_true hc
  refine Wp.brnT (b9Z _ _ (by rw [c8A]; omega)) ?_
  refine Wp.again ⟨rfl,?_⟩ ?_
  ·
   show (a2A l d6L).length + (120 - (a2A l d6L).length % 64) % 64 ≤ a'.length + 64
   rw [a8L,c8A]
   omega
  ·
   show (120 - (a2A l d6L).length % 64) % 64 < (120 - l.length % 64) % 64
   rw [a8L,c8A]
   omega
 ·
  have hc:l.length % 64 = 56:=by have:=of_decide_eq_false hc; omega
  refine Wp.done ?_
  refine Wp.iter (fun x=>∃ j:Nat,j ≤ 8∧x.1.2.1.val = 7 - (j:Int)∧List.length x.2.2.1 = l.length + j) (fun x=>(x.1.2.1.val + 1).toNat) ?_ ⟨0,by omega,rfl,rfl⟩ (by rw [a6Y]; show ((I.of .i64 7).val + 1).toNat < _; decide)
  rintro ⟨⟨n,i,⟨⟩⟩,u,l2,⟨⟩⟩ ⟨j,hj,hi,hl2⟩
  simp only at hi hl2
  have c8:(I.of .i64 8).val = 8:=rfl
  refine Wp.brn (fun hc=>?_) (fun hc=>?_)
  ·
   have hc:0 ≤ i.val:=iff_leb.1 hc
   refine Wp.brnT (c3J _) (Wp.brnT (b9Z _ _ (by show l2.length + 1 ≤ _; omega)) ?_)
   have hs:(I.sub i (I.of .i64 1)).val = i.val - 1:=by rw [b0B (by rw [show (I.of .i64 1).val = 1 from rfl]; omega)]; rfl
   refine Wp.again ⟨j + 1,by omega,by show (I.sub i (I.of .i64 1)).val = _; rw [hs]; omega,?_⟩ ?_
   ·
    show (a2A l2 [_]).length = _
    rw [a8L,hl2]
    rfl
   ·
    show ((I.sub i (I.of .i64 1)).val + 1).toNat < (i.val + 1).toNat
    rw [hs]; omega
  ·
   have hc:i.val < 0:=niff_leb.1 hc
   have hj8:j = 8:=by omega
   subst hj8
   obtain ⟨m,hm⟩:∃ m,l2.length = 64 * m:=⟨l2.length / 64,by omega⟩
   refine Wp.done ?_
   refine Wp.iter (fun x=>∃ q,q ≤ m∧x.1.1 = i6 (64 * q)∧x.2.2.1 = l2) (fun x=>64 * m - x.1.1.val.toNat) ?_ ⟨0,by omega,rfl,rfl⟩ (by rw [a6Y]; show 64 * m - 0 < _; omega)
   rintro ⟨⟨i2,⟨⟩⟩,u,l3,y,⟨⟩⟩ ⟨q,hq,e1,e2⟩
   simp only at e1 e2
   subst e1 e2
   have hadd:I.add (i6 (64 * q)) (i6 64) = i6 (64 * q + 64):=a3S (m:=64) (by omega)
   simp only [hm,hadd,a2T (show 64 * q < 9223372036854775808 by omega) (show 64 * m < 9223372036854775808 by omega),a3G (show 64 * q < 9223372036854775808 by omega),a3G (show 64 * q + 64 < 9223372036854775808 by omega)]
   refine Wp.brn (fun hc=>?_) (fun hc=>?_)
   ·
    have hc:=of_decide_eq_true hc
    refine Wp.brnT (i6_inB' (by omega) (by omega)) (Wp.brnT (i6_inB' (by omega) (by omega)) ?_)
    have hb64:(a3W l3 (64 * q) (64 * q + 64 - 64 * q)).length = 64:=by rw [b8I,hm]; omega
    refine Wp.tot (f2D y _ hb64) fun y3=>?_
    refine Wp.again ⟨q + 1,by omega,?_,rfl⟩ ?_
    ·
     show i6 (64 * q + 64) = i6 (64 * (q + 1))
     rw [show 64 * (q + 1) = 64 * q + 64 by omega]
    ·
     show 64 * m - (i6 (64 * q + 64)).val.toNat < 64 * m - (i6 (64 * q)).val.toNat
     rw [a0V (by omega),a0V (by omega)]; omega
   ·
    refine Wp.done ?_
    refine Wp.iter (fun x=>∃ i,i ≤ 32∧x.1.1 = i6 i) (fun x=>32 - x.1.1.val.toNat) ?_ ⟨0,by omega,rfl⟩ (by rw [a6Y]; show 32 - 0 < _; decide)
    rintro ⟨⟨i3,⟨⟩⟩,x3⟩ ⟨k,hk,e2⟩
    simp only at e2
    subst e2
    simp only [show (I.of .i64 4) = i6 4 from rfl,show (I.of .i64 32) = i6 32 from rfl,g6J (show k < 9223372036854775808 by omega) (show 0 < 4 by omega) (by omega),a2T (show k < 9223372036854775808 by omega) (show 32 < 9223372036854775808 by omega)]
    refine Wp.brn (fun hc=>?_) (fun hc=>Wp.done ⟨_,rfl⟩)
    have hc:=of_decide_eq_true hc
    refine Wp.brnT (a3T (by omega) (by omega)) (Wp.brnT (c3J _) (Wp.brnT (a3T hc (by omega)) ?_))
    have hn:I.add (i6 k) (I.of .i64 1) = i6 (k + 1):=a3S (m:=1) (by omega)
    refine Wp.again ⟨k + 1,by omega,hn⟩ ?_
    show 32 - (I.add (i6 k) (I.of .i64 1)).val.toNat < 32 - (i6 k).val.toNat
    rw [hn,a0V (by omega),a0V (by omega)]; omega
theorem f1P (a:By) (ha:a.length ≤ 1073740999):Tot (b4B K0 ((a,()),())):=by
 refine Wp.out (T:=fun o=>Tot o) ?_
 unfold b4B
 refine Wp.brnT (b9Z _ _ (by rw [c8A]; show 1 + a.length ≤ _; omega)) (Wp.tot (d8S (a2A d6L a) (by rw [a8L,c8A]; omega)) fun y=>⟨_,rfl⟩)
theorem f9H (a:Hs):(a3W (Arr.list 32 a) 0 32).length = 32:=by
 rw [b8I]
 rfl
theorem d8P (a b:Hs):Tot (a8X K0 ((a,(b,())),())):=by
 refine Wp.out (T:=fun o=>Tot o) ?_
 unfold a8X
 have ha:=f9H a
 have hb:=f9H b
 have h1:(a2A f5S (a3W (Arr.list 32 a) 0 32)).length = 33:=by rw [a8L,ha]; rfl
 refine Wp.brnT (b9Z _ _ (by rw [ha]; decide)) (Wp.brnT (b9Z _ _ (by rw [h1,hb]; decide)) (Wp.tot (d8S _ (by rw [a8L,h1,hb]; decide)) fun y=>⟨_,rfl⟩))
end Sym

/- Messages' leaves, roots and proofs of the reference: they end. -/
namespace Sym
open Go
theorem e7J (a:U):∃ y,b1X K0 ((a,()),()) = some y∧∃ l:By,y = ((l,()),())∧l.length ≤ 32:=by
 refine Wp.out (T:=fun o=>∃ y,o = some y∧∃ l:By,y = ((l,()),())∧l.length ≤ 32) ?_
 unfold b1X
 refine Wp.iter (fun x=>∃ j:Nat,j ≤ 32∧x.1.1.val = 31 - (j:Int)∧List.length x.2.2.1 ≤ j) (fun x=>(x.1.1.val + 1).toNat) ?_ ⟨0,by omega,rfl,Nat.le_refl _⟩ (by rw [a6Y]; show ((I.of .i64 31).val + 1).toNat < _; decide)
 rintro ⟨⟨i,⟨⟩⟩,u,l,⟨⟩⟩ ⟨j,hj,hi,hl⟩
 simp only at hi hl
 refine Wp.brn (fun hc=>?_) (fun hc=>?_)
 ·
  have hc:0 ≤ i.val:=iff_leb.1 hc
  have hq:(I.quo i (I.of .i64 8)).val = i.val / 8:=b9B hc (by decide)
  have hs:(I.sub i (I.of .i64 1)).val = i.val - 1:=by rw [b0B (by rw [show (I.of .i64 1).val = 1 from rfl]; omega)]; rfl
  have hin:inB (I.quo i (I.of .i64 8)) 4 = true:=iff_inB.2 (by rw [hq]; omega)
  have hmu:((I.sub i (I.of .i64 1)).val + 1).toNat < (i.val + 1).toNat:=by rw [hs]; omega
  have hv:(I.sub i (I.of .i64 1)).val = 31 - ((j + 1:Nat):Int):=by rw [hs]; omega
  have hlen:∀ b:I .u8,(a2A l [b]).length ≤ j + 1:=fun b=>by rw [a8L]; show l.length + 1 ≤ _; omega
  have hfit:∀ b:I .u8,a1E (a0I (a2A l [b])) = true:=fun b=>b9Z _ _ (by show l.length + 1 ≤ _; omega)
  refine Wp.brnT hin (Wp.brnT (c3J _) (Wp.brn (fun _=>Wp.brnT (hfit _) (Wp.again ⟨j + 1,by omega,hv,hlen _⟩ hmu)) (fun _=>Wp.brn (fun _=>Wp.brnT (hfit _) (Wp.again ⟨j + 1,by omega,hv,hlen _⟩ hmu)) (fun _=>Wp.again ⟨j + 1,by omega,hv,Nat.le_succ_of_le hl⟩ hmu))))
 ·
  exact Wp.done ⟨_,rfl,l,rfl,by omega⟩
theorem d4X (a:By) (b:U) (ha:a.length ≤ 1000000000):∃ y,a5C K0 ((a,(b,())),()) = some y∧∃ l:By,y = ((l,()),())∧l.length ≤ a.length + 33:=by
 refine Wp.out (T:=fun o=>∃ y,o = some y∧∃ l:By,y = ((l,()),())∧l.length ≤ a.length + 33) ?_
 unfold a5C
 obtain ⟨y,hy,d,rfl,hd⟩:=e7J b
 refine Wp.optF hy ?_
 have h0:(a2A ([]:By) a).length = a.length:=by rw [a8L]; show 0 + _ = _; omega
 have h1:∀ z:I .u8,(a2A (a2A ([]:By) a) [z]).length = a.length + 1:=fun z=>by rw [a8L,h0]; rfl
 refine Wp.brnT (a8P (by show (a2A ([]:By) a).length ≤ _; rw [h0]; omega)) (Wp.brnT (a8P (by show (a2A (a2A ([]:By) a) [_]).length ≤ _; rw [h1]; omega)) (Wp.brnT (b9Z _ _ (by rw [h1]; show a.length + 1 + d.length ≤ _; omega)) ?_))
 refine ⟨_,rfl,_,rfl,?_⟩
 show (a2A (a2A (a2A ([]:By) a) [_]) d).length ≤ _
 rw [a8L,h1]
 omega
theorem e0U (a:By) (b:I .u64) (ha:a.length ≤ 1000000000):∃ y,a5K K0 ((a,(b,())),()) = some y∧∃ l:By,y = ((l,()),())∧l.length ≤ a.length + 33:=by
 refine Wp.out (T:=fun o=>∃ y,o = some y∧∃ l:By,y = ((l,()),())∧l.length ≤ a.length + 33) ?_
 unfold a5K
 obtain ⟨y,hy,d,rfl,hd⟩:=d4X a (b,((I.of .u64 0),((I.of .u64 0),((I.of .u64 0),())))) ha
 exact Wp.optF hy ⟨_,rfl,d,rfl,hd⟩
abbrev Msg:Type:=a0B
theorem d4K (m:Msg):Tot (a6O K0 ((m,()),())):=by
 refine Wp.out (T:=fun o=>Tot o) ?_
 unfold a6O
 have henc:∃ y,b0V K0 ((m,()),()) = some y∧∃ l:By,y = ((l,()),())∧l.length ≤ 99:=by
  refine Wp.out (T:=fun o=>∃ y,o = some y∧∃ l:By,y = ((l,()),())∧l.length ≤ 99) ?_
  unfold b0V
  obtain ⟨y,hy,l0,rfl,h0⟩:=e0U [] m.1 (Nat.zero_le _)
  obtain ⟨y,hy1,l1,rfl,h1⟩:=e0U l0 m.2.1 (by have:l0.length ≤ 0 + 33:=h0; omega)
  obtain ⟨y,hy2,l2,rfl,h2⟩:=d4X l1 m.2.2.1 (by have:l0.length ≤ 0 + 33:=h0; omega)
  exact Wp.optF hy (Wp.optF hy1 (Wp.optF hy2 ⟨_,rfl,l2,rfl,by have:l0.length ≤ 0 + 33:=h0; omega⟩))
 obtain ⟨y,hy,l,rfl,hl⟩:=henc
 exact Wp.optF hy (Wp.tot (f1P l (by omega)) fun y=>⟨_,rfl⟩)
theorem d5V (l:List Msg) (n:Nat) (hn:n ≤ l.length) (hl:l.length ≤ 1073741824):∃ y,a8C K0 ((l,(i6 n,())),()) = some y∧∃ o:List Hs,y = ((o,()),())∧o.length = n:=by
 refine Wp.out (T:=fun o=>∃ y,o = some y∧∃ o:List Hs,y = ((o,()),())∧o.length = n) ?_
 unfold a8C
 refine Wp.iter (fun x=>∃ (i:Nat) (o:List Hs),x = ((l,(i6 n,(i6 i,()))),(o,()))∧i ≤ n∧o.length = i) (fun x=>n - x.1.2.2.1.val.toNat) ?_ ⟨0,[],rfl,by omega,rfl⟩ (by rw [a6Y]; show n - 0 < _; omega)
 rintro x ⟨i,o,rfl,hi,ho⟩
 simp only [a7C,b4T,a2T (show i < 9223372036854775808 by omega) (show n < 9223372036854775808 by omega),a3G (show i < 9223372036854775808 by omega),a3S (show i + 1 < 9223372036854775808 by omega)]
 refine Wp.brn (fun hc=>?_) (fun hc=>?_)
 ·
  have hc:=of_decide_eq_true hc
  refine Wp.brnT (a3T (by omega) (by omega)) (Wp.tot (d4K _) fun y1=>Wp.brnT (b9Z _ _ (by show o.length + 1 ≤ _; omega)) ?_)
  refine Wp.again ⟨i + 1,_,rfl,by omega,?_⟩ ?_
  ·
   rw [a8L,ho]; rfl
  ·
   show n - (i6 (i + 1)).val.toNat < n - (i6 i).val.toNat
   rw [a0V (by omega),a0V (by omega)]; omega
 ·
  have hc:=of_decide_eq_false hc
  exact Wp.done ⟨_,rfl,o,rfl,by omega⟩
theorem d1O (n:Nat) (h2:2 ≤ n) (hn:n ≤ 4611686018427387904):∃ k,a5B K0 ((i6 n,()),()) = some ((i6 k,()),())∧1 ≤ k∧k < n:=by
 refine Wp.out (T:=fun o=>∃ k,o = some ((i6 k,()),())∧1 ≤ k∧k < n) ?_
 unfold a5B
 refine Wp.iter (fun x=>∃ k,x = ((i6 n,(i6 k,())),())∧1 ≤ k∧k < n) (fun x=>n - x.1.2.1.val.toNat) ?_ ⟨1,rfl,by omega,by omega⟩ (by rw [a6Y]; show n - 1 < _; omega)
 rintro x ⟨k,rfl,hk,hkn⟩
 have hs:I.sub (i6 n) (i6 k) = i6 (n - k):=b9U (by omega) (by omega)
 have hm:I.mul (I.of .i64 2) (i6 k) = i6 (2 * k):=by
  apply I.ext'
  rw [c4I (by rw [a0V (by omega),show (I.of .i64 2).val = 2 from rfl]; omega),a0V (by omega),a0V (by omega),show (I.of .i64 2).val = 2 from rfl]
  omega
 simp only [hs,hm,a2T (show k < 9223372036854775808 by omega) (show n - k < 9223372036854775808 by omega)]
 refine Wp.brn (fun hc=>?_) (fun hc=>Wp.done ⟨k,rfl,hk,hkn⟩)
 have hc:=of_decide_eq_true hc
 refine Wp.again ⟨2 * k,rfl,by omega,by omega⟩ ?_
 show n - (i6 (2 * k)).val.toNat < n - (i6 k).val.toNat
 rw [a0V (by omega),a0V (by omega)]; omega
theorem e7H:∀ (k:Nat) (l:List Hs),l.length ≤ k→l.length ≤ 1073741824→Tot (a3H K0 (k + 1) ((l,()),())):=by
 intro k
 induction k with
 | zero =>
  intro l hl _
  have hl:l = []:=List.eq_nil_of_length_eq_zero (by omega)
  subst hl
  refine Wp.out (T:=fun o=>Tot o) ?_
  show Wp _ (a6K K0 (a3H K0 _) _)
  unfold a6K
  exact Wp.brnT rfl (Wp.tot (d8S [] (Nat.zero_le _)) fun y=>⟨_,rfl⟩)
 | succ k ih =>
  intro l hl hb
  refine Wp.out (T:=fun o=>Tot o) ?_
  show Wp _ (a6K K0 (a3H K0 _) _)
  unfold a6K
  have e0:I.eqb (I.ofNat .i64 l.length) (I.of .i64 0) = decide (l.length = 0):=d9Y (m:=0) (by omega) (by omega)
  have e1:I.eqb (I.ofNat .i64 l.length) (I.of .i64 1) = decide (l.length = 1):=d9Y (m:=1) (by omega) (by omega)
  refine Wp.brn (fun h=>Wp.tot (d8S [] (Nat.zero_le _)) fun y=>⟨_,rfl⟩) (fun h=>?_)
  have h:I.eqb (I.ofNat .i64 l.length) (I.of .i64 0) = false:=h
  rw [e0] at h
  have h:=of_decide_eq_false h
  refine Wp.brn (fun h1=>?_) (fun h1=>?_)
  ·
   exact Wp.brnT (a3T (n:=0) (by show 0 < l.length; omega) (by omega)) ⟨_,rfl⟩
  ·
   have h1:I.eqb (I.ofNat .i64 l.length) (I.of .i64 1) = false:=h1
   rw [e1] at h1
   have h1:=of_decide_eq_false h1
   obtain ⟨s,hs,s1,s2⟩:=d1O l.length (by omega) (by omega)
   refine Wp.optF hs ?_
   have hin:inB' (i6 s) l.length = true:=i6_inB' (by omega) (by omega)
   have l1:(a3W l 0 s).length = s:=by rw [b8I]; omega
   have l2:(a3W l s (l.length - s)).length = l.length - s:=by rw [b8I]; omega
   have n1:I.nat (i6 s) = s:=a3G (by omega)
   have r1:=ih (a3W l 0 s) (by omega) (by omega)
   have r2:=ih (a3W l s (l.length - s)) (by omega) (by omega)
   refine Wp.brnT hin (Wp.tot (by show Tot (a3H K0 (k + 1) ((a3W l 0 (I.nat (i6 s)),()),())); rw [n1]; exact r1) fun y1=>Wp.brnT hin (Wp.tot (by show Tot (a3H K0 (k + 1) ((a3W l (I.nat (i6 s)) (a0I l - I.nat (i6 s)),()),())); rw [n1]; exact r2) fun y2=>Wp.tot (d8P _ _) fun y3=>⟨_,rfl⟩))
theorem e1Q (n:Nat) (h:n ≤ 1000000000000):∃ k,K0 = k + 1∧n ≤ k:=⟨K0 - 1,by rw [a6Y],by rw [a6Y]; omega⟩
theorem d2O (l:List Hs) (hl:l.length ≤ 1073741824):Tot (a4Z K0 ((l,()),())):=by
 unfold a4Z
 obtain ⟨k,e,hk⟩:=e1Q l.length (by omega)
 have:=e7H k l hk hl
 rw [← e] at this
 exact this
theorem e8D (l:List Msg) (hl:l.length ≤ 1073741824):Tot (b0F K0 ((l,(i6 l.length,())),())):=by
 refine Wp.out (T:=fun o=>Tot o) ?_
 unfold b0F
 refine Wp.jn (fun x=>∃ h:Hs,x = ((l,(i6 l.length,())),(h,()))) ?_ ?_
 ·
  rintro x ⟨h,rfl⟩
  obtain ⟨y,hy,o,rfl,ho⟩:=d5V l l.length (Nat.le_refl _) hl
  exact Wp.optF hy (Wp.tot (d2O o (by omega)) fun y=>⟨_,rfl⟩)
 ·
  intro j hj
  exact Wp.brn (fun _=>⟨_,rfl⟩) (fun _=>Wp.brn (fun _=>⟨_,rfl⟩) (fun _=>hj _ ⟨_,rfl⟩))
end Sym

/- Proofs of the reference: they end. -/
namespace Sym
open Go
theorem e9L:∀ (k:Nat) (l:List Hs) (i:I .i64),l.length ≤ k→l.length ≤ 1073741824→∃ y,a3R K0 (k + 1) ((l,(i,())),()) = some y∧∃ o:List Hs,y = ((),(o,()))∧o.length ≤ l.length:=by
 intro k
 induction k with
 | zero =>
  intro l i hl _
  have hl:l = []:=List.eq_nil_of_length_eq_zero (by omega)
  subst hl
  refine Wp.out (T:=fun o=>∃ y,o = some y∧∃ o:List Hs,y = ((),(o,()))∧o.length ≤ ([]:List Hs).length) ?_
  show Wp _ (a7F K0 (a3R K0 _) _)
  unfold a7F
  exact Wp.brnT rfl ⟨_,rfl,[],rfl,Nat.le_refl _⟩
 | succ k ih =>
  intro l i hl hb
  refine Wp.out (T:=fun o=>∃ y,o = some y∧∃ o:List Hs,y = ((),(o,()))∧o.length ≤ l.length) ?_
  show Wp _ (a7F K0 (a3R K0 _) _)
  unfold a7F
  have e2:I.ltb (I.ofNat .i64 l.length) (I.of .i64 2) = decide (l.length < 2):=a2T (m:=2) (by omega) (by omega)
  refine Wp.brn (fun h=>⟨_,rfl,[],rfl,Nat.zero_le _⟩) (fun h=>?_)
  have h:I.ltb (I.ofNat .i64 l.length) (I.of .i64 2) = false:=h
  rw [e2] at h
  have h:=of_decide_eq_false h
  obtain ⟨s,hs,s1,s2⟩:=d1O l.length (by omega) (by omega)
  refine Wp.optF hs ?_
  have hin:inB' (i6 s) l.length = true:=i6_inB' (by omega) (by omega)
  have l1:(a3W l 0 s).length = s:=by rw [b8I]; omega
  have l2:(a3W l s (l.length - s)).length = l.length - s:=by rw [b8I]; omega
  have n1:I.nat (i6 s) = s:=a3G (by omega)
  refine Wp.brn (fun _=>?_) (fun _=>?_)
  ·
   refine Wp.brnT hin ?_
   obtain ⟨y,hy,o,rfl,ho⟩:=ih (a3W l 0 s) i (by omega) (by omega)
   have r2:=d2O (a3W l s (l.length - s)) (by omega)
   refine Wp.optF (y:=((),(o,()))) (by show a3R K0 (k + 1) ((a3W l 0 (I.nat (i6 s)),(i,())),()) = _; rw [n1]; exact hy) (Wp.brnT hin (Wp.tot (by show Tot (a4Z K0 ((a3W l (I.nat (i6 s)) (a0I l - I.nat (i6 s)),()),())); rw [n1]; exact r2) fun y2=>Wp.brnT (b9Z _ _ (by show o.length + 1 ≤ _; omega)) ⟨_,rfl,_,rfl,?_⟩))
   show (a2A o [_]).length ≤ _
   rw [a8L]
   show o.length + 1 ≤ _
   omega
  ·
   refine Wp.brnT hin ?_
   obtain ⟨y,hy,o,rfl,ho⟩:=ih (a3W l s (l.length - s)) (I.sub i (i6 s)) (by omega) (by omega)
   have r2:=d2O (a3W l 0 s) (by omega)
   refine Wp.optF (y:=((),(o,()))) (by show a3R K0 (k + 1) ((a3W l (I.nat (i6 s)) (a0I l - I.nat (i6 s)),(I.sub i (i6 s),())),()) = _; rw [n1]; exact hy) (Wp.brnT hin (Wp.tot (by show Tot (a4Z K0 ((a3W l 0 (I.nat (i6 s)),()),())); rw [n1]; exact r2) fun y2=>Wp.brnT (b9Z _ _ (by show o.length + 1 ≤ _; omega)) ⟨_,rfl,_,rfl,?_⟩))
   show (a2A o [_]).length ≤ _
   rw [a8L]
   show o.length + 1 ≤ _
   omega
theorem e7R (l:List Hs) (i:I .i64) (hl:l.length ≤ 1073741824):∃ y,b3A K0 ((l,(i,())),()) = some y∧∃ o:List Hs,y = ((),(o,()))∧o.length ≤ l.length:=by
 unfold b3A
 obtain ⟨k,e,hk⟩:=e1Q l.length (by omega)
 have:=e9L k l i hk hl
 rw [← e] at this
 exact this
theorem e2X (l:List Msg) (i:I .i64) (n:Nat) (hn:n < 9223372036854775808) (hl:l.length ≤ 1073741824):∃ y,b1K K0 ((l,(i,(i6 n,()))),()) = some y∧∃ (b:Bool) (o:List Hs),y = ((b,()),(o,()))∧o.length ≤ l.length:=by
 refine Wp.out (T:=fun o=>∃ y,o = some y∧∃ (b:Bool) (o:List Hs),y = ((b,()),(o,()))∧o.length ≤ l.length) ?_
 unfold b1K
 refine Wp.jn (fun x=>n ≤ l.length∧x = ((l,(i,(i6 n,()))),())) ?_ ?_
 ·
  rintro x ⟨hn,rfl⟩
  obtain ⟨y,hy,o,rfl,ho⟩:=d5V l n hn hl
  obtain ⟨y,hy2,p,rfl,hp⟩:=e7R o i (by omega)
  exact Wp.optF hy (Wp.optF hy2 ⟨_,rfl,_,p,rfl,by omega⟩)
 ·
  intro j hj
  refine Wp.brn (fun _=>⟨_,rfl,_,[],rfl,Nat.zero_le _⟩) (fun _=>Wp.brn (fun _=>⟨_,rfl,_,[],rfl,Nat.zero_le _⟩) (fun _=>Wp.brn (fun _=>⟨_,rfl,_,[],rfl,Nat.zero_le _⟩) (fun h=>hj _ ⟨?_,rfl⟩)))
  have h:I.ltb (I.ofNat .i64 l.length) (i6 n) = false:=h
  have e:I.ltb (I.ofNat .i64 l.length) (i6 n) = decide (l.length < n):=a2T (by omega) hn
  rw [e] at h
  have:=of_decide_eq_false h
  omega
theorem g6X:∀ (k n:Nat) (i:I .i64) (h:Hs) (p:List Hs),p.length ≤ k→p.length ≤ 1073741824→1 ≤ n→n ≤ 1073741824→Tot (a4W K0 (k + 1) ((i6 n,(i,(h,(p,())))),())):=by
 intro k
 induction k with
 | zero =>
  intro n i h p hp _ _ _
  have hl:p = []:=List.eq_nil_of_length_eq_zero (by omega)
  subst hl
  refine Wp.out (T:=fun o=>Tot o) ?_
  show Wp _ (a9G K0 (a4W K0 _) _)
  unfold a9G
  exact Wp.brn (fun _=>⟨_,rfl⟩) (fun _=>Wp.brnT rfl ⟨_,rfl⟩)
 | succ k ih =>
  intro n i h p hp hb hn hn2
  refine Wp.out (T:=fun o=>Tot o) ?_
  show Wp _ (a9G K0 (a4W K0 _) _)
  unfold a9G
  refine Wp.brn (fun _=>⟨_,rfl⟩) (fun hn1=>?_)
  have hn1:I.eqb (i6 n) (I.of .i64 1) = false:=hn1
  have e1:I.eqb (i6 n) (I.of .i64 1) = decide (n = 1):=d9Y (m:=1) (by omega) (by omega)
  rw [e1] at hn1
  have hn1:=of_decide_eq_false hn1
  refine Wp.brn (fun _=>⟨_,rfl⟩) (fun hp0=>?_)
  have hp0:I.eqb (I.ofNat .i64 p.length) (I.of .i64 0) = false:=hp0
  have e0:I.eqb (I.ofNat .i64 p.length) (I.of .i64 0) = decide (p.length = 0):=d9Y (m:=0) (by omega) (by omega)
  rw [e0] at hp0
  have hp0:=of_decide_eq_false hp0
  have hs:I.sub (I.ofNat .i64 (a0I p)) (I.of .i64 1) = i6 (p.length - 1):=b9U (n:=p.length) (m:=1) (by omega) (by omega)
  have n1:I.nat (i6 (p.length - 1)) = p.length - 1:=a3G (by omega)
  have lp:(a3W p 0 (p.length - 1)).length = p.length - 1:=by rw [b8I]; omega
  have hin:inB (I.sub (I.ofNat .i64 (a0I p)) (I.of .i64 1)) (a0I p) = true:=by rw [hs]; exact a3T (by show p.length - 1 < p.length; omega) (by omega)
  have hin':inB' (I.sub (I.ofNat .i64 (a0I p)) (I.of .i64 1)) (a0I p) = true:=by rw [hs]; exact i6_inB' (by show p.length - 1 ≤ p.length; omega) (by omega)
  refine Wp.brnT hin ?_
  obtain ⟨s,hsp,s1,s2⟩:=d1O n (by omega) (by omega)
  refine Wp.optF hsp ?_
  have hss:I.sub (i6 n) (i6 s) = i6 (n - s):=b9U (by omega) (by omega)
  refine Wp.brn (fun _=>Wp.brnT hin' ?_) (fun _=>Wp.brnT hin' ?_)
  ·
   have r:=ih s i h (a3W p 0 (p.length - 1)) (by omega) (by omega) (by omega) (by omega)
   refine Wp.tot (by show Tot (a4W K0 (k + 1) ((i6 s,(i,(h,(a3W p 0 (I.nat (I.sub (I.ofNat .i64 (a0I p)) (I.of .i64 1))),())))),())); rw [hs,n1]; exact r) fun y1=>Wp.tot (d8P _ _) fun y2=>⟨_,rfl⟩
  ·
   have r:=ih (n - s) (I.sub i (i6 s)) h (a3W p 0 (p.length - 1)) (by omega) (by omega) (by omega) (by omega)
   refine Wp.tot (by show Tot (a4W K0 (k + 1) ((I.sub (i6 n) (i6 s),(I.sub i (i6 s),(h,(a3W p 0 (I.nat (I.sub (I.ofNat .i64 (a0I p)) (I.of .i64 1))),())))),())); rw [hs,n1,hss]; exact r) fun y1=>Wp.tot (d8P _ _) fun y2=>⟨_,rfl⟩
theorem e8L (root:Hs) (n:Nat) (i:I .i64) (leaf:Hs) (p:List Hs) (hn:1 ≤ n) (hn2:n ≤ 1073741824) (hp:p.length ≤ 1073741824):Tot (a7H K0 ((root,(i6 n,(i,(leaf,(p,()))))),())):=by
 refine Wp.out (T:=fun o=>Tot o) ?_
 unfold a7H
 refine Wp.jn (fun x=>x = ((i6 n,(i,(p,()))),(root,(leaf,())))) ?_ ?_
 ·
  rintro x rfl
  have hu:Tot (b6M K0 ((i6 n,(i,(leaf,(p,())))),())):=by
   unfold b6M
   obtain ⟨k,e,hk⟩:=e1Q p.length (by omega)
   have:=g6X k n i leaf p hk hp hn hn2
   rw [← e] at this
   exact this
  exact Wp.tot hu fun y1=>Wp.brn (fun _=>⟨_,rfl⟩) (fun _=>⟨_,rfl⟩)
 ·
  intro j hj
  exact Wp.brn (fun _=>⟨_,rfl⟩) (fun _=>Wp.brn (fun _=>⟨_,rfl⟩) (fun _=>Wp.brn (fun _=>⟨_,rfl⟩) (fun _=>hj _ rfl)))
end Sym

/- The escrow of the reference, and what else a step calls. -/
namespace Sym
open Go
theorem Tot.val {Y:Type} {o:Option Y} (h:Tot o) (d:Y):o = some (o.getD d):=by
 obtain ⟨y,rfl⟩:=h
 rfl
theorem f5T (l:List Ac) (v:V4) (k:Nat) (hk:k < 4):a6U K0 (((l,(v,())),(i6 (k + 1),())),()) = some ((d4W v k,()),()):=by
 refine Wp.out (T:=fun o=>o = some ((d4W v k,()),())) ?_
 unfold a6U
 have hsub:I.sub (i6 (k + 1)) (I.of .i64 1) = i6 k:=by rw [b4T,b9U (by omega) (by omega)]; rfl
 refine Wp.brnF (niff_ltb.2 (by show (I.of .i64 1).val ≤ (i6 (k + 1)).val; rw [a0V (by omega),show (I.of .i64 1).val = 1 from rfl]; omega)) ?_
 refine Wp.brnF (niff_ltb.2 (by show (i6 (k + 1)).val ≤ (I.of .i64 4).val; rw [a0V (by omega),show (I.of .i64 4).val = 4 from rfl]; omega)) ?_
 refine Wp.brnT (by show inB (I.sub (i6 (k + 1)) (I.of .i64 1)) 4 = true; rw [hsub]; exact a3T hk (by omega)) ?_
 show some ((Arr.sel Z_U 4 v (I.nat (I.sub (i6 (k + 1)) (I.of .i64 1))),()),()) = _
 rw [hsub,a3G (by omega)]
 rfl
noncomputable def e1Y (v:V4) (k:Nat) (n:U):I .i64 × V4 :=
 if n.val ≤ (d4W v k).val then (I.of .i64 0,f9M v k (U.of ((d4W v k).val - n.val))) else (I.of .i64 10,v)
theorem g7E (v:V4) (l:List Ac) (k:Nat) (hk:k < 4) (n:U):a4C K0 ((i6 (k + 1),(n,())),(lgH v,(l,()))) = some (((e1Y v k n).1,()),(lgH (e1Y v k n).2,(l,()))):=by
 refine Wp.out (T:=fun o=>o = some (((e1Y v k n).1,()),(lgH (e1Y v k n).2,(l,())))) ?_
 unfold a4C e1Y
 have hsub:I.sub (i6 (k + 1)) (I.of .i64 1) = i6 k:=by rw [b4T,b9U (by omega) (by omega)]; rfl
 have hin:inB (I.sub (i6 (k + 1)) (I.of .i64 1)) 4 = true:=by rw [hsub]; exact a3T hk (by omega)
 refine Wp.jn (fun x=>x = ((i6 (k + 1),()),(lgH v,(l,(n,()))))) ?_ ?_
 ·
  rintro x rfl
  refine Wp.brnT hin ?_
  simp only [hsub,a3G (show k < 9223372036854775808 by omega)]
  refine Wp.optF (c2B (d4W v k) n) ?_
  unfold f2W
  by_cases h:n.val ≤ (d4W v k).val
  ·
   simp only [if_pos h]
   exact Wp.brnF (show I.neb (I.of .i64 0) (I.of .i64 0) = false by decide) (Wp.brnT (a3T hk (by omega)) rfl)
  ·
   simp only [if_neg h]
   exact Wp.brnT (show I.neb (I.of .i64 4) (I.of .i64 0) = true by decide) rfl
 ·
  intro j hj
  refine Wp.brnF (niff_ltb.2 (by show (I.of .i64 1).val ≤ (i6 (k + 1)).val; rw [a0V (by omega),show (I.of .i64 1).val = 1 from rfl]; omega)) ?_
  refine Wp.brnF (niff_ltb.2 (by show (i6 (k + 1)).val ≤ (I.of .i64 4).val; rw [a0V (by omega),show (I.of .i64 4).val = 4 from rfl]; omega)) ?_
  exact hj _ rfl
abbrev EsH:Type:=a0U
def esH (b:U):EsH:=(b,((),((),((),()))))
noncomputable def f8X (b n:U):I .i64 × U :=
 if n.val = 0 then (I.of .i64 2,b) else if b.val + n.val < U.top then (I.of .i64 0,U.of (b.val + n.val)) else (I.of .i64 4,b)
theorem g5V (b n:U) (r:List Hs) (cl:List (I .u64)) (ba:List Pay):a5Y K0 ((n,()),(esH b,(r,(cl,(ba,()))))) = some (((f8X b n).1,()),(esH (f8X b n).2,(r,(cl,(ba,()))))):=by
 refine Wp.out (T:=fun o=>o = some (((f8X b n).1,()),(esH (f8X b n).2,(r,(cl,(ba,())))))) ?_
 unfold a5Y f8X
 refine Wp.optF (c1T n) ?_
 refine Wp.brn (fun h=>?_) (fun h=>?_)
 ·
  rw [if_pos (of_decide_eq_true h)]
  rfl
 ·
  rw [if_neg (of_decide_eq_false h)]
  refine Wp.optF (c8N b n) ?_
  by_cases hc:b.val + n.val < U.top
  ·
   rw [if_pos hc,c3Y hc]
   exact Wp.brnF (show I.neb (I.of .i64 0) (I.of .i64 0) = false by decide) rfl
  ·
   rw [if_neg hc,d6B (by omega)]
   exact Wp.brnT (show I.neb (I.of .i64 4) (I.of .i64 0) = true by decide) rfl
def clB (l:List (I .u64)) (a:I .u64):Bool:=l.any fun p=>I.eqb p a
theorem d5Q (b:U) (r:List Hs) (cl:List (I .u64)) (ba:List Pay) (a:I .u64) (hl:cl.length ≤ 1073741824):a4M K0 (((b,(r,(cl,(ba,())))),(a,())),()) = some ((clB cl a,()),()):=by
 refine Wp.out (T:=fun o=>o = some ((clB cl a,()),())) ?_
 unfold a4M
 refine Wp.iter (fun s=>∃ i,s = (((b,(r,(cl,(ba,())))),(a,(i6 i,()))),())∧i ≤ cl.length∧∀ k,k < i→I.eqb (rdL (I.of .u64 0) cl k) a = false) (fun s=>cl.length - s.1.2.2.1.val.toNat) ?_ ⟨0,rfl,by omega,fun k hk=>by omega⟩ (by rw [a6Y]; show cl.length - 0 < _; omega)
 rintro s ⟨i,rfl,hi,ht⟩
 simp only [a7C,a8Z,b4T,a2T (show i < 9223372036854775808 by omega) (show cl.length < 9223372036854775808 by omega),a3G (show i < 9223372036854775808 by omega),a3S (show i + 1 < 9223372036854775808 by omega)]
 refine Wp.brn (fun hc=>?_) (fun hc=>?_)
 ·
  have hc:=of_decide_eq_true hc
  refine Wp.brnT (a3T (by omega) (by omega)) ?_
  refine Wp.brn (fun h=>?_) (fun h=>?_)
  ·
   refine Wp.done ?_
   have:clB cl a = true:=List.any_eq_true.2 ⟨_,b7N (I.of .u64 0) cl i hc,h⟩
   rw [this]
   rfl
  ·
   refine Wp.again ⟨i + 1,rfl,by omega,fun k hk=>?_⟩ (by show cl.length - (i6 (i + 1)).val.toNat < cl.length - (i6 i).val.toNat; rw [a0V (by omega),a0V (by omega)]; omega)
   rcases (by omega:k < i ∨ k = i) with h3 | rfl
   ·
    exact ht k h3
   ·
    exact h
 ·
  have hc:=of_decide_eq_false hc
  refine Wp.done ?_
  have:clB cl a = false:=by
   rw [clB,List.any_eq_false]
   intro x hx
   obtain ⟨k,hk,rfl⟩:=b8W (I.of .u64 0) hx
   rw [ht k (by omega)]
   decide
  rw [this]
  rfl
noncomputable abbrev d3M:Pay:=a1D
def pAt (l:List Pay) (a:I .u64):Nat:=l.findIdx fun p=>I.eqb p.1 a
theorem f9I {l:List Pay} {a:I .u64} {i:Nat} (hi:i < l.length) (h1:I.eqb (rdL d3M l i).1 a = true) (h2:∀ k,k < i→I.eqb (rdL d3M l k).1 a = false):pAt l a = i:=by
 unfold pAt
 rw [List.findIdx_eq hi]
 refine ⟨by rw [← a4G d3M l i hi]; exact h1,fun k hk=>?_⟩
 rw [← a4G d3M l k (by omega)]
 exact h2 k hk
theorem e4L {l:List Pay} {a:I .u64} (h2:∀ k,k < l.length→I.eqb (rdL d3M l k).1 a = false):pAt l a = l.length:=by
 unfold pAt
 rw [List.findIdx_eq_length]
 intro x hx
 obtain ⟨k,hk,rfl⟩:=b8W d3M hx
 exact h2 k hk
noncomputable def f4J (l:List Pay) (a:I .u64):U:=if pAt l a < l.length then (rdL d3M l (pAt l a)).2.1 else Z_U
noncomputable def g0G (l:List Pay) (a:I .u64) (n:U):List Pay:=if pAt l a < l.length then c2C l (pAt l a) ((rdL d3M l (pAt l a)).1,(n,(rdL d3M l (pAt l a)).2.2)) else l ++ [(a,(n,()))]
theorem g6O (b:U) (r:List Hs) (cl:List (I .u64)) (ba:List Pay) (a:I .u64) (hl:ba.length ≤ 1073741824):a5F K0 (((b,(r,(cl,(ba,())))),(a,())),()) = some ((f4J ba a,()),()):=by
 refine Wp.out (T:=fun o=>o = some ((f4J ba a,()),())) ?_
 unfold a5F
 refine Wp.iter (fun s=>∃ i,s = (((b,(r,(cl,(ba,())))),(a,(i6 i,()))),(Z_U,()))∧i ≤ ba.length∧∀ k,k < i→I.eqb (rdL d3M ba k).1 a = false) (fun s=>ba.length - s.1.2.2.1.val.toNat) ?_ ⟨0,rfl,by omega,fun k hk=>by omega⟩ (by rw [a6Y]; show ba.length - 0 < _; omega)
 rintro s ⟨i,rfl,hi,ht⟩
 simp only [a7C,a8Z,b4T,a2T (show i < 9223372036854775808 by omega) (show ba.length < 9223372036854775808 by omega),a3G (show i < 9223372036854775808 by omega),a3S (show i + 1 < 9223372036854775808 by omega)]
 refine Wp.brn (fun hc=>?_) (fun hc=>?_)
 ·
  have hc:=of_decide_eq_true hc
  have hin:inB (i6 i) ba.length = true:=a3T (by omega) (by omega)
  refine Wp.brnT hin ?_
  refine Wp.brn (fun h=>?_) (fun h=>?_)
  ·
   refine Wp.brnT hin (Wp.done ?_)
   unfold f4J
   rw [f9I hc h ht,if_pos hc]
   rfl
  ·
   refine Wp.again ⟨i + 1,rfl,by omega,fun k hk=>?_⟩ (by show ba.length - (i6 (i + 1)).val.toNat < ba.length - (i6 i).val.toNat; rw [a0V (by omega),a0V (by omega)]; omega)
   rcases (by omega:k < i ∨ k = i) with h3 | rfl
   ·
    exact ht k h3
   ·
    exact h
 ·
  have hc:=of_decide_eq_false hc
  refine Wp.done ?_
  unfold f4J
  rw [e4L fun k hk=>ht k (by omega),if_neg (by omega)]
  rfl
theorem f3J (a b:I .u64):Tot (a8U K0 ((a,(b,())),())):=by
 refine Wp.out (T:=fun o=>Tot o) ?_
 unfold a8U
 obtain ⟨r0,e0,B0⟩:=a1J a
 obtain ⟨r1,e1,B1⟩:=a1J b
 obtain ⟨r2,e2,B2⟩:=b2K B0 B1 (d8U B0) (d8U B1)
 have h:=a3E a
 have h':=a3E b
 have e3:=c4N B2 (b3P B2 (k:=5) (Nat.lt_of_lt_of_le (show a.nat + b.nat < 36893488147419103232 by omega) (by decide)) (by decide))
 refine Wp.optF e0 (Wp.optF e1 (Wp.optF e2 (Wp.optF e3 (Wp.optF (d2C _) ?_))))
 exact Wp.brn (fun _=>⟨_,rfl⟩) (fun _=>⟨_,rfl⟩)
end Sym

/- Claims and parameters of the reference. -/
namespace Sym
open Go
abbrev Clm:Type:=b6C
noncomputable def vfB (root:Hs) (n:Nat) (i:I .i64) (leaf:Hs) (p:List Hs):Bool:=((a7H K0 ((root,(i6 n,(i,(leaf,(p,()))))),())).getD ((false,()),())).1.1
noncomputable def lfS (m:Msg):Hs:=((a6O K0 ((m,()),())).getD ((a2J,()),())).1.1
theorem h0D (m:Msg):a6O K0 ((m,()),()) = some ((lfS m,()),()):=(d4K m).val ((a2J,()),())
theorem h0R (root:Hs) (n:Nat) (i:I .i64) (leaf:Hs) (p:List Hs) (hn:1 ≤ n) (hn2:n ≤ 1073741824) (hp:p.length ≤ 1073741824):a7H K0 ((root,(i6 n,(i,(leaf,(p,()))))),()) = some ((vfB root n i leaf p,()),()):=(e8L root n i leaf p hn hn2 hp).val ((false,()),())
abbrev ClR:Type:=I .i64 × U × List (I .u64) × List Pay
def d0J (c:Clm):I .u64:=c.1
def b2P (c:Clm):I .u64:=c.2.1
def cTo (c:Clm):I .u64:=c.2.2.1
def c6S (c:Clm):U:=c.2.2.2.1
def d3V (c:Clm):List Hs:=c.2.2.2.2.1
noncomputable def c4D (b:U) (r:List Hs) (cl:List (I .u64)) (ba:List Pay) (c:Clm):ClR :=
 if (cTo c).val = 0 ∨ (c6S c).val = 0 ∨ 64 < (d3V c).length then (I.of .i64 2,b,cl,ba)
 else if (b2P c).nat < 1 ∨ r.length < (b2P c).nat ∨ (b2P c).nat ≤ (d0J c).nat then (I.of .i64 8,b,cl,ba)
 else if clB cl (d0J c) = true then (I.of .i64 9,b,cl,ba)
 else if vfB (rdL a2J r ((b2P c).nat - 1)) (b2P c).nat (I.conv .i64 (d0J c)) (lfS (d0J c,(cTo c,(c6S c,())))) (d3V c) = false then (I.of .i64 16,b,cl,ba)
 else if b.val < (c6S c).val then (I.of .i64 10,b,cl,ba)
 else if (f4J ba (cTo c)).val + (c6S c).val < U.top then (I.of .i64 0,U.of (b.val - (c6S c).val),cl ++ [d0J c],g0G ba (cTo c) (U.of ((f4J ba (cTo c)).val + (c6S c).val)))
 else (I.of .i64 4,b,cl,ba)
theorem f6A {n:Nat} (h:n < 9223372036854775808):(I.conv (k:=.i64) .u64 (i6 n)) = I.of .u64 (n:Int):=by
 unfold I.conv
 rw [a0V h]
theorem g0Q {a:I .u64} (h:a.nat < 9223372036854775808):(I.conv (k:=.u64) .i64 a) = i6 a.nat:=by
 unfold I.conv
 have:=a1Y a
 rw [← this]
 rfl
theorem d6N {a b:I .u64}:I.ltb a b = decide (a.nat < b.nat):=by
 have h1:=a1Y a
 have h2:=a1Y b
 unfold I.ltb
 by_cases h:a.nat < b.nat
 ·
  rw [decide_eq_true h,decide_eq_true (by omega)]
 ·
  rw [decide_eq_false h,decide_eq_false (by omega)]
theorem f1M {a b:I .u64}:I.leb a b = decide (a.nat ≤ b.nat):=by
 have h1:=a1Y a
 have h2:=a1Y b
 unfold I.leb
 by_cases h:a.nat ≤ b.nat
 ·
  rw [decide_eq_true h,decide_eq_true (by omega)]
 ·
  rw [decide_eq_false h,decide_eq_false (by omega)]
theorem f5G (b:U) (r:List Hs) (cl:List (I .u64)) (ba:List Pay) (c:Clm) (hr:r.length ≤ 1073741824) (hcl:cl.length < 1073741824) (hba:ba.length < 1073741824) (hpf:(d3V c).length ≤ 1073741824) :
  a6T K0 ((c,()),(esH b,(r,(cl,(ba,()))))) = some (((c4D b r cl ba c).1,()),(esH (c4D b r cl ba c).2.1,(r,((c4D b r cl ba c).2.2.1,((c4D b r cl ba c).2.2.2,()))))):=by
 refine Wp.out (T:=fun o=>o = some (((c4D b r cl ba c).1,()),(esH (c4D b r cl ba c).2.1,(r,((c4D b r cl ba c).2.2.1,((c4D b r cl ba c).2.2.2,())))))) ?_
 unfold a6T
 have hrl:(I.conv (k:=.i64) .u64 (I.ofNat .i64 (a0I r))).nat = r.length:=by
  show (I.conv (k:=.i64) .u64 (i6 r.length)).nat = _
  rw [f6A (by omega)]
  exact b5Q (by omega)
 refine Wp.jn (fun x=>(¬ ((cTo c).val = 0 ∨ (c6S c).val = 0 ∨ 64 < (d3V c).length))∧x = ((),(esH b,(r,(cl,(ba,(c,()))))))) ?_ ?_
 ·
  rintro x ⟨h1,rfl⟩
  refine Wp.jn (fun x=>(¬ ((b2P c).nat < 1 ∨ r.length < (b2P c).nat ∨ (b2P c).nat ≤ (d0J c).nat))∧x = ((),(esH b,(r,(cl,(ba,(c,()))))))) ?_ ?_
  ·
   rintro x ⟨h2,rfl⟩
   unfold c4D
   rw [if_neg h1,if_neg h2]
   refine Wp.optF (d5Q b r cl ba (d0J c) (by omega)) ?_
   refine Wp.brn (fun h3=>?_) (fun h3=>?_)
   ·
    have h3:clB cl (d0J c) = true:=h3
    rw [if_pos h3]
    rfl
   ·
    have h3:clB cl (d0J c) = false:=h3
    rw [if_neg (by rw [h3]; decide)]
    have hs1:(I.sub (b2P c) (I.of .u64 1)).nat = (b2P c).nat - 1:=sub_nat_le' _ _ (by show (I.of .u64 1).nat ≤ _; rw [show (I.of .u64 1).nat = 1 from rfl]; omega)
    refine Wp.brnT (iff_inB.2 (by have:=a1Y (I.sub (b2P c) (I.of .u64 1)); show 0 ≤ (I.sub (b2P c) (I.of .u64 1)).val∧(I.sub (b2P c) (I.of .u64 1)).val < ((r.length:Nat):Int); omega)) ?_
    refine Wp.optF (h0D (d0J c,(cTo c,(c6S c,())))) ?_
    have hv:=h0R (rdL a2J r ((b2P c).nat - 1)) (b2P c).nat (I.conv .i64 (d0J c)) (lfS (d0J c,(cTo c,(c6S c,())))) (d3V c) (by omega) (by omega) (by omega)
    rw [← hs1,← g0Q (a:=b2P c) (by omega)] at hv
    refine Wp.optF hv ?_
    rw [hs1]
    refine Wp.brn (fun h4=>?_) (fun h4=>?_)
    ·
     have h4:vfB (rdL a2J r ((b2P c).nat - 1)) (b2P c).nat (I.conv .i64 (d0J c)) (lfS (d0J c,(cTo c,(c6S c,())))) (d3V c) = false:=by
      revert h4
      show a4S (vfB _ _ _ _ _) = true→_
      cases vfB (rdL a2J r ((b2P c).nat - 1)) (b2P c).nat (I.conv .i64 (d0J c)) (lfS (d0J c,(cTo c,(c6S c,())))) (d3V c) <;> simp [a4S]
     rw [if_pos h4]
     rfl
    ·
     have h4:vfB (rdL a2J r ((b2P c).nat - 1)) (b2P c).nat (I.conv .i64 (d0J c)) (lfS (d0J c,(cTo c,(c6S c,())))) (d3V c) = true:=by
      revert h4
      show a4S (vfB _ _ _ _ _) = false→_
      cases vfB (rdL a2J r ((b2P c).nat - 1)) (b2P c).nat (I.conv .i64 (d0J c)) (lfS (d0J c,(cTo c,(c6S c,())))) (d3V c) <;> simp [a4S]
     rw [if_neg (by rw [h4]; decide)]
     refine Wp.optF (c2B b (c6S c)) ?_
     unfold f2W
     by_cases h5:(c6S c).val ≤ b.val
     ·
      rw [if_neg (show ¬ b.val < (c6S c).val by omega)]
      simp only [if_pos h5]
      refine Wp.brnF (show I.neb (I.of .i64 0) (I.of .i64 0) = false by decide) ?_
      refine Wp.optF (g6O b r cl ba (cTo c) (by omega)) (Wp.optF (c8N (f4J ba (cTo c)) (c6S c)) ?_)
      by_cases h6:(f4J ba (cTo c)).val + (c6S c).val < U.top
      ·
       rw [if_pos h6,c3Y h6]
       refine Wp.brnF (show I.neb (I.of .i64 0) (I.of .i64 0) = false by decide) ?_
       refine Wp.brnT (b9Z _ _ (by show cl.length + 1 ≤ _; omega)) ?_
       generalize U.of ((f4J ba (cTo c)).val + (c6S c).val) = n
       refine Wp.iter (fun s=>∃ i,s = ((i6 i,()),(esH (U.of (b.val - (c6S c).val)),(r,(cl ++ [d0J c],(ba,(c,(n,())))))))∧i ≤ ba.length∧∀ k,k < i→I.eqb (rdL d3M ba k).1 (cTo c) = false) (fun s=>ba.length - s.1.1.val.toNat) ?_ ⟨0,rfl,by omega,fun k hk=>by omega⟩ (by rw [a6Y]; show ba.length - 0 < _; omega)
       rintro s ⟨i,rfl,hi,ht⟩
       simp only [a7C,a8Z,b4T,a2T (show i < 9223372036854775808 by omega) (show ba.length < 9223372036854775808 by omega),a3G (show i < 9223372036854775808 by omega),a3S (show i + 1 < 9223372036854775808 by omega)]
       refine Wp.brn (fun hc=>?_) (fun hc=>?_)
       ·
        have hc:=of_decide_eq_true hc
        have hin:inB (i6 i) ba.length = true:=a3T (by omega) (by omega)
        refine Wp.brnT hin ?_
        refine Wp.brn (fun h=>?_) (fun h=>?_)
        ·
         refine Wp.brnT hin (Wp.done ?_)
         have e:g0G ba (cTo c) n = c2C ba i ((rdL d3M ba i).1,(n,(rdL d3M ba i).2.2)):=by
          unfold g0G
          rw [f9I (a:=cTo c) hc h ht,if_pos hc]
         show some _ = some _
         rw [e]
         rfl
        ·
         refine Wp.again ⟨i + 1,rfl,by omega,fun k hk=>?_⟩ (by show ba.length - (i6 (i + 1)).val.toNat < ba.length - (i6 i).val.toNat; rw [a0V (by omega),a0V (by omega)]; omega)
         rcases (by omega:k < i ∨ k = i) with h3 | rfl
         ·
          exact ht k h3
         ·
          exact h
       ·
        have hc:=of_decide_eq_false hc
        refine Wp.done (Wp.brnT (b9Z _ _ (by show ba.length + 1 ≤ _; omega)) ?_)
        have e:g0G ba (cTo c) n = ba ++ [(cTo c,(n,()))]:=by
         unfold g0G
         rw [e4L fun k hk=>ht k (by omega),if_neg (by omega)]
        show some _ = some _
        rw [e]
        rfl
      ·
       rw [if_neg h6,d6B (by omega)]
       exact Wp.brnT (show I.neb (I.of .i64 4) (I.of .i64 0) = true by decide) rfl
     ·
      rw [if_pos (show b.val < (c6S c).val by omega)]
      simp only [if_neg h5]
      exact Wp.brnT (show I.neb (I.of .i64 4) (I.of .i64 0) = true by decide) rfl
  ·
   intro j hj
   have e8:c4D b r cl ba c = (if (b2P c).nat < 1 ∨ r.length < (b2P c).nat ∨ (b2P c).nat ≤ (d0J c).nat then (I.of .i64 8,b,cl,ba) else c4D b r cl ba c):=by
    split
    ·
     rename_i h
     unfold c4D
     rw [if_neg h1,if_pos h]
    ·
     rfl
   refine Wp.brn (fun h=>?_) (fun h=>?_)
   ·
    have h:I.ltb (b2P c) (I.of .u64 1) = true:=h
    rw [d6N] at h
    have h:=of_decide_eq_true h
    rw [e8,if_pos (.inl h)]
    rfl
   ·
    have h:I.ltb (b2P c) (I.of .u64 1) = false:=h
    rw [d6N] at h
    have h:¬ (b2P c).nat < 1:=of_decide_eq_false h
    refine Wp.brn (fun g=>?_) (fun g=>?_)
    ·
     have g:I.ltb (I.conv (k:=.i64) .u64 (I.ofNat .i64 (a0I r))) (b2P c) = true:=g
     rw [d6N,hrl] at g
     have g:=of_decide_eq_true g
     rw [e8,if_pos (.inr (.inl g))]
     rfl
    ·
     have g:I.ltb (I.conv (k:=.i64) .u64 (I.ofNat .i64 (a0I r))) (b2P c) = false:=g
     rw [d6N,hrl] at g
     have g:=of_decide_eq_false g
     refine Wp.brn (fun q=>?_) (fun q=>?_)
     ·
      have q:I.leb (b2P c) (d0J c) = true:=q
      rw [f1M] at q
      have q:=of_decide_eq_true q
      rw [e8,if_pos (.inr (.inr q))]
      rfl
     ·
      have q:I.leb (b2P c) (d0J c) = false:=q
      rw [f1M] at q
      have q:=of_decide_eq_false q
      exact hj _ ⟨by omega,rfl⟩
 ·
  intro j hj
  have e2:c4D b r cl ba c = (if (cTo c).val = 0 ∨ (c6S c).val = 0 ∨ 64 < (d3V c).length then (I.of .i64 2,b,cl,ba) else c4D b r cl ba c):=by
   split
   ·
    rename_i h
    unfold c4D
    rw [if_pos h]
   ·
    rfl
  refine Wp.brn (fun h=>?_) (fun h=>?_)
  ·
   have h:(cTo c).val = 0:=iff_eqb.1 h
   rw [e2,if_pos (.inl h)]
   rfl
  ·
   have h:(cTo c).val ≠ 0:=niff_eqb.1 h
   refine Wp.optF (c1T (c6S c)) ?_
   refine Wp.brn (fun g=>?_) (fun g=>?_)
   ·
    have g:=of_decide_eq_true g
    rw [e2,if_pos (.inr (.inl g))]
    rfl
   ·
    have g:=of_decide_eq_false g
    have e:I.ltb (I.of .i64 64) (I.ofNat .i64 (a0I (d3V c))) = decide (64 < (d3V c).length):=a2T (n:=64) (by omega) (by show (d3V c).length < _; omega)
    refine Wp.brn (fun q=>?_) (fun q=>?_)
    ·
     have q:I.ltb (I.of .i64 64) (I.ofNat .i64 (a0I (d3V c))) = true:=q
     rw [e] at q
     have q:=of_decide_eq_true q
     rw [e2,if_pos (.inr (.inr q))]
     rfl
    ·
     have q:I.ltb (I.of .i64 64) (I.ofNat .i64 (a0I (d3V c))) = false:=q
     rw [e] at q
     have q:=of_decide_eq_false q
     exact hj _ ⟨by omega,rfl⟩
end Sym

/- The machine of the reference. -/
namespace Sym
open Go
theorem g2Z (p:Prm) (k:I .i64) (n:U):Tot (a7R K0 ((p,(k,(n,()))),())):=by
 refine Wp.out (T:=fun o=>Tot o) ?_
 unfold a7R
 refine Wp.jn (fun x=>(1 ≤ k.val∧k.val ≤ 12)∧∃ z,x = ((k,()),(p,(n,(z,()))))) ?_ ?_
 ·
  rintro x ⟨hk,z,rfl⟩
  refine Wp.optF (b6A p) (Wp.brn (fun _=>⟨_,rfl⟩) (fun _=>Wp.tot ⟨_,rfl⟩ (fun y2=>?_)))
  have hs:(I.sub k (I.of .i64 1)).val = k.val - 1:=by rw [b0B (by rw [show (I.of .i64 1).val = 1 from rfl]; omega)]; rfl
  refine Wp.brnT (iff_inB.2 (by show 0 ≤ (I.sub k (I.of .i64 1)).val∧(I.sub k (I.of .i64 1)).val < ((12:Nat):Int); omega)) ?_
  refine Wp.iter (fun x=>∃ i,i ≤ 12∧x.1.1 = i6 i) (fun x=>12 - x.1.1.val.toNat) ?_ ⟨0,by omega,rfl⟩ (by rw [a6Y]; show 12 - 0 < _; decide)
  rintro ⟨⟨j,⟨⟩⟩,x3⟩ ⟨i,hi,e2⟩
  simp only at e2
  subst e2
  refine Wp.brn (fun hc=>?_) (fun hc=>?_)
  ·
   have hc:i < 12:=by have:=iff_ltb.1 hc; simp only [a0V (show i < 9223372036854775808 by omega),show (I.of .i64 12).val = 12 from rfl] at this; omega
   have hn:I.add (i6 i) (I.of .i64 1) = i6 (i + 1):=a3S (m:=1) (by omega)
   refine Wp.brnT (a3T hc (by omega)) (Wp.optF (d2C _) (Wp.brn (fun _=>Wp.done ⟨_,rfl⟩) (fun _=>Wp.again ⟨i + 1,by omega,hn⟩ ?_)))
   show 12 - (I.add (i6 i) (I.of .i64 1)).val.toNat < 12 - (i6 i).val.toNat
   rw [hn,a0V (by omega),a0V (by omega)]; omega
  ·
   exact Wp.done (Wp.optF (b6A _) (Wp.brn (fun _=>⟨_,rfl⟩) (fun _=>⟨_,rfl⟩)))
 ·
  intro j hj
  refine Wp.brn (fun _=>⟨_,rfl⟩) (fun h=>Wp.brn (fun _=>⟨_,rfl⟩) (fun g=>hj _ ⟨?_,_,rfl⟩))
  have h:(I.of .i64 1).val ≤ k.val:=niff_ltb.1 h
  have g:k.val ≤ (I.of .i64 12).val:=niff_ltb.1 g
  exact ⟨h,g⟩
structure MS where
 steps:I .u64
 pm:Prm
 bk:f9Q
 bl:I .u64
 pr:PrT
 v:V4
 ac:List Ac
 ms:List Msg
 bal:U
 rt:List Hs
 cl:List (I .u64)
 ba:List Pay
abbrev HM:Type:=a0W × (a0M × (a0U × ((List a0B) × ((List a0E) × ((List a0G) × ((List (I .u64)) × ((List a0D) × Unit)))))))
def MS.h (m:MS):HM:=((m.steps,(m.pm,(m.bk,(m.bl,(m.pr,((),((),((),())))))))),(lgH m.v,(esH m.bal,(m.ms,(m.ac,(m.rt,(m.cl,(m.ba,()))))))))
def MS.j (m:MS):a0W:=(m.steps,(m.pm,(m.bk,(m.bl,(m.pr,((),((),((),()))))))))
structure Sz (n:Nat) (m:MS):Prop where
 ac:m.ac.length ≤ n
 ms:m.ms.length ≤ n
 rt:m.rt.length ≤ n
 cl:m.cl.length ≤ n
 ba:m.ba.length ≤ n
 pr:m.pr.posters.length ≤ n
theorem Sz.mono {n k:Nat} {m:MS} (h:Sz n m) (hk:n ≤ k):Sz k m:=⟨Nat.le_trans h.ac hk,Nat.le_trans h.ms hk,Nat.le_trans h.rt hk,Nat.le_trans h.cl hk,Nat.le_trans h.ba hk,Nat.le_trans h.pr hk⟩
noncomputable def rtS (l:List Msg):Hs:=((b0F K0 ((l,(i6 l.length,())),())).getD ((a2J,(false,())),())).1.1
def c6Z (m:MS) (to:I .u64) (n:U):Msg:=(I.conv (k:=.i64) .u64 (I.ofNat .i64 (a0I m.ms)),(to,(n,())))
noncomputable def e8F (m:MS) (to:I .u64) (n:U):MS:={ m with ms:=m.ms ++ [c6Z m to n],rt:=m.rt ++ [rtS (m.ms ++ [c6Z m to n])] }
theorem f3P (m:MS) (to:I .u64) (n:U) (h:Sz 1000000000 m):a5E K0 ((to,(n,())),m.h) = some ((c6Z m to n,()),(e8F m to n).h):=by
 refine Wp.out (T:=fun o=>o = some ((c6Z m to n,()),(e8F m to n).h)) ?_
 unfold a5E
 have hl:=h.ms
 have hr:=h.rt
 have e1:(m.ms ++ [c6Z m to n]).length = m.ms.length + 1:=by simp
 refine Wp.brnT (b9Z _ _ (by show m.ms.length + 1 ≤ _; omega)) ?_
 obtain ⟨y0,hy0⟩:=e8D (m.ms ++ [c6Z m to n]) (by omega)
 have hrt:rtS (m.ms ++ [c6Z m to n]) = y0.1.1:=by unfold rtS; rw [hy0]; rfl
 refine Wp.optF hy0 ?_
 refine Wp.brnT (b9Z _ _ (by show m.rt.length + 1 ≤ _; omega)) ?_
 unfold e8F
 rw [hrt]
 rfl
theorem e5O {k:Nat} {m:MS} (h:Sz k m) (to:I .u64) (n:U):Sz (k + 1) (e8F m to n) :=
 ⟨Nat.le_succ_of_le h.ac,by show (m.ms ++ [_]).length ≤ _; have:=h.ms; simp; omega,by show (m.rt ++ [_]).length ≤ _; have:=h.rt; simp; omega,Nat.le_succ_of_le h.cl,Nat.le_succ_of_le h.ba,Nat.le_succ_of_le h.pr⟩
end Sym

/- The machine of the reference: transactions. -/
namespace Sym
open Go
abbrev Rcp:Type:=a1Z
abbrev Txn:Type:=a7Y
abbrev Chg:Type:=a9F
def a2I (t:Txn):I .u64:=t.1
def e3T (t:Txn):I .u64:=t.2.1
def tTo (t:Txn):I .u64:=t.2.2.1
def c5F (t:Txn):U:=t.2.2.2.1
def e3W (t:Txn):I .u64:=t.2.2.2.2.1
def d7F (t:Txn):U:=t.2.2.2.2.2.1
def d6V (t:Txn):U:=t.2.2.2.2.2.2.1
def tEx (t:Txn):I .u64:=t.2.2.2.2.2.2.2.1
def c3S (t:Txn):List (I .u8):=t.2.2.2.2.2.2.2.2.1
def d4A (k:f9Q):U:=k.2.2.2.1
def f2P (k:f9Q):I .u64:=k.2.2.1
noncomputable def g2E (k:f9Q) (p:Prm):I .u64:=if I.ltb p.2.2.2.2.1 (f2P k) = true then I.of .u64 0 else I.sub p.2.2.2.2.1 (f2P k)
theorem g4X (k:f9Q) (p:Prm):a6Z K0 ((k,(p,())),()) = some ((g2E k p,()),()):=by
 refine Wp.out (T:=fun o=>o = some ((g2E k p,()),())) ?_
 unfold a6Z g2E
 refine Wp.brn (fun h=>?_) (fun h=>?_)
 ·
  have h:I.ltb p.2.2.2.2.1 (f2P k) = true:=h
  rw [if_pos h]; rfl
 ·
  have h:I.ltb p.2.2.2.2.1 (f2P k) = false:=h
  rw [if_neg (by rw [h]; decide)]; rfl
noncomputable def b9X (m:MS) (t:Txn):U × I .i64 :=
 if 4096 < (c3S t).length then (Z_U,I.of .i64 6)
 else if (a2I t).val = 0 ∨ (tTo t).val = 0 ∨ (a2I t).val = 18446744073709551615 then (Z_U,I.of .i64 2)
 else if I.neb (e3T t) (a8M m.ac (a2I t)).2.2.1 = true then (Z_U,I.of .i64 11)
 else if I.eqb (I.add (a8M m.ac (a2I t)).2.2.1 (I.of .u64 1)) (I.of .u64 0) = true then (Z_U,I.of .i64 4)
 else if I.neb (d2A (d7F t,d6V t) (d4A m.bk)).2 (I.of .i64 0) = true then (Z_U,(d2A (d7F t,d6V t) (d4A m.bk)).2)
 else if I.ltb (g2E m.bk m.pm) (e3W t) = true then (Z_U,I.of .i64 13)
 else if c9H (e3W t) (d2A (d7F t,d6V t) (d4A m.bk)).1 (c5F t) (a8M m.ac (a2I t)).2.1 = false then (Z_U,I.of .i64 10)
 else ((d2A (d7F t,d6V t) (d4A m.bk)).1,I.of .i64 0)
theorem g7U {b:Bool} (h:a4S b = true):b = false:=by cases b <;> simp [a4S] at h ⊢
theorem h1M {b:Bool} (h:a4S b = false):b = true:=by cases b <;> simp [a4S] at h ⊢
theorem a8O {b:Bool} (h:b = false):¬ b = true:=by rw [h]; decide
theorem g1B (m:MS) (t:Txn) (h:Sz 1000000000 m) (ht:(c3S t).length ≤ 1073741824):a6E K0 ((t,()),m.h) = some (((b9X m t).1,((b9X m t).2,())),m.h):=by
 refine Wp.out (T:=fun o=>o = some (((b9X m t).1,((b9X m t).2,())),m.h)) ?_
 unfold a6E
 have e:I.ltb (I.of .i64 4096) (I.ofNat .i64 (a0I (c3S t))) = decide (4096 < (c3S t).length):=a2T (n:=4096) (by omega) (by show (c3S t).length < _; omega)
 refine Wp.brn (fun q=>?_) (fun q=>?_)
 ·
  have q:I.ltb (I.of .i64 4096) (I.ofNat .i64 (a0I (c3S t))) = true:=q
  rw [e] at q
  unfold b9X
  rw [if_pos (of_decide_eq_true q)]
  rfl
 ·
  have q:I.ltb (I.of .i64 4096) (I.ofNat .i64 (a0I (c3S t))) = false:=q
  rw [e] at q
  have q:=of_decide_eq_false q
  refine Wp.jn (fun x=>(¬ ((a2I t).val = 0 ∨ (tTo t).val = 0 ∨ (a2I t).val = 18446744073709551615))∧x = ((),(m.j,(lgH m.v,(m.ac,(m.ms,(esH m.bal,(m.rt,(m.cl,(m.ba,(t,(Z_U,(Z_U,())))))))))))) ) ?_ ?_
  ·
   rintro x ⟨h1,rfl⟩
   unfold b9X
   rw [if_neg q,if_neg h1]
   have hg:=e0R m.ac (lgH m.v).2 (a2I t) (by have:=h.ac; omega)
   refine Wp.optF hg ?_
   refine Wp.brn (fun h2=>?_) (fun h2=>?_)
   ·
    have h2:I.neb (e3T t) (a8M m.ac (a2I t)).2.2.1 = true:=h2
    rw [if_pos h2]; rfl
   ·
    have h2:I.neb (e3T t) (a8M m.ac (a2I t)).2.2.1 = false:=h2
    rw [if_neg (a8O h2)]
    refine Wp.brn (fun h3=>?_) (fun h3=>?_)
    ·
     have h3:I.eqb (I.add (a8M m.ac (a2I t)).2.2.1 (I.of .u64 1)) (I.of .u64 0) = true:=h3
     rw [if_pos h3]; rfl
    ·
     have h3:I.eqb (I.add (a8M m.ac (a2I t)).2.2.1 (I.of .u64 1)) (I.of .u64 0) = false:=h3
     rw [if_neg (a8O h3)]
     refine Wp.optF (g1G t.1 t.2.1 t.2.2.1 t.2.2.2.2.1 t.2.2.2.2.2.2.2.1 t.2.2.2.2.2.2.2.2.1 (c5F t) (d7F t) (d6V t) (d4A m.bk)) ?_
     refine Wp.brn (fun h4=>?_) (fun h4=>?_)
     ·
      have h4:I.neb (d2A (d7F t,d6V t) (d4A m.bk)).2 (I.of .i64 0) = true:=h4
      rw [if_pos h4]; rfl
     ·
      have h4:I.neb (d2A (d7F t,d6V t) (d4A m.bk)).2 (I.of .i64 0) = false:=h4
      rw [if_neg (a8O h4)]
      refine Wp.optF (g4X m.bk m.pm) ?_
      refine Wp.brn (fun h5=>?_) (fun h5=>?_)
      ·
       have h5:I.ltb (g2E m.bk m.pm) (e3W t) = true:=h5
       rw [if_pos h5]; rfl
      ·
       have h5:I.ltb (g2E m.bk m.pm) (e3W t) = false:=h5
       rw [if_neg (a8O h5)]
       refine Wp.optF (g1H t.1 t.2.1 t.2.2.1 (e3W t) t.2.2.2.2.2.2.2.1 t.2.2.2.2.2.2.2.2.1 (c5F t) (d7F t) (d6V t) (d2A (d7F t,d6V t) (d4A m.bk)).1 (a8M m.ac (a2I t)).2.1) ?_
       refine Wp.brn (fun h6=>?_) (fun h6=>?_)
       ·
        have h6:c9H (e3W t) (d2A (d7F t,d6V t) (d4A m.bk)).1 (c5F t) (a8M m.ac (a2I t)).2.1 = false:=g7U h6
        rw [if_pos h6]; rfl
       ·
        have h6:c9H (e3W t) (d2A (d7F t,d6V t) (d4A m.bk)).1 (c5F t) (a8M m.ac (a2I t)).2.1 = true:=h1M h6
        rw [if_neg (by rw [h6]; decide)]; rfl
  ·
   intro j hj
   have e2:(a2I t).val = 0 ∨ (tTo t).val = 0 ∨ (a2I t).val = 18446744073709551615→b9X m t = (Z_U,I.of .i64 2):=by
    intro hh
    unfold b9X
    rw [if_neg q,if_pos hh]
   refine Wp.brn (fun h1=>?_) (fun h1=>?_)
   ·
    have h1:(a2I t).val = 0:=iff_eqb.1 h1
    rw [e2 (.inl h1)]; rfl
   ·
    have h1:(a2I t).val ≠ 0:=niff_eqb.1 h1
    refine Wp.brn (fun h2=>?_) (fun h2=>?_)
    ·
     have h2:(tTo t).val = 0:=iff_eqb.1 h2
     rw [e2 (.inr (.inl h2))]; rfl
    ·
     have h2:(tTo t).val ≠ 0:=niff_eqb.1 h2
     refine Wp.brn (fun h3=>?_) (fun h3=>?_)
     ·
      have h3:(a2I t).val = (I.of .u64 18446744073709551615).val:=iff_eqb.1 h3
      rw [e2 (.inr (.inr h3))]; rfl
     ·
      have h3:(a2I t).val ≠ (I.of .u64 18446744073709551615).val:=niff_eqb.1 h3
      have c:(I.of .u64 18446744073709551615).val = 18446744073709551615:=rfl
      exact hj _ ⟨by omega,rfl⟩
end Sym

/- The pricer's tables stay small. -/
namespace Sym
open Go
theorem f1R {s:PrT} {p:Prm} {pool:U} {r:RepT} {now:I .u64} (h:¬ (b3J s p pool r now).2.2.val = 0):(b3J s p pool r now).1 = zPr∧(b3J s p pool r now).2.1 = g4E:=by
 unfold b3J at h ⊢
 by_cases h1:(c5T s p r now).val = 0
 ·
  rw [if_pos h1] at h ⊢
  by_cases h2:p.rpu.val * c3W s r now < U.top
  ·
   rw [if_pos h2] at h ⊢
   by_cases h3:(b4V s p r now).2.val = 0
   ·
    rw [if_pos h3] at h ⊢
    by_cases h4:(a2Y (b4V s p r now).1 (a2C (b4V s p r now).1 pool)).2.val = 0
    ·
     rw [if_pos h4] at h ⊢
     by_cases h5:(c6Q (c1N s (a2Y (b4V s p r now).1 (a2C (b4V s p r now).1 pool)).1) p pool (b9Q s p r now (a2C (b4V s p r now).1 pool))).2.val = 0
     ·
      rw [if_pos h5] at h
      exact absurd rfl h
     ·
      rw [if_neg h5]; exact ⟨rfl,rfl⟩
    ·
     rw [if_neg h4]; exact ⟨rfl,rfl⟩
   ·
    rw [if_neg h3]; exact ⟨rfl,rfl⟩
  ·
   rw [if_neg h2]; exact ⟨rfl,rfl⟩
 ·
  rw [if_neg h1]; exact ⟨rfl,rfl⟩
theorem f2I (s:PrT) (p:Prm) (pool:U) (r:RepT) (now:I .u64):(b3J s p pool r now).1.posters.length ≤ 64∧(b3J s p pool r now).2.1.2.2.1.length ≤ 64:=by
 by_cases h:(b3J s p pool r now).2.2.val = 0
 ·
  have hR:=f8S h
  refine ⟨hR.tab2.1,?_⟩
  rw [hR.out]
  exact Nat.le_trans (d4R _ _) hR.tab1.1
 ·
  rw [(f1R h).1,(f1R h).2]
  exact ⟨Nat.zero_le _,Nat.zero_le _⟩
theorem f5P (l:List Post) (a:I .u64):(c8C l a).1.length ≤ l.length + 1:=by
 unfold c8C
 split
 ·
  split
  ·
   exact Nat.zero_le _
  ·
   split
   ·
    exact Nat.zero_le _
   ·
    exact Nat.le_of_eq (d6C l a)
 ·
  exact Nat.zero_le _
theorem d7X (s:PrT) (a:I .u64):(a5Z s a).1.posters.length ≤ s.posters.length + 1:=by
 unfold a5Z
 split
 ·
  split
  ·
   exact f5P _ _
  ·
   exact Nat.zero_le _
 ·
  exact Nat.zero_le _
theorem c9Q (s:PrT) (n:I .u64):(a4H s n).1.posters.length ≤ s.posters.length:=by
 unfold a4H
 split
 ·
  split
  ·
   exact Nat.le_refl _
  ·
   exact Nat.zero_le _
 ·
  exact Nat.zero_le _
end Sym

/- The machine of the reference: what a transaction does. -/
namespace Sym
open Go
noncomputable abbrev h1W:Chg:=a2F
noncomputable section
def d4C (e:I .i64):Rcp:=(I.of .i64 0,(e,(h1W,(Z_U,(Z_U,(I.of .u64 0,(Z_U,(Z_U,([],())))))))))
def txR (c:Chg) (price value:U) (l:List Msg):Rcp:=(I.of .i64 0,(I.of .i64 0,(c,(price,(value,(I.of .u64 0,(Z_U,(Z_U,(l,())))))))))
def c0W (c:Chg):I .u64:=c.1
def g6N (c:Chg):I .u64:=c.2.2.1
def g9M (c:Chg):I .u64:=c.2.2.2.1
def cOut (c:Chg):Bool:=c.2.2.2.2.1
def b5C (c:Chg):U:=c.2.2.2.2.2.2.1
def a9Q (c:Chg):U:=c.2.2.2.2.2.2.2.1
def c9K (c:Chg):U:=c.2.2.2.2.2.2.2.2.1
def c1H (c:Chg):U:=c.2.2.2.2.2.2.2.2.2.1
def a4P (m:MS) (t:Txn):Chg × I .i64:=e2A (c3S t) (e3W t) (tEx t) (d7F t) (d6V t) (d4A m.bk) m.pr.1 m.pm
def f9U (a b:I .u64):I .u64:=((a8U K0 ((a,(b,())),())).getD ((I.of .u64 0,()),())).1.1
theorem f4X (a b:I .u64):a8U K0 ((a,(b,())),()) = some ((f9U a b,()),()):=(f3J a b).val ((I.of .u64 0,()),())
def c9V (m:MS) (a:I .u64) (c:Chg):LgR:=c6D m.v m.ac a 2 (b5C c)
def d0D (m:MS) (a:I .u64) (c:Chg):LgR:=c6D (c9V m a c).2.1 (c9V m a c).2.2 a 1 (a9Q c)
def d0C (m:MS) (a:I .u64) (c:Chg):LgR:=c6D (d0D m a c).2.1 (d0D m a c).2.2 a 0 (c9K c)
def c0B (m:MS) (a:I .u64) (c:Chg):LgR:=c6D (d0C m a c).2.1 (d0C m a c).2.2 a 3 (c1H c)
def c2X (m:MS) (a:I .u64) (c:Chg):List Ac:=(e9D (c0B m a c).2.2 a).2
theorem b7B (v:V4) (l:List Ac) (a:I .u64) (k:Nat) (n:U):(c6D v l a k n).2.2.length ≤ l.length + 1:=by
 unfold c6D
 split
 ·
  exact Nat.le_succ _
 ·
  split <;> exact c1M _ _ _
theorem e4F (l:List Ac) (a:I .u64):(e9D l a).2.length ≤ l.length + 1:=by
 unfold e9D
 split
 ·
  exact Nat.le_succ _
 ·
  split
  ·
   exact Nat.le_succ _
  ·
   exact d6H _ _
def e8I (m:MS) (t:Txn) (c:Chg) (q:PrT):MS :=
 { m with bk:=(m.bk.1,(m.bk.2.1,(I.add (f2P m.bk) (g9M c),m.bk.2.2.2))),bl:=f9U m.bl (g6N c),pr:=q,v:=(c0B m (a2I t) c).2.1,ac:=c2X m (a2I t) c }
def g4B (m:MS) (t:Txn) (c:Chg) (price:U):Rcp × MS :=
 if I.neb (tTo t) (I.of .u64 18446744073709551615) = true then (txR c price (c5F t) [],{ m with ac:=(e9C m.ac (a2I t) (tTo t) (c5F t)).2 })
 else if (c5F t).val = 0 then (txR c price (c5F t) [],m)
 else (txR c price (c5F t) [c6Z m (a2I t) (c5F t)],e8F { m with ac:=(e1L m.ac (a2I t) (c5F t)).2 } (a2I t) (c5F t))
def txS (m:MS) (t:Txn):Rcp × MS :=
 if I.neb (b9X m t).2 (I.of .i64 0) = true then (d4C (b9X m t).2,m)
 else if I.neb (a4P m t).2 (I.of .i64 0) = true then (d4C (a4P m t).2,m)
 else if I.neb (a4H m.pr (c0W (a4P m t).1)).2 (I.of .i64 0) = true then (d4C (I.of .i64 4),m)
 else if cOut (a4P m t).1 = true then (txR (a4P m t).1 (b9X m t).1 Z_U [],e8I m t (a4P m t).1 (a4H m.pr (c0W (a4P m t).1)).1)
 else if I.eqb (tTo t) (a2I t) = true then (txR (a4P m t).1 (b9X m t).1 Z_U [],e8I m t (a4P m t).1 (a4H m.pr (c0W (a4P m t).1)).1)
 else g4B (e8I m t (a4P m t).1 (a4H m.pr (c0W (a4P m t).1)).1) t (a4P m t).1 (b9X m t).1
def g6W (r:Rcp):((I .i64) × ((I .i64) × (a9F × (U × (U × ((I .u64) × (U × (U × (Unit × Unit))))))))):=(r.1,(r.2.1,(r.2.2.1,(r.2.2.2.1,(r.2.2.2.2.1,(r.2.2.2.2.2.1,(r.2.2.2.2.2.2.1,(r.2.2.2.2.2.2.2.1,((),())))))))))
theorem e7G {m:MS} {t:Txn} (h:I.neb (b9X m t).2 (I.of .i64 0) = false):(c3S t).length ≤ 4096:=by
 by_cases q:4096 < (c3S t).length
 ·
  unfold b9X at h
  rw [if_pos q] at h
  exact absurd h (by decide)
 ·
  omega
theorem g8O (m:MS) (t:Txn) (h:Sz 100000000 m) (ht:(c3S t).length ≤ 1073741824):a7V K0 ((t,()),m.h) = some (((txS m t).1,()),(txS m t).2.h):=by
 refine Wp.out (T:=fun o=>o = some (((txS m t).1,()),(txS m t).2.h)) ?_
 unfold a7V txS
 have hac:=h.ac
 refine Wp.optF (g1B m t (h.mono (by decide)) ht) ?_
 refine Wp.brn (fun h1=>?_) (fun h1=>?_)
 ·
  have h1:I.neb (b9X m t).2 (I.of .i64 0) = true:=h1
  rw [if_pos h1]; rfl
 ·
  have h1:I.neb (b9X m t).2 (I.of .i64 0) = false:=h1
  rw [if_neg (a8O h1)]
  have hd:=e7G h1
  have hcomp:=e1V t.1 t.2.1 t.2.2.1 (e3W t) (tEx t) (c3S t) (c5F t) (d7F t) (d6V t) (d4A m.bk) m.pr.1 m.pm (by omega)
  refine Wp.optF hcomp ?_
  refine Wp.brn (fun h2=>?_) (fun h2=>?_)
  ·
   have h2:I.neb (a4P m t).2 (I.of .i64 0) = true:=h2
   rw [if_pos h2]; rfl
  ·
   have h2:I.neb (a4P m t).2 (I.of .i64 0) = false:=h2
   rw [if_neg (a8O h2)]
   refine Wp.optF (d9I m.pr (c0W (a4P m t).1) (by have:=h.pr; omega)) ?_
   refine Wp.brn (fun h3=>?_) (fun h3=>?_)
   ·
    have h3:I.neb (a4H m.pr (c0W (a4P m t).1)).2 (I.of .i64 0) = true:=h3
    rw [if_pos h3]; rfl
   ·
    have h3:I.neb (a4H m.pr (c0W (a4P m t).1)).2 (I.of .i64 0) = false:=h3
    rw [if_neg (a8O h3)]
    have l1:(c9V m (a2I t) (a4P m t).1).2.2.length ≤ m.ac.length + 1:=b7B _ _ _ _ _
    have l2:(d0D m (a2I t) (a4P m t).1).2.2.length ≤ (c9V m (a2I t) (a4P m t).1).2.2.length + 1:=b7B _ _ _ _ _
    have l3:(d0C m (a2I t) (a4P m t).1).2.2.length ≤ (d0D m (a2I t) (a4P m t).1).2.2.length + 1:=b7B _ _ _ _ _
    have l4:(c0B m (a2I t) (a4P m t).1).2.2.length ≤ (d0C m (a2I t) (a4P m t).1).2.2.length + 1:=b7B _ _ _ _ _
    have l5:(c2X m (a2I t) (a4P m t).1).length ≤ (c0B m (a2I t) (a4P m t).1).2.2.length + 1:=e4F _ _
    have p1:=d8K m.v m.ac (a2I t) 2 (by omega) (b5C (a4P m t).1) (by omega)
    have p2:=d8K (c9V m (a2I t) (a4P m t).1).2.1 (c9V m (a2I t) (a4P m t).1).2.2 (a2I t) 1 (by omega) (a9Q (a4P m t).1) (by omega)
    have p3:=d8K (d0D m (a2I t) (a4P m t).1).2.1 (d0D m (a2I t) (a4P m t).1).2.2 (a2I t) 0 (by omega) (c9K (a4P m t).1) (by omega)
    have p4:=d8K (d0C m (a2I t) (a4P m t).1).2.1 (d0C m (a2I t) (a4P m t).1).2.2 (a2I t) 3 (by omega) (c1H (a4P m t).1) (by omega)
    have p5:=g7H (c0B m (a2I t) (a4P m t).1).2.1 (c0B m (a2I t) (a4P m t).1).2.2 (a2I t) (by omega)
    refine Wp.optF p1 (Wp.optF p2 (Wp.optF p3 (Wp.optF p4 (Wp.optF p5 (Wp.optF (f4X m.bl (g6N (a4P m t).1)) ?_)))))
    refine Wp.jn (fun x=>(cOut (a4P m t).1 = false∧I.eqb (tTo t) (a2I t) = false)∧x = ((),((e8I m t (a4P m t).1 (a4H m.pr (c0W (a4P m t).1)).1).j,(lgH (c0B m (a2I t) (a4P m t).1).2.1,(c2X m (a2I t) (a4P m t).1,(m.ms,(esH m.bal,(m.rt,(m.cl,(m.ba,(t,(g6W (d4C (I.of .i64 0)),([],(g6W (txR (a4P m t).1 (b9X m t).1 Z_U []),([],())))))))))))))) ) ?_ ?_
    ·
     rintro x ⟨⟨g1,g2⟩,rfl⟩
     rw [if_neg (a8O g1),if_neg (a8O g2)]
     unfold g4B
     refine Wp.brn (fun h4=>?_) (fun h4=>?_)
     ·
      have h4:I.neb (tTo t) (I.of .u64 18446744073709551615) = true:=h4
      rw [if_pos h4]
      have p6:=g7L (c0B m (a2I t) (a4P m t).1).2.1 (c2X m (a2I t) (a4P m t).1) (a2I t) (tTo t) (c5F t) (by omega)
      exact Wp.optF p6 rfl
     ·
      have h4:I.neb (tTo t) (I.of .u64 18446744073709551615) = false:=h4
      rw [if_neg (a8O h4)]
      refine Wp.optF (c1T (c5F t)) ?_
      refine Wp.brn (fun h5=>?_) (fun h5=>?_)
      ·
       have h5:decide ((c5F t).val = 0) = false:=g7U h5
       rw [if_neg (of_decide_eq_false h5)]
       have p6:=g5J (c0B m (a2I t) (a4P m t).1).2.1 (c2X m (a2I t) (a4P m t).1) (a2I t) (c5F t) (by omega)
       refine Wp.optF p6 ?_
       have l6:(e1L (c2X m (a2I t) (a4P m t).1) (a2I t) (c5F t)).2.length ≤ (c2X m (a2I t) (a4P m t).1).length + 1:=by
        unfold e1L
        split
        ·
         exact Nat.le_succ _
        ·
         exact c1M _ _ _
       have p7:=f3P { e8I m t (a4P m t).1 (a4H m.pr (c0W (a4P m t).1)).1 with ac:=(e1L (c2X m (a2I t) (a4P m t).1) (a2I t) (c5F t)).2 } (a2I t) (c5F t) ⟨by show (e1L _ _ _).2.length ≤ _; omega,Nat.le_trans h.ms (by decide),Nat.le_trans h.rt (by decide),Nat.le_trans h.cl (by decide),Nat.le_trans h.ba (by decide),by have:=c9Q m.pr (c0W (a4P m t).1); have:=h.pr; show (a4H m.pr (c0W (a4P m t).1)).1.posters.length ≤ _; omega⟩
       refine Wp.optF p7 (Wp.brnT (b9Z _ _ (by show 0 + 1 ≤ _; omega)) rfl)
      ·
       have h5:decide ((c5F t).val = 0) = true:=h1M h5
       rw [if_pos (of_decide_eq_true h5)]
       rfl
    ·
     intro j hj
     refine Wp.brn (fun h4=>?_) (fun h4=>?_)
     ·
      have h4:cOut (a4P m t).1 = true:=h4
      rw [if_pos h4]; rfl
     ·
      have h4:cOut (a4P m t).1 = false:=h4
      refine Wp.brn (fun h5=>?_) (fun h5=>?_)
      ·
       have h5:I.eqb (tTo t) (a2I t) = true:=h5
       rw [if_neg (a8O h4),if_pos h5]; rfl
      ·
       have h5:I.eqb (tTo t) (a2I t) = false:=h5
       exact hj _ ⟨⟨h4,h5⟩,rfl⟩
end
end Sym

/- The machine of the reference: reports. -/
namespace Sym
open Go
noncomputable def b0J (s:MS × List Msg) (p:Pay):MS × List Msg:=(e8F { s.1 with v:=(e1Y s.1.v 2 p.2.1).2 } p.1 p.2.1,s.2 ++ [c6Z s.1 p.1 p.2.1])
noncomputable def c3T (m:MS) (l:List Pay):MS × List Msg:=l.foldl b0J (m,[])
theorem d4G (m:MS) (l:List Pay) (i:Nat) (h:i < l.length):c3T m (l.take (i + 1)) = b0J (c3T m (l.take i)) (rdL d3M l i):=by
 unfold c3T
 rw [List.take_add_one,List.getElem?_eq_getElem h,a4G _ _ _ h,List.foldl_append]
 rfl
theorem e7X {k:Nat} {s:MS × List Msg} (h:Sz k s.1) (p:Pay):Sz (k + 1) (b0J s p).1 :=
 e5O (m:={ s.1 with v:=(e1Y s.1.v 2 p.2.1).2 }) ⟨h.ac,h.ms,h.rt,h.cl,h.ba,h.pr⟩ _ _
theorem d6F {k:Nat} {m:MS} (h:Sz k m) (l:List Pay):∀ i,i ≤ l.length→Sz (k + i) (c3T m (l.take i)).1∧(c3T m (l.take i)).2.length = i
 | 0,_=>⟨h,rfl⟩
 | i + 1,hi=>by
  obtain ⟨h1,h2⟩:=d6F h l i (by omega)
  rw [d4G m l i (by omega)]
  refine ⟨e7X h1 _,?_⟩
  show (_ ++ [_]).length = _
  rw [List.length_append,h2]
  rfl
noncomputable def g7I (o:f4L) (paid:U) (l:List Msg):Rcp:=(I.of .i64 0,(I.of .i64 0,(h1W,(Z_U,(Z_U,(o.1,(o.2.1,(paid,(l,())))))))))
noncomputable def c5R (m:MS) (r:RepT):PrT × f4L × I .i64:=b3J m.pr m.pm (d4W m.v 2) r m.bk.2.1
noncomputable def c0A (m:MS) (r:RepT):List Pay:=(c5R m r).2.1.2.2.1
noncomputable def d3X (m:MS) (r:RepT):MS × List Msg:=c3T { m with pr:=(c5R m r).1 } (c0A m r)
noncomputable def d8T (m:MS) (r:RepT):Rcp × MS :=
 if I.neb (c5R m r).2.2 (I.of .i64 0) = true then (d4C (c5R m r).2.2,m)
 else (g7I (c5R m r).2.1 (c3X (a9O ((c0A m r).map amt))).1 (d3X m r).2,(d3X m r).1)
theorem g4U (m:MS) (r:RepT) (h:Sz 100000000 m):a5V K0 ((r,()),m.h) = some (((d8T m r).1,()),(d8T m r).2.h):=by
 refine Wp.out (T:=fun o=>o = some (((d8T m r).1,()),(d8T m r).2.h)) ?_
 unfold a5V d8T
 refine Wp.optF (f5T m.ac m.v 2 (by omega)) ?_
 refine Wp.optF (e8V m.pr m.pm (d4W m.v 2) r m.bk.2.1 (by have:=h.pr; omega)) ?_
 refine Wp.brn (fun h1=>?_) (fun h1=>?_)
 ·
  have h1:I.neb (c5R m r).2.2 (I.of .i64 0) = true:=h1
  rw [if_pos h1]; rfl
 ·
  have h1:I.neb (c5R m r).2.2 (I.of .i64 0) = false:=h1
  rw [if_neg (a8O h1)]
  have hlen:=f2I m.pr m.pm (d4W m.v 2) r m.bk.2.1
  have hpl:(c0A m r).length ≤ 64:=hlen.2
  refine Wp.optF (f2T (l:=c0A m r) (by omega)) ?_
  have hsz0:Sz 100000000 { m with pr:=(c5R m r).1 }:=⟨h.ac,h.ms,h.rt,h.cl,h.ba,Nat.le_trans hlen.1 (by decide)⟩
  refine Wp.iter (fun x=>∃ i,i ≤ (c0A m r).length∧x = ((i6 i,()),((c3T { m with pr:=(c5R m r).1 } ((c0A m r).take i)).1.j,(lgH (c3T { m with pr:=(c5R m r).1 } ((c0A m r).take i)).1.v,((c3T { m with pr:=(c5R m r).1 } ((c0A m r).take i)).1.ac,((c3T { m with pr:=(c5R m r).1 } ((c0A m r).take i)).1.ms,(esH (c3T { m with pr:=(c5R m r).1 } ((c0A m r).take i)).1.bal,((c3T { m with pr:=(c5R m r).1 } ((c0A m r).take i)).1.rt,((c3T { m with pr:=(c5R m r).1 } ((c0A m r).take i)).1.cl,((c3T { m with pr:=(c5R m r).1 } ((c0A m r).take i)).1.ba,(g6W (d4C (I.of .i64 0)),([],((c5R m r).2.1,(g6W (g7I (c5R m r).2.1 (c3X (a9O ((c0A m r).map amt))).1 []),((c3T { m with pr:=(c5R m r).1 } ((c0A m r).take i)).2,()))))))))))))))) (fun x=>(c0A m r).length - x.1.1.val.toNat) ?_ ⟨0,by omega,rfl⟩ (by rw [a6Y]; show (c0A m r).length - 0 < _; omega)
  rintro x ⟨i,hi,rfl⟩
  obtain ⟨hsz,hml⟩:=d6F hsz0 (c0A m r) i hi
  have hnx:=fun hc=>d4G { m with pr:=(c5R m r).1 } (c0A m r) i hc
  have hfin:i = (c0A m r).length→c3T { m with pr:=(c5R m r).1 } ((c0A m r).take i) = d3X m r:=by
   intro e
   rw [e,List.take_length]
   rfl
  generalize c3T { m with pr:=(c5R m r).1 } ((c0A m r).take i) = s at *
  obtain ⟨m',ml⟩:=s
  have e:I.ltb (i6 i) (I.ofNat .i64 (a0I (c0A m r))) = decide (i < (c0A m r).length):=a2T (by omega) (by show (c0A m r).length < _; omega)
  refine Wp.brn (fun hc=>?_) (fun hc=>?_)
  ·
   have hc:I.ltb (i6 i) (I.ofNat .i64 (a0I (c0A m r))) = true:=hc
   rw [e] at hc
   have hc:=of_decide_eq_true hc
   have hin:inB (i6 i) (a0I (c0A m r)) = true:=a3T hc (by omega)
   refine Wp.brnT hin ?_
   have hrd:rdL d3M (c0A m r) (I.nat (i6 i)) = rdL d3M (c0A m r) i:=by rw [a3G (by omega)]
   have w1:=g7E m'.v m'.ac 2 (by omega) (rdL d3M (c0A m r) (I.nat (i6 i))).2.1
   refine Wp.optF w1 (Wp.brnT hin (Wp.brnT hin ?_))
   have w2:=f3P { m' with v:=(e1Y m'.v 2 (rdL d3M (c0A m r) (I.nat (i6 i))).2.1).2 } (rdL d3M (c0A m r) (I.nat (i6 i))).1 (rdL d3M (c0A m r) (I.nat (i6 i))).2.1 ((show Sz (100000000 + i) { m' with v:=(e1Y m'.v 2 (rdL d3M (c0A m r) (I.nat (i6 i))).2.1).2 } from ⟨hsz.ac,hsz.ms,hsz.rt,hsz.cl,hsz.ba,hsz.pr⟩).mono (by omega))
   refine Wp.optF w2 (Wp.brnT (b9Z _ _ (by show ml.length + 1 ≤ _; have:ml.length = i:=hml; omega)) ?_)
   have hn:I.add (i6 i) (I.of .i64 1) = i6 (i + 1):=a3S (m:=1) (by omega)
   refine Wp.again ⟨i + 1,by omega,?_⟩ ?_
   ·
    rw [hnx hc]
    show ((I.add (i6 i) (I.of .i64 1),()),_) = _
    rw [hn,hrd]
    rfl
   ·
    show (c0A m r).length - (I.add (i6 i) (I.of .i64 1)).val.toNat < (c0A m r).length - (i6 i).val.toNat
    rw [hn,a0V (by omega),a0V (by omega)]; omega
  ·
   have hc:I.ltb (i6 i) (I.ofNat .i64 (a0I (c0A m r))) = false:=hc
   rw [e] at hc
   have hc:=of_decide_eq_false hc
   refine Wp.done ?_
   rw [← hfin (by omega)]
   rfl
end Sym

/- The machine of the reference: the other steps; a step. -/
namespace Sym
open Go
abbrev b6Q:Type:=a1U
def a2P (s:b6Q):I .i64:=s.1
def sTx (s:b6Q):Txn:=s.2.1
def f7A (s:b6Q):RepT:=s.2.2.1
def e1N (s:b6Q):I .u64:=s.2.2.2.1
def f9Z (s:b6Q):I .i64:=s.2.2.2.2.1
def c1J (s:b6Q):U:=s.2.2.2.2.2.1
def c6V (s:b6Q):I .u64:=s.2.2.2.2.2.2.1
def d3J (s:b6Q):Clm:=s.2.2.2.2.2.2.2.1
noncomputable def f9D (p:Prm) (k:I .i64) (n:U):Prm × I .i64 :=
 (((a7R K0 ((p,(k,(n,()))),())).getD ((a5D,(I.of .i64 0,())),())).1.1,((a7R K0 ((p,(k,(n,()))),())).getD ((a5D,(I.of .i64 0,())),())).1.2.1)
theorem g6Z (p:Prm) (k:I .i64) (n:U):a7R K0 ((p,(k,(n,()))),()) = some (((f9D p k n).1,((f9D p k n).2,())),()):=(g2Z p k n).val ((a5D,(I.of .i64 0,())),())
def f4E (b:I .u64) (p:Prm) (sec:I .u64):I .u64:=I.of .u64 ((b.nat - p.1.nat * sec.nat:Nat):Int)
theorem g6B (b:I .u64) (p:Prm) (sec:I .u64):b2C K0 ((b,(p.1,(sec,()))),()) = some ((f4E b p sec,()),()):=by
 refine Wp.out (T:=fun o=>o = some ((f4E b p sec,()),())) ?_
 unfold b2C
 exact Wp.optF (f2A b p.1 sec) rfl
noncomputable def d9S (m:MS) (s:b6Q):I .i64 × MS :=
 if I.eqb (a2P s) (I.of .i64 3) = true then
  (if I.eqb (c4J m.bk (e1N s) (f4E m.bl m.pm (e1N s)) m.pm).2 (I.of .i64 0) = true then ((c4J m.bk (e1N s) (f4E m.bl m.pm (e1N s)) m.pm).2,{ m with bk:=(c4J m.bk (e1N s) (f4E m.bl m.pm (e1N s)) m.pm).1,bl:=f4E m.bl m.pm (e1N s) })
   else ((c4J m.bk (e1N s) (f4E m.bl m.pm (e1N s)) m.pm).2,m))
 else if I.eqb (a2P s) (I.of .i64 4) = true then
  (if I.eqb (f9D m.pm (f9Z s) (c1J s)).2 (I.of .i64 0) = true then ((f9D m.pm (f9Z s) (c1J s)).2,{ m with pm:=(f9D m.pm (f9Z s) (c1J s)).1 }) else ((f9D m.pm (f9Z s) (c1J s)).2,m))
 else if I.eqb (a2P s) (I.of .i64 5) = true then
  (if I.eqb (a5Z m.pr (c6V s)).2 (I.of .i64 0) = true then ((a5Z m.pr (c6V s)).2,{ m with pr:=(a5Z m.pr (c6V s)).1 }) else ((a5Z m.pr (c6V s)).2,m))
 else if I.eqb (a2P s) (I.of .i64 6) = true then
  (if (c6V s).val = 0 ∨ (c6V s).val = 18446744073709551615 ∨ (c1J s).val = 0 then (I.of .i64 2,m)
   else if m.bal.val + (c1J s).val < U.top then ((c6F m.v m.ac (c6V s) (c1J s)).1,{ m with bal:=(f8X m.bal (c1J s)).2,v:=(c6F m.v m.ac (c6V s) (c1J s)).2.1,ac:=(c6F m.v m.ac (c6V s) (c1J s)).2.2 })
   else (I.of .i64 4,m))
 else ((c4D m.bal m.rt m.cl m.ba (d3J s)).1,{ m with bal:=(c4D m.bal m.rt m.cl m.ba (d3J s)).2.1,cl:=(c4D m.bal m.rt m.cl m.ba (d3J s)).2.2.1,ba:=(c4D m.bal m.rt m.cl m.ba (d3J s)).2.2.2 })
theorem g5K (m:MS) (s:b6Q) (h:Sz 100000000 m) (hp:(d3V (d3J s)).length ≤ 1073741824):a6G K0 ((s,()),m.h) = some (((d9S m s).1,()),(d9S m s).2.h):=by
 refine Wp.out (T:=fun o=>o = some (((d9S m s).1,()),(d9S m s).2.h)) ?_
 unfold a6G d9S
 have hac:=h.ac
 refine Wp.brn (fun k3=>?_) (fun k3=>?_)
 ·
  have k3:I.eqb (a2P s) (I.of .i64 3) = true:=k3
  rw [if_pos k3]
  refine Wp.optF (g6B m.bl m.pm (e1N s)) (Wp.optF (f5O m.bk (e1N s) (f4E m.bl m.pm (e1N s)) m.pm) ?_)
  refine Wp.brn (fun q=>?_) (fun q=>?_)
  ·
   have q:I.eqb (c4J m.bk (e1N s) (f4E m.bl m.pm (e1N s)) m.pm).2 (I.of .i64 0) = true:=q
   rw [if_pos q]; rfl
  ·
   have q:I.eqb (c4J m.bk (e1N s) (f4E m.bl m.pm (e1N s)) m.pm).2 (I.of .i64 0) = false:=q
   rw [if_neg (a8O q)]; rfl
 have k3:I.eqb (a2P s) (I.of .i64 3) = false:=k3
 rw [if_neg (a8O k3)]
 refine Wp.brn (fun k4=>?_) (fun k4=>?_)
 ·
  have k4:I.eqb (a2P s) (I.of .i64 4) = true:=k4
  rw [if_pos k4]
  refine Wp.optF (g6Z m.pm (f9Z s) (c1J s)) ?_
  refine Wp.brn (fun q=>?_) (fun q=>?_)
  ·
   have q:I.eqb (f9D m.pm (f9Z s) (c1J s)).2 (I.of .i64 0) = true:=q
   rw [if_pos q]; rfl
  ·
   have q:I.eqb (f9D m.pm (f9Z s) (c1J s)).2 (I.of .i64 0) = false:=q
   rw [if_neg (a8O q)]; rfl
 have k4:I.eqb (a2P s) (I.of .i64 4) = false:=k4
 rw [if_neg (a8O k4)]
 refine Wp.brn (fun k5=>?_) (fun k5=>?_)
 ·
  have k5:I.eqb (a2P s) (I.of .i64 5) = true:=k5
  rw [if_pos k5]
  refine Wp.optF (d6R m.pr (c6V s) (by have:=h.pr; omega)) ?_
  refine Wp.brn (fun q=>?_) (fun q=>?_)
  ·
   have q:I.eqb (a5Z m.pr (c6V s)).2 (I.of .i64 0) = true:=q
   rw [if_pos q]; rfl
  ·
   have q:I.eqb (a5Z m.pr (c6V s)).2 (I.of .i64 0) = false:=q
   rw [if_neg (a8O q)]; rfl
 have k5:I.eqb (a2P s) (I.of .i64 5) = false:=k5
 rw [if_neg (a8O k5)]
 refine Wp.brn (fun k6=>?_) (fun k6=>?_)
 ·
  have k6:I.eqb (a2P s) (I.of .i64 6) = true:=k6
  rw [if_pos k6]
  refine Wp.jn (fun x=>(¬ ((c6V s).val = 0 ∨ (c6V s).val = 18446744073709551615 ∨ (c1J s).val = 0))∧x = ((),(m.j,(lgH m.v,(m.ac,(m.ms,(esH m.bal,(m.rt,(m.cl,(m.ba,(s,()))))))))))) ?_ ?_
  ·
   rintro x ⟨h1,rfl⟩
   rw [if_neg h1]
   obtain ⟨r1,e1,B1⟩:=a1C m.bal
   obtain ⟨r2,e2,B2⟩:=a1C (c1J s)
   obtain ⟨r3,e3,B3⟩:=b2K B1 B2 (e7T B1) (e7T B2)
   have e4:=e0W B3 (f5A B3 (by have:=U.lt m.bal; have:=U.lt (c1J s); omega))
   refine Wp.optF e1 (Wp.optF e2 (Wp.optF e3 (Wp.optF e4 ?_)))
   by_cases hc:m.bal.val + (c1J s).val < U.top
   ·
    rw [if_pos hc]
    refine Wp.brnF (by rw [decide_eq_true hc]; rfl) ?_
    exact Wp.optF (g5V m.bal (c1J s) m.rt m.cl m.ba) (Wp.optF (g2I m.v m.ac (c6V s) (c1J s) (by omega)) rfl)
   ·
    rw [if_neg hc]
    exact Wp.brnT (by rw [decide_eq_false hc]; rfl) rfl
  ·
   intro j hj
   refine Wp.brn (fun h1=>?_) (fun h1=>?_)
   ·
    have h1:(c6V s).val = 0:=iff_eqb.1 h1
    rw [if_pos (.inl h1)]; rfl
   ·
    have h1:(c6V s).val ≠ 0:=niff_eqb.1 h1
    refine Wp.brn (fun h2=>?_) (fun h2=>?_)
    ·
     have h2:(c6V s).val = (I.of .u64 18446744073709551615).val:=iff_eqb.1 h2
     rw [if_pos (.inr (.inl h2))]; rfl
    ·
     have h2:(c6V s).val ≠ (I.of .u64 18446744073709551615).val:=niff_eqb.1 h2
     have c:(I.of .u64 18446744073709551615).val = 18446744073709551615:=rfl
     refine Wp.optF (c1T (c1J s)) ?_
     refine Wp.brn (fun h3=>?_) (fun h3=>?_)
     ·
      have h3:=of_decide_eq_true h3
      rw [if_pos (.inr (.inr h3))]; rfl
     ·
      have h3:=of_decide_eq_false h3
      exact hj _ ⟨by omega,rfl⟩
 have k6:I.eqb (a2P s) (I.of .i64 6) = false:=k6
 rw [if_neg (a8O k6)]
 exact Wp.optF (f5G m.bal m.rt m.cl m.ba (d3J s) (by have:=h.rt; omega) (by have:=h.cl; omega) (by have:=h.ba; omega) hp) rfl
noncomputable def c1K (m:MS):MS:=if I.neb (I.add m.steps (I.of .u64 1)) (I.of .u64 0) = true then { m with steps:=I.add m.steps (I.of .u64 1) } else m
def c7I (k:I .i64) (r:Rcp):Rcp:=(k,r.2)
noncomputable def d0I (m:MS) (s:b6Q):Rcp × MS :=
 if ¬ (1 ≤ (a2P s).val∧(a2P s).val ≤ 7) then (d4C (I.of .i64 17),c1K m)
 else if I.eqb (a2P s) (I.of .i64 1) = true then (c7I (a2P s) (txS (c1K m) (sTx s)).1,(txS (c1K m) (sTx s)).2)
 else if I.eqb (a2P s) (I.of .i64 2) = true then (c7I (a2P s) (d8T (c1K m) (f7A s)).1,(d8T (c1K m) (f7A s)).2)
 else (c7I (a2P s) (d4C (d9S (c1K m) s).1),(d9S (c1K m) s).2)
theorem f3R {n:Nat} {m:MS} (h:Sz n m):Sz n (c1K m):=by
 unfold c1K
 split
 ·
  exact ⟨h.ac,h.ms,h.rt,h.cl,h.ba,h.pr⟩
 ·
  exact h
theorem f8H (m:MS) (s:b6Q) (h:Sz 100000000 m) (hd:(c3S (sTx s)).length ≤ 1073741824) (hp:(d3V (d3J s)).length ≤ 1073741824):a4D K0 ((s,()),m.h) = some (((d0I m s).1,()),(d0I m s).2.h):=by
 refine Wp.out (T:=fun o=>o = some (((d0I m s).1,()),(d0I m s).2.h)) ?_
 unfold a4D
 refine Wp.jn (fun x=>x = ((),((c1K m).j,(lgH (c1K m).v,((c1K m).ac,((c1K m).ms,(esH (c1K m).bal,((c1K m).rt,((c1K m).cl,((c1K m).ba,(s,(g6W (d4C (I.of .i64 0)),([],())))))))))))) ) ?_ ?_
 ·
  rintro x rfl
  unfold d0I
  have hz:=f3R h
  have hk:a8I K0 ((a2P s,()),()) = some ((decide (1 ≤ (a2P s).val∧(a2P s).val ≤ 7),()),()):=by
   refine Wp.out (T:=fun o=>o = some ((decide (1 ≤ (a2P s).val∧(a2P s).val ≤ 7),()),())) ?_
   unfold a8I
   refine Wp.brn (fun q=>?_) (fun q=>?_)
   ·
    have q:(I.of .i64 1).val ≤ (a2P s).val:=iff_leb.1 q
    have q:1 ≤ (a2P s).val:=q
    show some ((I.leb (a2P s) (I.of .i64 7),()),()) = _
    unfold I.leb
    by_cases g:(a2P s).val ≤ 7
    ·
     rw [decide_eq_true (show (a2P s).val ≤ (I.of .i64 7).val from g),decide_eq_true ⟨q,g⟩]
    ·
     rw [decide_eq_false (show ¬ (a2P s).val ≤ (I.of .i64 7).val from g),decide_eq_false (fun hh=>g hh.2)]
   ·
    have q:(a2P s).val < (I.of .i64 1).val:=niff_leb.1 q
    have q:(a2P s).val < 1:=q
    rw [decide_eq_false (by omega)]
    rfl
  refine Wp.optF hk ?_
  by_cases g:1 ≤ (a2P s).val∧(a2P s).val ≤ 7
  ·
   rw [if_neg (by simp [g])]
   refine Wp.brnF (by rw [decide_eq_true g]; rfl) ?_
   refine Wp.brn (fun q=>?_) (fun q=>?_)
   ·
    have q:I.eqb (a2P s) (I.of .i64 1) = true:=q
    rw [if_pos q]
    exact Wp.optF (g8O (c1K m) (sTx s) hz hd) rfl
   ·
    have q:I.eqb (a2P s) (I.of .i64 1) = false:=q
    rw [if_neg (a8O q)]
    refine Wp.brn (fun q=>?_) (fun q=>?_)
    ·
     have q:I.eqb (a2P s) (I.of .i64 2) = true:=q
     rw [if_pos q]
     exact Wp.optF (g4U (c1K m) (f7A s) hz) rfl
    ·
     have q:I.eqb (a2P s) (I.of .i64 2) = false:=q
     rw [if_neg (a8O q)]
     exact Wp.optF (g5K (c1K m) s hz hp) rfl
  ·
   rw [if_pos g]
   exact Wp.brnT (by rw [decide_eq_false g]; rfl) rfl
 ·
  intro j hj
  refine Wp.brn (fun q=>?_) (fun q=>?_)
  ·
   have q:I.neb (I.add m.steps (I.of .u64 1)) (I.of .u64 0) = true:=q
   have e:c1K m = { m with steps:=I.add m.steps (I.of .u64 1) }:=by unfold c1K; rw [if_pos q]
   exact hj _ (by rw [e]; rfl)
  ·
   have q:I.neb (I.add m.steps (I.of .u64 1)) (I.of .u64 0) = false:=q
   have e:c1K m = m:=by unfold c1K; rw [if_neg (a8O q)]
   exact hj _ (by rw [e]; rfl)
end Sym

/- The machine's lists stay small. -/
namespace Sym
open Go
theorem f8B (l:List Pay) (a:I .u64) (n:U):(g0G l a n).length ≤ l.length + 1:=by
 unfold g0G
 split
 ·
  rw [d6O]; omega
 ·
  simp
theorem f7D (b:U) (r:List Hs) (cl:List (I .u64)) (ba:List Pay) (c:Clm):(c4D b r cl ba c).2.2.1.length ≤ cl.length + 1∧(c4D b r cl ba c).2.2.2.length ≤ ba.length + 1:=by
 unfold c4D
 split
 ·
  exact ⟨Nat.le_succ _,Nat.le_succ _⟩
 split
 ·
  exact ⟨Nat.le_succ _,Nat.le_succ _⟩
 split
 ·
  exact ⟨Nat.le_succ _,Nat.le_succ _⟩
 split
 ·
  exact ⟨Nat.le_succ _,Nat.le_succ _⟩
 split
 ·
  exact ⟨Nat.le_succ _,Nat.le_succ _⟩
 split
 ·
  exact ⟨by simp,f8B _ _ _⟩
 ·
  exact ⟨Nat.le_succ _,Nat.le_succ _⟩
theorem f0Y (v:V4) (l:List Ac) (a:I .u64) (n:U):(c6F v l a n).2.2.length ≤ l.length + 1:=by
 unfold c6F
 split
 ·
  exact Nat.le_succ _
 split
 ·
  exact d1X _ _ _
 ·
  exact Nat.le_succ _
theorem f4S (l:List Ac) (a b:I .u64) (n:U):(e9C l a b n).2.length ≤ l.length + 2:=by
 unfold e9C
 have h:=c1M l a n
 split
 ·
  show l.length ≤ _; omega
 split
 ·
  have:=d1X (a4T l a n) b n
  show (b7H _ _ _).length ≤ _
  omega
 ·
  show (a4T _ _ _).length ≤ _; omega
theorem f6W (l:List Ac) (a:I .u64) (n:U):(e1L l a n).2.length ≤ l.length + 1:=by
 unfold e1L
 split
 ·
  exact Nat.le_succ _
 ·
  exact c1M _ _ _
def b4I (r:Rcp):List Msg:=r.2.2.2.2.2.2.2.2.1
theorem d5Z {n:Nat} {m:MS} (h:Sz n m) (t:Txn) (c:Chg) (u:I .u64):Sz (n + 5) (e8I m t c (a4H m.pr u).1):=by
 have l1:(c9V m (a2I t) c).2.2.length ≤ m.ac.length + 1:=b7B _ _ _ _ _
 have l2:(d0D m (a2I t) c).2.2.length ≤ (c9V m (a2I t) c).2.2.length + 1:=b7B _ _ _ _ _
 have l3:(d0C m (a2I t) c).2.2.length ≤ (d0D m (a2I t) c).2.2.length + 1:=b7B _ _ _ _ _
 have l4:(c0B m (a2I t) c).2.2.length ≤ (d0C m (a2I t) c).2.2.length + 1:=b7B _ _ _ _ _
 have l5:(c2X m (a2I t) c).length ≤ (c0B m (a2I t) c).2.2.length + 1:=e4F _ _
 have hac:=h.ac
 have hu:=c9Q m.pr u
 have hpr:=h.pr
 exact ⟨by show (c2X m (a2I t) c).length ≤ _; omega,Nat.le_add_right_of_le h.ms,Nat.le_add_right_of_le h.rt,Nat.le_add_right_of_le h.cl,Nat.le_add_right_of_le h.ba,by show (a4H m.pr u).1.posters.length ≤ _; omega⟩
theorem g0C {n:Nat} {m:MS} (h:Sz n m) (t:Txn) (c:Chg) (p:U):Sz (n + 2) (g4B m t c p).2∧(b4I (g4B m t c p).1).length ≤ 1:=by
 unfold g4B
 have hac:=h.ac
 split
 ·
  have:=f4S m.ac (a2I t) (tTo t) (c5F t)
  exact ⟨⟨by show (e9C _ _ _ _).2.length ≤ _; omega,Nat.le_add_right_of_le h.ms,Nat.le_add_right_of_le h.rt,Nat.le_add_right_of_le h.cl,Nat.le_add_right_of_le h.ba,Nat.le_add_right_of_le h.pr⟩,Nat.zero_le _⟩
 split
 ·
  exact ⟨h.mono (by omega),Nat.zero_le _⟩
 ·
  have:=f6W m.ac (a2I t) (c5F t)
  refine ⟨e5O (k:=n + 1) (m:={ m with ac:=(e1L m.ac (a2I t) (c5F t)).2 }) ⟨by show (e1L _ _ _).2.length ≤ _; omega,Nat.le_succ_of_le h.ms,Nat.le_succ_of_le h.rt,Nat.le_succ_of_le h.cl,Nat.le_succ_of_le h.ba,Nat.le_succ_of_le h.pr⟩ _ _,Nat.le_refl _⟩
theorem g7O {n:Nat} {m:MS} (h:Sz n m) (t:Txn):Sz (n + 7) (txS m t).2∧(b4I (txS m t).1).length ≤ 1:=by
 unfold txS
 split
 ·
  exact ⟨h.mono (by omega),Nat.zero_le _⟩
 split
 ·
  exact ⟨h.mono (by omega),Nat.zero_le _⟩
 split
 ·
  exact ⟨h.mono (by omega),Nat.zero_le _⟩
 split
 ·
  exact ⟨(d5Z h t _ _).mono (by omega),Nat.zero_le _⟩
 split
 ·
  exact ⟨(d5Z h t _ _).mono (by omega),Nat.zero_le _⟩
 ·
  exact g0C (d5Z h t _ _) t _ _
theorem f9V {n:Nat} {m:MS} (h:Sz n m) (r:RepT):Sz (n + 128) (d8T m r).2∧(b4I (d8T m r).1).length ≤ 64:=by
 unfold d8T
 have hlen:=f2I m.pr m.pm (d4W m.v 2) r m.bk.2.1
 have hpl:(c0A m r).length ≤ 64:=hlen.2
 split
 ·
  exact ⟨h.mono (by omega),Nat.zero_le _⟩
 ·
  have h0:Sz (n + 64) { m with pr:=(c5R m r).1 }:=⟨Nat.le_add_right_of_le h.ac,Nat.le_add_right_of_le h.ms,Nat.le_add_right_of_le h.rt,Nat.le_add_right_of_le h.cl,Nat.le_add_right_of_le h.ba,Nat.le_trans hlen.1 (by omega)⟩
  obtain ⟨h1,h2⟩:=d6F h0 (c0A m r) (c0A m r).length (Nat.le_refl _)
  rw [List.take_length] at h1 h2
  exact ⟨h1.mono (by omega),by show (c3T _ _).2.length ≤ _; omega⟩
theorem g2T {n:Nat} {m:MS} (h:Sz n m) (s:b6Q):Sz (n + 1) (d9S m s).2:=by
 have h1:Sz (n + 1) m:=h.mono (by omega)
 unfold d9S
 split
 ·
  split
  ·
   exact ⟨h1.ac,h1.ms,h1.rt,h1.cl,h1.ba,h1.pr⟩
  ·
   exact h1
 split
 ·
  split
  ·
   exact ⟨h1.ac,h1.ms,h1.rt,h1.cl,h1.ba,h1.pr⟩
  ·
   exact h1
 split
 ·
  split
  ·
   have:=d7X m.pr (c6V s)
   have:=h.pr
   exact ⟨h1.ac,h1.ms,h1.rt,h1.cl,h1.ba,by show (a5Z m.pr (c6V s)).1.posters.length ≤ _; omega⟩
  ·
   exact h1
 split
 ·
  split
  ·
   exact h1
  split
  ·
   have:=f0Y m.v m.ac (c6V s) (c1J s)
   have:=h.ac
   exact ⟨by show (c6F _ _ _ _).2.2.length ≤ _; omega,h1.ms,h1.rt,h1.cl,h1.ba,h1.pr⟩
  ·
   exact h1
 ·
  obtain ⟨g1,g2⟩:=f7D m.bal m.rt m.cl m.ba (d3J s)
  have:=h.cl
  have:=h.ba
  exact ⟨h1.ac,h1.ms,h1.rt,by show (c4D _ _ _ _ _).2.2.1.length ≤ _; omega,by show (c4D _ _ _ _ _).2.2.2.length ≤ _; omega,h1.pr⟩
theorem f3A {n:Nat} {m:MS} (h:Sz n m) (s:b6Q):Sz (n + 128) (d0I m s).2∧(b4I (d0I m s).1).length ≤ 64:=by
 unfold d0I
 have hz:=f3R h
 split
 ·
  exact ⟨hz.mono (by omega),Nat.zero_le _⟩
 split
 ·
  obtain ⟨g1,g2⟩:=g7O hz (sTx s)
  exact ⟨g1.mono (by omega),Nat.le_trans g2 (by decide)⟩
 split
 ·
  exact f9V hz (f7A s)
 ·
  exact ⟨(g2T hz s).mono (by omega),Nat.zero_le _⟩
end Sym

/- Steps that a number determines: they exist, and are small. -/
namespace Sym
open Go
structure StG (calm:Bool) (n:Nat) (s:b6Q):Prop where
 data:(c3S (sTx s)).length ≤ 1000
 prf:(d3V (d3J s)).length ≤ n + 1
 dep:calm = true→I.eqb (a2P s) (I.of .i64 6) = true→(c1J s).val < 1152921504606846976
theorem g9U (x:I .u64):U.val (x,((I.of .u64 0),((I.of .u64 0),((I.of .u64 0),())))) = x.nat:=by
 show x.nat + 18446744073709551616 * (0 + 18446744073709551616 * (0 + 18446744073709551616 * 0)) = x.nat
 omega
theorem e5G {a m:I .i64} (h:0 ≤ a.val) (h2:0 < m.val):(I.conv (k:=.i64) .u64 (I.rem a m)).nat < m.val.toNat:=by
 have e:=b7O h h2
 have h3:=Int.emod_nonneg a.val (b:=m.val) (by omega)
 have h4:=Int.emod_lt_of_pos a.val h2
 have hm:=b5F m
 have hv:(I.conv (k:=.i64) .u64 (I.rem a m)).val = a.val % m.val:=by
  unfold I.conv
  rw [e]
  exact b9N ⟨h3,by omega⟩
 have:=a1Y (I.conv (k:=.i64) .u64 (I.rem a m))
 omega
theorem c4L {a:I .i64} (h:0 ≤ a.val):U.val ((I.add (I.of .u64 4503599627370496) (I.conv (k:=.i64) .u64 (I.rem a (I.of .i64 100000)))),((I.of .u64 0),((I.of .u64 0),((I.of .u64 0),())))) < 1152921504606846976:=by
 rw [g9U]
 have h1:(I.conv (k:=.i64) .u64 (I.rem a (I.of .i64 100000))).nat < 100000:=e5G h (by decide)
 have c:(I.of .u64 4503599627370496).nat = 4503599627370496:=rfl
 rw [c5M _ _ (by omega)]
 omega
theorem e6W {a:I .i64} (h:0 ≤ a.val):U.val ((I.conv (k:=.i64) .u64 (I.rem a (I.of .i64 50))),((I.of .u64 0),((I.of .u64 0),((I.of .u64 0),())))) < 1152921504606846976:=by
 rw [g9U]
 have h1:(I.conv (k:=.i64) .u64 (I.rem a (I.of .i64 50))).nat < 50:=e5G h (by decide)
 omega
def f8G (calm:Bool) (n:Nat) (o:Option ((⟨[.pl a1M],[]⟩:Tm).D)):Prop:=∃ s:b6Q,o = some ((s,()),())∧StG calm n s
theorem e7F (a:I .i64) (b:I .u64) (c:Bool) (n:Nat) (h:0 ≤ a.val):f8G c n (b0Z K0 ((a,(b,(c,()))),())):=by
 refine Wp.out (T:=fun o=>f8G c n o) ?_
 unfold b0Z
 have z:([]:List (I .u8)).length ≤ 1000:=Nat.zero_le _
 have z2:([]:List Hs).length ≤ n + 1:=Nat.zero_le _
 refine Wp.brn (fun _=>⟨_,rfl,z,z2,fun _ _=>c4L h⟩) (fun _=>?_)
 refine Wp.brn (fun _=>⟨_,rfl,z,z2,fun _ _=>c4L h⟩) (fun _=>?_)
 refine Wp.brn (fun _=>⟨_,rfl,z,z2,fun _ _=>c4L h⟩) (fun _=>?_)
 refine Wp.brn (fun _=>⟨_,rfl,z,z2,fun _ _=>e6W h⟩) (fun _=>?_)
 refine Wp.brn (fun _=>?_) (fun _=>⟨_,rfl,z,z2,fun _ _=>c4L h⟩)
 refine Wp.brn (fun hc=>⟨_,rfl,z,z2,fun g _=>?_⟩) (fun _=>⟨_,rfl,z,z2,fun _ _=>c4L h⟩)
 have hc:c = false:=g7U hc
 rw [hc] at g
 cases g
theorem f7K (a:I .i64) (c:Bool) (n:Nat) (h:0 ≤ a.val):f8G c n (b2S K0 ((a,()),())):=by
 refine Wp.out (T:=fun o=>f8G c n o) ?_
 unfold b2S
 have z:([]:List (I .u8)).length ≤ 1000:=Nat.zero_le _
 have z2:([]:List Hs).length ≤ n + 1:=Nat.zero_le _
 have e:=b7O (b:=I.of .i64 12) h (by decide)
 have c12:(I.of .i64 12).val = 12:=rfl
 refine Wp.brnT (iff_inB.2 (by show 0 ≤ (I.rem a (I.of .i64 12)).val∧(I.rem a (I.of .i64 12)).val < ((12:Nat):Int); rw [e,c12]; omega)) ?_
 refine Wp.jn (fun x=>(c3S (sTx x.2.2.1)).length ≤ 1000∧(d3V (d3J x.2.2.1)).length ≤ n + 1∧I.eqb (a2P x.2.2.1) (I.of .i64 6) = false) ?_ ?_
 ·
  rintro ⟨x0,x1,s,⟨⟩⟩ ⟨h1,h2,h3⟩
  have h3:I.eqb (a2P s) (I.of .i64 6) = false:=h3
  refine Wp.brn (fun _=>⟨_,rfl,h1,h2,fun _ g=>?_⟩) (fun _=>⟨_,rfl,h1,h2,fun _ g=>?_⟩)
  ·
   have g:I.eqb (a2P s) (I.of .i64 6) = true:=g
   rw [h3] at g; cases g
  ·
   have g:I.eqb (a2P s) (I.of .i64 6) = true:=g
   rw [h3] at g; cases g
 ·
  intro j hj
  exact Wp.brn (fun _=>hj _ ⟨z,z2,rfl⟩) (fun _=>hj _ ⟨z,z2,rfl⟩)
theorem f2Y (a:I .i64) (m:MS):∃ r:RepT,b1W K0 ((a,()),m.h) = some ((r,()),m.h):=by
 refine Wp.out (T:=fun o=>∃ r:RepT,o = some ((r,()),m.h)) ?_
 unfold b1W
 have hnz:I.nz (I.add (I.mn (I.sub m.bk.2.1 m.pr.2.2.1) (I.of .u64 1099511627776)) (I.of .u64 2)) = true:=by
  have h1:=g6E (I.sub m.bk.2.1 m.pr.2.2.1) (I.of .u64 1099511627776)
  have c1:(I.of .u64 1099511627776).nat = 1099511627776:=rfl
  have c2:(I.of .u64 2).nat = 2:=rfl
  have h2:=c5M (I.mn (I.sub m.bk.2.1 m.pr.2.2.1) (I.of .u64 1099511627776)) (I.of .u64 2) (by omega)
  refine iff_nz.2 ?_
  have:=a1Y (I.add (I.mn (I.sub m.bk.2.1 m.pr.2.2.1) (I.of .u64 1099511627776)) (I.of .u64 2))
  omega
 refine Wp.brnT hnz ?_
 exact Wp.brn (fun _=>⟨_,rfl⟩) (fun _=>Wp.brn (fun _=>⟨_,rfl⟩) (fun _=>Wp.brn (fun _=>⟨_,rfl⟩) (fun _=>⟨_,rfl⟩)))
theorem e7B (a:I .i64):Tot (b1Q K0 ((a,()),())):=by
 refine Wp.out (T:=fun o=>Tot o) ?_
 unfold b1Q
 refine Wp.iter (fun x=>∃ i,i ≤ 8∧x.1.2.1 = i6 i) (fun x=>8 - x.1.2.1.val.toNat) ?_ ⟨0,by omega,rfl⟩ (by rw [a6Y]; show 8 - 0 < _; decide)
 rintro ⟨⟨b,j,⟨⟩⟩,x2⟩ ⟨q,hq,e2⟩
 simp only at e2
 subst e2
 refine Wp.brn (fun hc=>?_) (fun hc=>Wp.done ⟨_,rfl⟩)
 have hc:q < 8:=by have:=iff_ltb.1 hc; simp only [a0V (show q < 9223372036854775808 by omega),show (I.of .i64 8).val = 8 from rfl] at this; omega
 have hn:I.add (i6 q) (I.of .i64 1) = i6 (q + 1):=a3S (m:=1) (by omega)
 refine Wp.brnT (c3J _) (Wp.brnT (a3T (by omega) (by omega)) ?_)
 refine Wp.again ⟨q + 1,by omega,hn⟩ ?_
 show 8 - (I.add (i6 q) (I.of .i64 1)).val.toNat < 8 - (i6 q).val.toNat
 rw [hn,a0V (by omega),a0V (by omega)]; omega
end Sym

/- Steps that a number determines, continued. -/
namespace Sym
open Go
theorem e6E {a:I .i64} {n:Nat} (h:0 ≤ a.val) (hn:0 < n) (hn2:n < 9223372036854775808):∃ k,I.rem a (i6 n) = i6 k∧k < n:=by
 have e:=b7O (b:=i6 n) h (by rw [a0V hn2]; omega)
 rw [a0V hn2] at e
 have h3:=Int.emod_nonneg a.val (b:=(n:Int)) (by omega)
 have h4:=Int.emod_lt_of_pos a.val (b:=(n:Int)) (by omega)
 refine ⟨(a.val % (n:Int)).toNat,?_,by omega⟩
 apply I.ext'
 rw [e,a0V (by omega)]
 omega
theorem f1H {a m:I .i64} (h:0 ≤ a.val) (h2:0 < m.val):0 ≤ (I.quo a m).val:=by
 rw [b9B h h2]
 exact Int.ediv_nonneg h (by omega)
theorem d3Q (a:I .i64) (b:I .u64) (m:MS) (h:0 ≤ a.val) (hs:Sz 100000000 m):∃ t:Txn,a7X K0 ((a,(b,())),m.h) = some ((t,()),m.h)∧(c3S t).length ≤ 1000:=by
 refine Wp.out (T:=fun o=>∃ t:Txn,o = some ((t,()),m.h)∧(c3S t).length ≤ 1000) ?_
 unfold a7X
 have hac:=hs.ac
 refine Wp.optF (e0R m.ac (lgH m.v).2 b (by omega)) ?_
 obtain ⟨k6,e6,hk6⟩:=e6E (n:=6) h (by omega) (by omega)
 refine Wp.brnT (by show inB (I.rem a (i6 6)) 6 = true; rw [e6]; exact a3T hk6 (by omega)) ?_
 obtain ⟨r1,e1,B1⟩:=a1C (d4A m.bk)
 obtain ⟨r2,e2,B2⟩:=a1J (I.conv (k:=.i64) .u64 (I.add (I.of .i64 1) (I.rem a (I.of .i64 3))))
 obtain ⟨r3,e3,B3⟩:=b2O B1 B2 (e7T B1) (d8U B2)
 have h3:(d4A m.bk).val * (I.conv (k:=.i64) .u64 (I.add (I.of .i64 1) (I.rem a (I.of .i64 3)))).nat < P40:=by
  have h3:=Nat.mul_le_mul (Nat.le_of_lt (U.lt (d4A m.bk))) (Nat.le_of_lt (a3E (I.conv (k:=.i64) .u64 (I.add (I.of .i64 1) (I.rem a (I.of .i64 3))))))
  exact Nat.lt_of_le_of_lt h3 (by decide +kernel)
 have e4:=c4N B3 (lenK' B3 h3)
 refine Wp.optF e1 (Wp.optF e2 (Wp.optF e3 (Wp.optF e4 ?_)))
 obtain ⟨k5,e5,hk5⟩:=e6E (a:=I.quo a (I.of .i64 5)) (n:=5) (f1H h (by decide)) (by omega) (by omega)
 have e5:I.rem (I.quo a (I.of .i64 5)) (I.of .i64 5) = i6 k5:=e5
 refine Wp.brnT (by show inB' (I.rem (I.quo a (I.of .i64 5)) (I.of .i64 5)) 4 = true; rw [e5]; exact i6_inB' (by omega) (by omega)) ?_
 obtain ⟨out,ho,hol⟩:=c7H (a3W (a :: ((I.quo a (I.of .i64 3)) :: ((I.quo a (I.of .i64 7)) :: ((I.quo a (I.of .i64 11)) :: [])))) 0 (I.nat (I.rem (I.quo a (I.of .i64 5)) (I.of .i64 5)))) (by rw [b8I]; show min _ (4 - 0) ≤ _; omega)
 have hol:out.length ≤ 1000:=by
  rw [b8I] at hol
  have:∀ z,min z ((a :: ((I.quo a (I.of .i64 3)) :: ((I.quo a (I.of .i64 7)) :: ((I.quo a (I.of .i64 11)) :: [])))).length - 0) ≤ 4:=fun z=>by show min z (4 - 0) ≤ 4; omega
  have:=this (I.nat (I.rem (I.quo a (I.of .i64 5)) (I.of .i64 5)))
  omega
 refine Wp.optF ho ?_
 refine Wp.brn (fun _=>⟨_,rfl,hol⟩) (fun _=>Wp.brn (fun _=>⟨_,rfl,hol⟩) (fun _=>Wp.brn (fun _=>⟨_,rfl,hol⟩) (fun _=>Wp.brn (fun _=>⟨_,rfl,hol⟩) (fun _=>Wp.brn (fun _=>⟨_,rfl,hol⟩) (fun _=>Wp.brn (fun _=>Wp.tot ⟨_,rfl⟩ fun _=>Wp.tot ⟨_,rfl⟩ fun _=>⟨_,rfl,hol⟩) (fun _=>Wp.brn (fun _=>⟨_,rfl,hol⟩) (fun _=>⟨_,rfl,hol⟩)))))))
theorem f4P (a:I .i64) (m:MS) (h:0 ≤ a.val) (hs:Sz 100000000 m):∃ c:Clm,b2T K0 ((a,()),m.h) = some ((c,()),m.h)∧(d3V c).length ≤ m.ms.length + 1:=by
 refine Wp.out (T:=fun o=>∃ c:Clm,o = some ((c,()),m.h)∧(d3V c).length ≤ m.ms.length + 1) ?_
 unfold b2T
 have hl:=hs.ms
 have e0:I.eqb (I.ofNat .i64 (a0I m.ms)) (I.of .i64 0) = decide (m.ms.length = 0):=d9Y (n:=m.ms.length) (m:=0) (by omega) (by omega)
 refine Wp.brn (fun _=>⟨_,rfl,Nat.zero_le _⟩) (fun h0=>?_)
 have h0:I.eqb (I.ofNat .i64 (a0I m.ms)) (I.of .i64 0) = false:=h0
 rw [e0] at h0
 have h0:=of_decide_eq_false h0
 have nz6:∀ n:Nat,n ≠ 0→n < 9223372036854775808→I.nz (i6 n) = true:=fun n h1 h2=>iff_nz.2 (by rw [a0V h2]; omega)
 refine Wp.brnT (nz6 m.ms.length h0 (by omega)) ?_
 obtain ⟨k,ek,hk⟩:=e6E (n:=m.ms.length) h (by omega) (by omega)
 have ek:I.rem a (I.ofNat .i64 (a0I m.ms)) = i6 k:=ek
 have es:I.sub (I.ofNat .i64 (a0I m.ms)) (I.rem a (I.ofNat .i64 (a0I m.ms))) = i6 (m.ms.length - k):=by rw [ek]; exact b9U (n:=m.ms.length) (by omega) (by omega)
 refine Wp.brnT (by show I.nz (I.sub (I.ofNat .i64 (a0I m.ms)) (I.rem a (I.ofNat .i64 (a0I m.ms)))) = true; rw [es]; exact nz6 _ (by omega) (by omega)) ?_
 obtain ⟨q,eq,hq⟩:=e6E (a:=I.quo a (I.of .i64 7)) (n:=m.ms.length - k) (f1H h (by decide)) (by omega) (by omega)
 have en:I.add (I.add (I.rem a (I.ofNat .i64 (a0I m.ms))) (I.of .i64 1)) (I.rem (I.quo a (I.of .i64 7)) (I.sub (I.ofNat .i64 (a0I m.ms)) (I.rem a (I.ofNat .i64 (a0I m.ms))))) = i6 (k + 1 + q):=by
  rw [es,eq,ek,show I.add (i6 k) (I.of .i64 1) = i6 (k + 1) from a3S (m:=1) (by omega)]
  exact a3S (by omega)
 obtain ⟨y,hy,bb,o,rfl,ho⟩:=e2X m.ms (I.rem a (I.ofNat .i64 (a0I m.ms))) (k + 1 + q) (by omega) (by omega)
 rw [← en] at hy
 have hin:inB (I.rem a (I.ofNat .i64 (a0I m.ms))) (a0I m.ms) = true:=by rw [ek]; exact a3T hk (by omega)
 have ho1:o.length ≤ m.ms.length + 1:=by omega
 refine Wp.optF hy (Wp.brnT hin (Wp.brnT hin ?_))
 refine Wp.brn (fun _=>?_) (fun _=>Wp.brn (fun _=>⟨_,rfl,ho1⟩) (fun _=>Wp.brn (fun _=>?_) (fun _=>Wp.brn (fun _=>?_) (fun _=>⟨_,rfl,ho1⟩))))
 ·
  obtain ⟨r1,f1,B1⟩:=a1C (rdL a0O m.ms (I.nat (I.rem a (I.ofNat .i64 (a0I m.ms))))).2.2.1
  obtain ⟨r2,f2,B2⟩:=a1J (I.of .u64 1)
  obtain ⟨r3,f3,B3⟩:=b2K B1 B2 (e7T B1) (d8U B2)
  refine Wp.optF f1 (Wp.optF f2 (Wp.optF f3 (Wp.optF (y:=((((I.of .u64 18446744073709551615),((I.of .u64 18446744073709551615),((I.of .u64 18446744073709551615),((I.of .u64 18446744073709551615),())))),()),())) rfl ?_)))
  obtain ⟨r5,f5,B5⟩:=a1C (((I.of .u64 18446744073709551615),((I.of .u64 18446744073709551615),((I.of .u64 18446744073709551615),((I.of .u64 18446744073709551615),())))))
  have hlt:=U.lt (rdL a0O m.ms (I.nat (I.rem a (I.ofNat .i64 (a0I m.ms))))).2.2.1
  have c1:(I.of .u64 1).nat = 1:=rfl
  obtain ⟨y6,f6,r6,rfl,B6⟩:=e2L B3 B5 (f5A B3 (by rw [c1]; have:U.top = 115792089237316195423570985008687907853269984665640564039457584007913129639936:=rfl; omega)) (e7T B5)
  have f7:=c4N B6 (f5A B6 (by rw [c1]; have:U.top = 115792089237316195423570985008687907853269984665640564039457584007913129639936:=rfl; omega))
  exact Wp.optF f5 (Wp.optF f6 (Wp.optF f7 ⟨_,rfl,ho1⟩))
 ·
  refine Wp.tot (e7B a) fun y1=>Wp.brnT (b9Z _ _ (by show o.length + 1 ≤ _; omega)) ⟨_,rfl,?_⟩
  show (a2A o [_]).length ≤ _
  rw [a8L]
  show o.length + 1 ≤ _
  omega
 ·
  have e3:I.add (I.ofNat .i64 (a0I m.ms)) (I.of .i64 3) = i6 (m.ms.length + 3):=a3S (n:=m.ms.length) (m:=3) (by omega)
  refine Wp.brnT (by show I.nz (I.add (I.ofNat .i64 (a0I m.ms)) (I.of .i64 3)) = true; rw [e3]; exact nz6 _ (by omega) (by omega)) ⟨_,rfl,ho1⟩
end Sym

/- A run's next step; a run. -/
namespace Sym
open Go
def g6H (calm:Bool) (m:MS) (o:Option ((⟨[.pl a1M],a0F⟩:Tm).D)):Prop:=∃ s:b6Q,o = some ((s,()),m.h)∧StG calm m.ms.length s
theorem g3C (k:I .i64) (calm:Bool) (m:MS) (hs:Sz 100000000 m):g6H calm m (a9S K0 ((k,(calm,())),m.h)):=by
 refine Wp.out (T:=fun o=>g6H calm m o) ?_
 unfold a9S
 obtain ⟨x,hx,x0,_⟩:=g6U k (I.of .i64 4611686018427387904) (by decide)
 refine Wp.optF hx ?_
 have z:([]:List (I .u8)).length ≤ 1000:=Nat.zero_le _
 have z2:([]:List Hs).length ≤ m.ms.length + 1:=Nat.zero_le _
 have n6:∀ (k:I .i64),k.val ≠ 6→I.eqb k (I.of .i64 6) = true→False:=fun k h g=>h (iff_eqb.1 g)
 refine Wp.jn (fun w=>∃ (ad:I .u64) (n r:I .i64) (f:Bool) (y:b6Q),0 ≤ n.val∧w = ((calm,(ad,(n,(r,(f,()))))),(m.j,(lgH m.v,(m.ac,(m.ms,(esH m.bal,(m.rt,(m.cl,(m.ba,(y,()))))))))))) ?_ ?_
 ·
  rintro w ⟨ad,n,r,f,y,hn,rfl⟩
  refine Wp.brn (fun _=>?_) (fun _=>?_)
  ·
   obtain ⟨s,e,g⟩:=e7F n ad calm m.ms.length hn
   exact Wp.optF e ⟨s,rfl,g⟩
  refine Wp.jn (fun w=>∃ (ad:I .u64) (n r:I .i64) (f:Bool) (y:b6Q),0 ≤ n.val∧w = ((ad,(n,(r,(f,())))),(m.j,(lgH m.v,(m.ac,(m.ms,(esH m.bal,(m.rt,(m.cl,(m.ba,(y,()))))))))))) ?_ ?_
  ·
   rintro w ⟨ad,n,r,f,y,hn,rfl⟩
   refine Wp.brn (fun _=>?_) (fun _=>?_)
   ·
    obtain ⟨q,e⟩:=f2Y n m
    exact Wp.optF e ⟨_,rfl,z,z2,fun _ g=>(n6 (I.of .i64 2) (by decide) g).elim⟩
   refine Wp.brn (fun _=>Wp.brn (fun _=>⟨_,rfl,z,z2,fun _ g=>(n6 (I.of .i64 3) (by decide) g).elim⟩) (fun _=>⟨_,rfl,z,z2,fun _ g=>(n6 (I.of .i64 3) (by decide) g).elim⟩)) (fun _=>?_)
   refine Wp.brn (fun _=>?_) (fun _=>?_)
   ·
    obtain ⟨s,e,g⟩:=f7K n calm m.ms.length hn
    exact Wp.optF e ⟨s,rfl,g⟩
   refine Wp.brn (fun _=>Wp.brn (fun _=>⟨_,rfl,z,z2,fun _ g=>(n6 (I.of .i64 5) (by decide) g).elim⟩) (fun _=>⟨_,rfl,z,z2,fun _ g=>(n6 (I.of .i64 5) (by decide) g).elim⟩)) (fun _=>?_)
   refine Wp.jn (fun w=>∃ (ad:I .u64) (n:I .i64) (f:Bool) (y:b6Q),0 ≤ n.val∧w = ((ad,(n,(f,()))),(m.j,(lgH m.v,(m.ac,(m.ms,(esH m.bal,(m.rt,(m.cl,(m.ba,(y,()))))))))))) ?_ ?_
   ·
    rintro w ⟨ad,n,f,y,hn,rfl⟩
    refine Wp.brn (fun _=>?_) (fun _=>?_)
    ·
     obtain ⟨c,e,hc⟩:=f4P n m hn hs
     exact Wp.optF e ⟨_,rfl,z,hc,fun _ g=>(n6 (I.of .i64 7) (by decide) g).elim⟩
    ·
     obtain ⟨t,e,ht⟩:=d3Q n ad m hn hs
     exact Wp.optF e ⟨_,rfl,ht,z2,fun _ g=>(n6 (I.of .i64 1) (by decide) g).elim⟩
   ·
    intro j hj
    exact Wp.brn (fun _=>hj _ ⟨_,_,_,_,hn,rfl⟩) (fun _=>hj _ ⟨_,_,_,_,hn,rfl⟩)
  ·
   intro j hj
   exact Wp.brn (fun _=>hj _ ⟨_,_,_,_,_,hn,rfl⟩) (fun _=>hj _ ⟨_,_,_,_,_,hn,rfl⟩)
 ·
  intro j hj
  have hq:0 ≤ (I.quo x (I.of .i64 64)).val:=f1H x0 (by decide)
  exact Wp.brn (fun _=>hj _ ⟨_,_,_,_,_,hq,rfl⟩) (fun _=>hj _ ⟨_,_,_,_,_,hq,rfl⟩)
noncomputable def g9K:Prm:=(((I.of .u64 7000000),((I.of .u64 10),((I.of .u64 102),(((I.of .u64 100000000),((I.of .u64 0),((I.of .u64 0),((I.of .u64 0),())))),((I.of .u64 32000000),(((I.of .u64 60000000),((I.of .u64 0),((I.of .u64 0),((I.of .u64 0),())))),((I.of .u64 1000),(((I.of .u64 10),((I.of .u64 0),((I.of .u64 0),((I.of .u64 0),())))),((I.of .u64 160000000),((I.of .u64 10),((I.of .u64 16),((I.of .u64 65536),())))))))))))))
noncomputable def ms0:MS:=⟨I.of .u64 0,g9K,(I.of .u64 1,(I.of .u64 0,(I.of .u64 0,(((I.of .u64 100000000),((I.of .u64 0),((I.of .u64 0),((I.of .u64 0),())))),())))),I.of .u64 0,(((I.of .u64 1000000000),((I.of .u64 0),((I.of .u64 0),((I.of .u64 0),())))),((I.of .u64 0),((I.of .u64 0),((I.of .u64 0),(a2Q,([],())))))),c3E,[],[],Z_U,[],[],[]⟩
theorem g6M:b4C K0 ((),()) = some ((),ms0.h):=by
 rw [a6Y]; kernel_rfl
noncomputable abbrev zTx:Txn:=((I.of .u64 0),((I.of .u64 0),((I.of .u64 0),(Z_U,((I.of .u64 0),(Z_U,(Z_U,((I.of .u64 0),([],())))))))))
noncomputable abbrev g5L:Clm:=((I.of .u64 0),((I.of .u64 0),((I.of .u64 0),(Z_U,([],())))))
noncomputable def g5O (a:Nat):b6Q:=(I.of .i64 6,(zTx,(a0O,(I.of .u64 0,(I.of .i64 0,(((I.of .u64 288230376151711744),((I.of .u64 0),((I.of .u64 0),((I.of .u64 0),())))),(I.of .u64 (a:Int),(g5L,()))))))))
noncomputable def g7Z (a:Nat):b6Q:=(I.of .i64 5,(zTx,(a0O,(I.of .u64 0,(I.of .i64 0,(Z_U,(I.of .u64 (a:Int),(g5L,()))))))))
noncomputable def g4I:b6Q:=(I.of .i64 3,(zTx,(a0O,(I.of .u64 12,(I.of .i64 0,(Z_U,(I.of .u64 0,(g5L,()))))))))
noncomputable def setupL:List b6Q:=[g5O 1,g5O 2,g5O 3,g5O 4,g7Z 5,g7Z 6,g7Z 7,g4I]
theorem f4V:b1J K0 ((),()) = some ((),(setupL,())):=by
 rw [a6Y]; kernel_rfl
theorem d4S (calm:Bool) (n:Nat):∀ s ∈ setupL,StG calm n s:=by
 have z:([]:List (I .u8)).length ≤ 1000:=Nat.zero_le _
 have z2:([]:List Hs).length ≤ n + 1:=Nat.zero_le _
 have d:∀ a,StG calm n (g5O a):=fun a=>⟨z,z2,fun _ _=>by show U.val (_,_) < _; rw [g9U]; decide⟩
 have p:∀ a,StG calm n (g7Z a):=fun a=>⟨z,z2,fun _ g=>by have:(5:Int) = 6:=iff_eqb.1 g; omega⟩
 have t:StG calm n g4I:=⟨z,z2,fun _ g=>by have:(3:Int) = 6:=iff_eqb.1 g; omega⟩
 intro s hs
 simp only [setupL,List.mem_cons,List.not_mem_nil,or_false] at hs
 rcases hs with rfl | rfl | rfl | rfl | rfl | rfl | rfl | rfl
 ·
  exact d 1
 ·
  exact d 2
 ·
  exact d 3
 ·
  exact d 4
 ·
  exact p 5
 ·
  exact p 6
 ·
  exact p 7
 ·
  exact t
noncomputable def c6E (s:MS × List Rcp) (x:b6Q):MS × List Rcp:=((d0I s.1 x).2,s.2 ++ [(d0I s.1 x).1])
noncomputable def c6T (m:MS) (l:List b6Q):MS × List Rcp:=l.foldl c6E (m,[])
theorem c7M (m:MS) (l:List b6Q) (x:b6Q):c6T m (l ++ [x]) = c6E (c6T m l) x:=by
 unfold c6T
 rw [List.foldl_append]
 rfl
theorem c7G (m:MS) (l:List b6Q):(c6T m l).2.length = l.length:=by
 suffices h:∀ (l:List b6Q) (s:MS × List Rcp),(l.foldl c6E s).2.length = s.2.length + l.length by
  show (List.foldl c6E (m,[]) l).2.length = _
  rw [h l (m,[])]
  exact Nat.zero_add _
 intro l
 induction l with
 | nil=>intro s; rfl
 | cons x l ih =>
  intro s
  rw [List.foldl_cons,ih]
  show (s.2 ++ [_]).length + l.length = s.2.length + (l.length + 1)
  rw [List.length_append]
  simp
  omega
end Sym

/- A run of the reference. -/
namespace Sym
open Go
structure RunOk (calm:Bool) (k:Nat) (l:List b6Q) (p:MS × List Rcp):Prop where
 run:p = c6T ms0 l
 len:l.length = 8 + k
 sz:Sz (128 * (8 + k)) p.1
 good:∀ s ∈ l,StG calm (128 * (8 + k)) s
 msgs:∀ r ∈ p.2,(b4I r).length ≤ 64
theorem StG.mono {calm:Bool} {n k:Nat} {s:b6Q} (h:StG calm n s) (hk:n ≤ k):StG calm k s:=⟨h.data,by have:=h.prf; omega,h.dep⟩
theorem d5L (calm:Bool):∀ i,i ≤ 8→Sz (128 * i) (c6T ms0 (setupL.take i)).1∧∀ r ∈ (c6T ms0 (setupL.take i)).2,(b4I r).length ≤ 64
 | 0,_=>⟨⟨Nat.le_refl _,Nat.le_refl _,Nat.le_refl _,Nat.le_refl _,Nat.le_refl _,Nat.le_refl _⟩,fun r h=>by cases h⟩
 | i + 1,hi=>by
  obtain ⟨h1,h2⟩:=d5L calm i (by omega)
  have hl:i < setupL.length:=by show i < 8; omega
  rw [List.take_add_one,List.getElem?_eq_getElem hl]
  simp only [Option.toList]
  rw [c7M]
  obtain ⟨g1,g2⟩:=f3A h1 setupL[i]
  refine ⟨g1.mono (by omega),fun r hr=>?_⟩
  have hr:r ∈ (c6T ms0 (setupL.take i)).2 ++ [(d0I (c6T ms0 (setupL.take i)).1 setupL[i]).1]:=hr
  rcases List.mem_append.1 hr with h | h
  ·
   exact h2 r h
  ·
   rw [List.mem_singleton.1 h]; exact g2
theorem RunOk.snoc {calm:Bool} {k:Nat} {l:List b6Q} {p:MS × List Rcp} (h:RunOk calm k l p) {s:b6Q} (hs:StG calm p.1.ms.length s):RunOk calm (k + 1) (l ++ [s]) (c6E p s):=by
 obtain ⟨g1,g2⟩:=f3A h.sz s
 refine ⟨by rw [c7M,← h.run],by rw [List.length_append,h.len]; rfl,g1.mono (by omega),fun x hx=>?_,fun r hr=>?_⟩
 ·
  rcases List.mem_append.1 hx with h' | h'
  ·
   exact (h.good x h').mono (by omega)
  ·
   rw [List.mem_singleton.1 h']; exact hs.mono (by have:=h.sz.ms; omega)
 ·
  have hr:r ∈ p.2 ++ [(d0I p.1 s).1]:=hr
  rcases List.mem_append.1 hr with h' | h'
  ·
   exact h.msgs r h'
  ·
   rw [List.mem_singleton.1 h']; exact g2
noncomputable def h1N (a:List (I .i64)) (calm:Bool) (i:Nat) (l:List b6Q) (p:MS × List Rcp):(((List (I .i64)) × (Bool × ((I .i64) × Unit))) × (a0W × (a0M × ((List a0E) × ((List a0B) × (a0U × ((List a0G) × ((List (I .u64)) × ((List a0D) × ((List a1U) × ((List a1Z) × Unit))))))))))) :=
 ((a,(calm,(i6 i,()))),(p.1.j,(lgH p.1.v,(p.1.ac,(p.1.ms,(esH p.1.bal,(p.1.rt,(p.1.cl,(p.1.ba,(l,(p.2,())))))))))))
noncomputable def h1I (l:List b6Q) (p:MS × List Rcp):Unit × (a0W × (a0M × (a0U × ((List a0B) × ((List a0E) × ((List a0G) × ((List (I .u64)) × ((List a0D) × ((List a1U) × ((List a1Z) × Unit)))))))))) :=
 ((),(p.1.j,(lgH p.1.v,(esH p.1.bal,(p.1.ms,(p.1.ac,(p.1.rt,(p.1.cl,(p.1.ba,(l,(p.2,())))))))))))
theorem g4Z (a:List (I .i64)) (calm:Bool) (ha:a.length ≤ 1000):∃ (l:List b6Q) (p:MS × List Rcp),a7S K0 ((a,(calm,())),()) = some (h1I l p)∧RunOk calm a.length l p:=by
 refine Wp.out (T:=fun o=>∃ (l:List b6Q) (p:MS × List Rcp),o = some (h1I l p)∧RunOk calm a.length l p) ?_
 unfold a7S
 refine Wp.optF g6M (Wp.optF f4V ?_)
 refine Wp.iter (fun x=>∃ i,i ≤ 8∧x = h1N a calm i setupL (c6T ms0 (setupL.take i))) (fun x=>8 - x.1.2.2.1.val.toNat) ?_ ⟨0,by omega,rfl⟩ (by rw [a6Y]; show 8 - 0 < _; decide)
 rintro x ⟨i,hi,rfl⟩
 obtain ⟨hsz,hm⟩:=d5L calm i hi
 have hrl:=c7G ms0 (setupL.take i)
 have hnx:(h:i < 8)→c6T ms0 (setupL.take (i + 1)) = c6E (c6T ms0 (setupL.take i)) (rdL g4I setupL i):=by
  intro h
  have hl:i < setupL.length:=h
  rw [List.take_add_one,List.getElem?_eq_getElem hl,a4G _ _ _ hl]
  simp only [Option.toList]
  rw [c7M]
 have hfin:i = 8→c6T ms0 (setupL.take i) = c6T ms0 setupL:=by
  intro e
  rw [e]
  rfl
 generalize c6T ms0 (setupL.take i) = p at *
 have h8:setupL.length = 8:=rfl
 have e:I.ltb (i6 i) (I.ofNat .i64 (a0I setupL)) = decide (i < 8):=a2T (n:=i) (m:=8) (by omega) (by omega)
 have hn:I.add (i6 i) (I.of .i64 1) = i6 (i + 1):=a3S (m:=1) (by omega)
 refine Wp.brn (fun hc=>?_) (fun hc=>?_)
 ·
  have hc:I.ltb (i6 i) (I.ofNat .i64 (a0I setupL)) = true:=hc
  rw [e] at hc
  have hc:=of_decide_eq_true hc
  have hnx:=hnx hc
  refine Wp.brnT (by show inB (i6 i) setupL.length = true; exact a3T (by omega) (by omega)) ?_
  have hmem:rdL g4I setupL i ∈ setupL:=b7N _ _ _ (by omega)
  have hg:=d4S calm (128 * i) _ hmem
  have hex:=f8H p.1 (rdL g4I setupL i) (hsz.mono (by omega)) (by have:=hg.data; omega) (by have:=hg.prf; omega)
  have hrd:rdL ((I.of .i64 0),(zTx,(a0O,((I.of .u64 0),((I.of .i64 0),(Z_U,((I.of .u64 0),(g5L,())))))))) setupL (I.nat (i6 i)) = rdL g4I setupL i:=by
   rw [a3G (by omega),a4G _ _ _ (by omega),a4G _ _ _ (by omega)]
  rw [← hrd] at hex
  refine Wp.optF hex ?_
  refine Wp.brnT (b9Z _ _ (by show p.2.length + 1 ≤ _; rw [hrl,List.length_take]; omega)) ?_
  refine Wp.again ⟨i + 1,by omega,?_⟩ ?_
  ·
   rw [hnx]
   show ((a,(calm,(I.add (i6 i) (I.of .i64 1),()))),_) = _
   rw [hn,← hrd]
   rfl
  ·
   show 8 - (I.add (i6 i) (I.of .i64 1)).val.toNat < 8 - (i6 i).val.toNat
   rw [hn,a0V (by omega),a0V (by omega)]; omega
 ·
  have hc:I.ltb (i6 i) (I.ofNat .i64 (a0I setupL)) = false:=hc
  rw [e] at hc
  have hc:i = 8:=by have:=of_decide_eq_false hc; omega
  subst hc
  have hfin:=hfin rfl
  have h0:RunOk calm 0 setupL p:=⟨hfin,rfl,hsz.mono (by omega),d4S calm _,hm⟩
  clear hnx hfin hsz hm hrl
  refine Wp.done ?_
  refine Wp.iter (fun x=>∃ (i:Nat) (l:List b6Q) (p:MS × List Rcp),i ≤ a.length∧x = h1N a calm i l p∧RunOk calm i l p) (fun x=>a.length - x.1.2.2.1.val.toNat) ?_ ⟨0,setupL,p,by omega,rfl,h0⟩ (by rw [a6Y]; show a.length - 0 < _; omega)
  rintro x ⟨i,l,q,hi,rfl,hR⟩
  have e:I.ltb (i6 i) (I.ofNat .i64 (a0I a)) = decide (i < a.length):=a2T (n:=i) (by omega) (by show a.length < _; omega)
  have hn:I.add (i6 i) (I.of .i64 1) = i6 (i + 1):=a3S (m:=1) (by omega)
  have hql:q.2.length = 8 + i:=by rw [hR.run,c7G,hR.len]
  refine Wp.brn (fun hc=>?_) (fun hc=>?_)
  ·
   have hc:I.ltb (i6 i) (I.ofNat .i64 (a0I a)) = true:=hc
   rw [e] at hc
   have hc:=of_decide_eq_true hc
   refine Wp.brnT (by show inB (i6 i) a.length = true; exact a3T (by omega) (by omega)) ?_
   have hsz:=hR.sz.mono (show 128 * (8 + i) ≤ 100000000 by omega)
   obtain ⟨s,hs,hg⟩:=g3C (rdL (I.of .i64 0) a (I.nat (i6 i))) calm q.1 hsz
   refine Wp.optF hs (Wp.brnT (b9Z _ _ (by show l.length + 1 ≤ _; rw [hR.len]; omega)) ?_)
   refine Wp.optF (f8H q.1 s hsz (by have:=hg.data; omega) (by have:=hg.prf; have:=hsz.ms; omega)) ?_
   refine Wp.brnT (b9Z _ _ (by show q.2.length + 1 ≤ _; omega)) ?_
   refine Wp.again ⟨i + 1,l ++ [s],c6E q s,by omega,?_,hR.snoc hg⟩ ?_
   ·
    show ((a,(calm,(I.add (i6 i) (I.of .i64 1),()))),_) = _
    rw [hn]
    rfl
   ·
    show a.length - (I.add (i6 i) (I.of .i64 1)).val.toNat < a.length - (i6 i).val.toNat
    rw [hn,a0V (by omega),a0V (by omega)]; omega
  ·
   have hc:I.ltb (i6 i) (I.ofNat .i64 (a0I a)) = false:=hc
   rw [e] at hc
   have hc:i = a.length:=by have:=of_decide_eq_false hc; omega
   subst hc
   exact Wp.done ⟨l,q,rfl,hR⟩
end Sym
