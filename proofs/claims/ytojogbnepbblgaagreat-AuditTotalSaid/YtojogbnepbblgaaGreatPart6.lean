/- Payments: sums, both programs' plans. -/
import Derived.Test.YtojogbnepbblgaaGreatPart5
import Derived.Test.YtojogbnepbblgaaGreatPart3
import Derived.Test.YtojogbnepbblgaaGreatPart4
namespace Sym
open Go
abbrev Pay:Type:=a0D
noncomputable abbrev dY:Pay:=a2B
def b2A (l:List Nat):Nat:=l.foldr (· + ·) 0
theorem e4R (l m:List Nat):b2A (l ++ m) = b2A l + b2A m:=by
 induction l with
 | nil=>simp [b2A]
 | cons x l ih=>simp only [b2A,List.cons_append,List.foldr_cons] at *; omega
theorem d8Q {X:Type} (d:X) (f:X→Nat) {l:List X} {i:Nat} (h:i < l.length):b2A ((l.take (i + 1)).map f) = b2A ((l.take i).map f) + f (rdL d l i):=by
 rw [List.take_succ_eq_append_getElem h,List.map_append,e4R,← a4P d l i h]
 simp [b2A]
theorem f8F {X:Type} (f:X→Nat) (l:List X) (i:Nat):b2A ((l.take i).map f) ≤ b2A (l.map f):=by
 have:b2A (l.map f) = b2A ((l.take i).map f) + b2A ((l.drop i).map f):=by
  rw [← e4R,← List.map_append,List.take_append_drop]
 omega
theorem c7Z {X:Type} (f:X→Nat) (B:Nat) (hB:∀ x,f x < B):∀ l:List X,b2A (l.map f) ≤ l.length * B
 | []=>by simp [b2A]
 | x :: l=>by
  have:=c7Z f B hB l
  have:=hB x
  simp only [b2A,List.map_cons,List.foldr_cons,List.length_cons,Nat.succ_mul] at *
  omega
def amt (q:Pay):Nat:=U.val q.2.1
theorem g2O (q:Pay):amt q < U.top:=U.lt _
theorem e8F {l:List Pay} (hl:l.length ≤ 1073741824):b0Y K0 ((l,()),()) = some (((c5E (b2A (l.map amt))).1,((c5E (b2A (l.map amt))).2,())),()):=by
 refine Wp.out (T:=fun o=>o = _) ?_
 unfold b0Y
 simp only [b1E,a8S,c0B,b4I]
 have hb:∀ i,b2A ((l.take i).map amt) < 65536 ^ 19:=fun i=>by
  have h1:=f8F amt l i
  have h2:=c7Z amt U.top g2O l
  have h3:l.length * U.top ≤ 1073741824 * U.top:=Nat.mul_le_mul_right _ hl
  have h4:1073741824 * U.top < 65536 ^ 19:=by decide
  omega
 refine Wp.iter (fun s=>∃ i r,s = ((l,(r,(i6 i,()))),(Z_U,()))∧i ≤ l.length∧IsB r (b2A ((l.take i).map amt))) (fun s=>l.length - s.1.2.2.1.val.toNat) ?_ ⟨0,[],rfl,by omega,d0Q⟩ ?_
 ·
  rintro s ⟨i,r,rfl,hi,hr⟩
  simp only [a2U (show i < 9223372036854775808 by omega) (show l.length < 9223372036854775808 by omega),a3A (show i < 9223372036854775808 by omega),a3S (show i + 1 < 9223372036854775808 by omega)]
  refine Wp.brn (fun hc=>?_) (fun hc=>?_)
  ·
   have hc:=of_decide_eq_true hc
   refine Wp.brnT (a3F (by omega) (by omega)) ?_
   refine Wp.call (b2F _) ?_
   rintro _ ⟨x,rfl,hx⟩
   obtain ⟨z,g,k⟩:=b1W hr hx (a9G hr 19 (hb i) (by decide)) (c0K hx)
   refine Wp.optF g ?_
   refine Wp.again ⟨i + 1,z,rfl,by omega,?_⟩ (by show l.length - (i6 (i + 1)).val.toNat < l.length - (i6 i).val.toNat; rw [a0W (by omega),a0W (by omega)]; omega)
   rw [d8Q dY amt hc]
   exact k
  ·
   have hc:=of_decide_eq_false hc
   have hbl:=hb l.length
   rw [List.take_of_length_le (by omega)] at hr hbl
   refine Wp.done (Wp.optF (Checked_ok' hr (a9G hr 19 hbl (by decide))) ?_)
   rfl
 ·
  rw [a7L]
  show l.length - _ < _
  omega
def b7I (p:Post):Nat:=U.val p.due
noncomputable def b2N:List Post→Nat→List Pay
 | [],_=>[]
 | p :: r,n=>if n = 0 then [] else (p.addr,(U.of (min (b7I p) n),())) :: b2N r (n - min (b7I p) n)
theorem c7I (l:List Post):b2N l 0 = []:=by cases l <;> simp [b2N]
theorem d9A:∀ (l:List Post) (n:Nat),(b2N l n).length ≤ l.length
 | [],n=>Nat.le_refl _
 | p :: r,n=>by
  have:=d9A r (n - min (b7I p) n)
  simp only [b2N]
  split <;> simp <;> omega
noncomputable def f5J (l:List Post) (pool:U):List Pay × I .i64 :=
 if c5F l = true then (b2N ((d2H l).map (·.1)) pool.val,I.of .i64 0) else ([],I.of .i64 2)
theorem g9J {a:U}:a4O (Ty.eqb (.arr 4 (.int .u64)) a Z_U) = decide (a.val ≠ 0):=by
 rw [f6O]
 by_cases h:a.val = 0 <;> simp [h,a4O]
theorem e1G {a b:List Dg} {m n:Nat} (ha:IsB a m) (hb:IsB b n) (hal:a.length ≤ 1000000) (hbl:b.length ≤ 1000000):∃ y,a4G K0 ((a,(b,())),()) = some y∧∃ r,y = ((r,()),())∧IsB r (min m n):=by
 refine Wp.out (T:=fun o=>∃ y,o = some y∧∃ r,y = ((r,()),())∧IsB r (min m n)) ?_
 unfold a4G
 refine Wp.optF (c4D ha hb hal hbl) ?_
 have hc:I.ltb (I.of .i64 0) (c2P m n) = decide (n < m):=by
  unfold c2P
  by_cases h:m < n
  ·
   rw [if_pos h,decide_eq_false (by omega)]; rfl
  ·
   rw [if_neg h]
   by_cases h2:n < m
   ·
    rw [if_pos h2,decide_eq_true h2]; rfl
   ·
    rw [if_neg h2,decide_eq_false h2]; rfl
 refine Wp.brn (fun h=>?_) (fun h=>?_)
 ·
  have h:=of_decide_eq_true (hc.symm.trans h)
  exact ⟨_,rfl,b,rfl,by rw [Nat.min_eq_right (by omega)]; exact hb⟩
 ·
  have h:=of_decide_eq_false (hc.symm.trans h)
  exact ⟨_,rfl,a,rfl,by rw [Nat.min_eq_left (by omega)]; exact ha⟩
theorem f5S (l:List Post) (pool:U) (hl:l.length ≤ 1073741824):b2Q K0 ((l,(pool,())),()) = some (((f5J l pool).1,((f5J l pool).2,())),()):=by
 refine Wp.out (T:=fun o=>o = _) ?_
 unfold b2Q f5J
 refine Wp.optF (c1F hl) ?_
 refine Wp.brn (fun h=>?_) (fun h=>?_)
 ·
  have h:c5F l = false:=by have:a4O (c5F l) = true:=h; revert this; cases c5F l <;> simp [a4O]
  rw [if_neg (by rw [h]; simp)]
  rfl
 ·
  have h:c5F l = true:=by have:a4O (c5F l) = false:=h; revert this; cases c5F l <;> simp [a4O]
  rw [if_pos h]
  refine Wp.optF (e8P hl) ?_
  have hs:=d9G l
  obtain ⟨o,ho⟩:∃ o,o = (d2H l).map (·.1):=⟨_,rfl⟩
  have hol:o.length ≤ 1073741824:=by rw [ho,List.length_map]; omega
  rw [← ho]
  refine Wp.call (b2F pool) ?_
  rintro _ ⟨left0,rfl,hleft0⟩
  simp only [b1E,a8S,c0B,b4I]
  refine Wp.iter (fun s=>∃ i left n out,s = ((o,(left,(i6 i,()))),(out,()))∧i ≤ o.length∧IsB left n∧n < U.top∧out ++ b2N (o.drop i) n = b2N o pool.val∧out.length ≤ i) (fun s=>o.length - s.1.2.2.1.val.toNat) ?_ ⟨0,left0,pool.val,[],rfl,by omega,hleft0,pool.lt,rfl,by simp⟩ ?_
  ·
   rintro s ⟨i,left,n,out,rfl,hi,hleft,hn,hout,houtl⟩
   have hll:left.length ≤ 1000000:=a9G hleft 16 (by rw [← e9R]; exact hn) (by decide)
   simp only [a2U (show i < 9223372036854775808 by omega) (show o.length < 9223372036854775808 by omega),a2U (show 0 < 9223372036854775808 by omega) (show left.length < 9223372036854775808 by omega)]
   refine Wp.jn (fun s=>∃ z b,i < o.length∧n ≠ 0∧s = ((o,(left,(i6 i,(left,(z,(b,())))))),(out,()))) ?_ ?_
   ·
    rintro s ⟨z,b,hc,hn0,rfl⟩
    simp only [a3A (show i < 9223372036854775808 by omega),a3S (show i + 1 < 9223372036854775808 by omega)]
    have bi:inB (i6 i) o.length = true:=a3F (by omega) (by omega)
    refine Wp.brnT bi ?_
    refine Wp.call (b2F _) ?_
    rintro _ ⟨du,rfl,hdu⟩
    refine Wp.call (e1G hleft hdu hll (c0K hdu)) ?_
    rintro _ ⟨mn,rfl,hmn⟩
    have hmin:min n (U.val (Post.due (rdL dP o i))) ≤ n:=Nat.min_le_left _ _
    refine Wp.brnT bi ?_
    refine Wp.optF (a2X hmn (by show min n _ < _; omega)) ?_
    refine Wp.brnT (b4G (by show (out ++ [_]).length ≤ _; simp; omega)) ?_
    obtain ⟨z',g,k⟩:=c5Z hleft hmn hmin hll
    refine Wp.optF g ?_
    refine Wp.again ⟨i + 1,z',n - min n (b7I (rdL dP o i)),_,rfl,by omega,k,by omega,?_,by show (out ++ [_]).length ≤ _; simp; omega⟩ (by show o.length - (i6 (i + 1)).val.toNat < o.length - (i6 i).val.toNat; rw [a0W (by omega),a0W (by omega)]; omega)
    rw [← hout,List.drop_eq_getElem_cons hc,← a4P dP o i hc]
    simp only [b2N,if_neg hn0,g0D,List.append_assoc,List.singleton_append]
    rw [Nat.min_comm (b7I (rdL dP o i)) n]
    rfl
   ·
    intro j hj
    refine Wp.brn (fun hc=>?_) (fun hc=>?_)
    ·
     have hc:=of_decide_eq_true hc
     refine Wp.brn (fun hz=>?_) (fun hz=>?_)
     ·
      have hz:=of_decide_eq_true hz
      refine hj _ ⟨_,_,hc,?_,rfl⟩
      intro e
      subst e
      have:=(hleft.len (k:=0)).2 (by decide)
      omega
     ·
      have hz:=of_decide_eq_false hz
      have:n = 0:=by
       have:=(hleft.len (k:=0)).1 (by omega)
       simpa using this
      subst this
      rw [c7I,List.append_nil] at hout
      refine Wp.done ?_
      rw [← hout]
      rfl
    ·
     have hc:=of_decide_eq_false hc
     rw [List.drop_eq_nil_iff.2 (by omega)] at hout
     refine Wp.done ?_
     rw [← hout]
     simp [b2N]
     rfl
  ·
   rw [a7L]
   show o.length - _ < _
   omega
end Sym

/- Tables of posters: what is generated is well formed. -/
namespace Sym
open Go
theorem TableOk.lt {l:List Post} (h:TableOk l):∀ j,j < l.length→∀ i,i < j→(Post.addr (rdL dP l i)).val < (Post.addr (rdL dP l j)).val:=by
 intro j
 induction j with
 | zero=>intro _ i hi; omega
 | succ j ih =>
  intro hj i hi
  have h1:=(h.2 (j + 1) hj).2 (by omega)
  rw [Nat.add_sub_cancel] at h1
  rcases (by omega:i < j ∨ i = j) with h2 | rfl
  ·
   have:=ih (by omega) i h2
   omega
  ·
   exact h1
theorem table_iff {l:List Post}:TableOk l ↔ l.length ≤ 64∧(∀ p ∈ l,b5R p)∧l.Pairwise fun p q=>(Post.addr p).val < (Post.addr q).val:=by
 constructor
 ·
  intro h
  refine ⟨h.1,fun p hp=>?_,List.pairwise_iff_getElem.2 fun i j hi hj hij=>?_⟩
  ·
   obtain ⟨k,hk,rfl⟩:=c2F dP hp
   exact (h.2 k hk).1
  ·
   rw [← a4P dP l i hi,← a4P dP l j hj]
   exact h.lt j hj i hij
 ·
  rintro ⟨h1,h2,h3⟩
  refine ⟨h1,fun i hi=>⟨h2 _ (b8U dP l i hi),fun h0=>?_⟩⟩
  have:=List.pairwise_iff_getElem.1 h3 (i - 1) i (by omega) hi (by omega)
  rw [a4P dP l i hi,a4P dP l (i - 1) (by omega)]
  exact this
theorem f7G {l:List Post} (h:TableOk l) {k:Nat} (hk:k < l.length) {v:Post} (hv:b5R v) (ha:Post.addr v = Post.addr (rdL dP l k)):TableOk (setAt l k v):=by
 have hlen:(setAt l k v).length = l.length:=by rw [a7G,List.length_set]
 have haddr:∀ i,Post.addr (rdL dP (setAt l k v) i) = Post.addr (rdL dP l i):=by
  intro i
  rw [c2K]
  split
  ·
   rename_i e
   rw [ha,e.1]
  ·
   rfl
 refine ⟨by rw [hlen]; exact h.1,fun i hi=>?_⟩
 rw [hlen] at hi
 rw [haddr,haddr]
 refine ⟨?_,(h.2 i hi).2⟩
 rw [c2K]
 split
 ·
  exact hv
 ·
  exact (h.2 i hi).1
theorem e5R {p:Post} {n:U} (h:b5R p) (h1:n.val ≤ (Post.due p).val) (h2:(Post.paid p).val + n.val < U.top):b5R (settled p n):=by
 obtain ⟨ha,hb,hc⟩:=h
 have hd:=U.lt (Post.due p)
 refine ⟨ha,?_,?_⟩
 ·
  show (U.of ((Post.due p).val - n.val)).val + (U.of ((Post.paid p).val + n.val)).val = _
  rw [U.val_of (by omega),U.val_of h2]
  show _ = (Post.costs p).val + (Post.rewards p).val
  omega
 ·
  show (if (Post.due p).val - n.val = 0 then I.of .u64 0 else Post.since p).val = 0 ↔ (U.of ((Post.due p).val - n.val)).val = 0
  rw [U.val_of (by omega)]
  split
  ·
   rename_i e
   rw [e]
   exact ⟨fun _=>rfl,fun _=>rfl⟩
  ·
   rename_i e
   rw [hc]
   omega
theorem e9P {l:List Post} (h:TableOk l):a4O (c5F l) = false:=by rw [tabB_t.2 h]; rfl
theorem f2I {l:List Post} {a:I .u64} (h:¬ atN l a < l.length):∀ k,k < l.length→(Post.addr (rdL dP l k)).val ≠ a.val:=by
 intro k hk e
 have h1:atN l a ≤ l.length:=List.findIdx_le_length
 have h2:atN l a = l.length:=by omega
 unfold atN at h2
 rw [List.findIdx_eq_length] at h2
 have:=h2 _ (b8U dP l k hk)
 exact absurd (iff_eqb.2 e) (by rw [this]; simp)
end Sym

/- Tables of posters: what is generated is well formed: Accrue, the calls. -/
namespace Sym
open Go
theorem e5X {p:Post} (h:b5R p) (c w:U) (s:I .u64) (hs:s.val ≠ 0) (h1:(Post.due p).val + (c.val + w.val) < U.top) (h2:(Post.costs p).val + c.val < U.top) (h3:(Post.rewards p).val + w.val < U.top) (s':I .u64)
  (hs':(s' = s∧(Post.due p).val = 0∧0 < (Post.due p).val + (c.val + w.val)) ∨ (s' = Post.since p∧¬ ((Post.due p).val = 0∧0 < (Post.due p).val + (c.val + w.val)))) :
  b5R (p.1,(U.of ((Post.due p).val + (c.val + w.val)),(U.of ((Post.costs p).val + c.val),(U.of ((Post.rewards p).val + w.val),(p.2.2.2.2.1,(s',())))))):=by
 obtain ⟨ha,hb,hc⟩:=h
 refine ⟨ha,?_,?_⟩
 ·
  show (U.of _).val + (Post.paid p).val = (U.of _).val + (U.of _).val
  rw [U.val_of h1,U.val_of h2,U.val_of h3]
  omega
 ·
  show s'.val = 0 ↔ (U.of _).val = 0
  rw [U.val_of h1]
  rcases hs' with ⟨rfl,e1,e2⟩ | ⟨rfl,e⟩
  ·
   constructor
   ·
    intro e; exact absurd e hs
   ·
    intro e; omega
  ·
   rw [hc]
   omega
theorem d3D {l:List Dg} {n:Nat} (hl:IsB l n) (hlen:l.length ≤ 1000000):a1K K0 ((l,()),()) = some ((decide (n < U.top),()),()):=c2I hl (by omega)
theorem f1P {l:List Dg} {n:Nat} (h:IsB l n):0 < l.length ↔ 0 < n:=by
 have:=h.len (k:=0)
 simp only [Nat.pow_zero] at this
 omega
theorem f9A {l:List Dg} {n:Nat} (h:IsB l n) (hl:l.length ≤ 1000000):I.ltb (I.of .i64 0) (I.ofNat .i64 (a0K l)) = decide (0 < n):=by
 rw [c0B,a8S,b1E,a2U (by omega) (by omega)]
 by_cases hx:0 < n
 ·
  rw [decide_eq_true hx,decide_eq_true ((f1P h).2 hx)]
 ·
  rw [decide_eq_false hx,decide_eq_false (fun h'=>hx ((f1P h).1 h'))]
end Sym

/- Payments: Apply, the laws that compare with the reference. -/
namespace Sym
open Go
noncomputable def a3B:List Post→List Pay→List Post × I .i64
 | out,[]=>(out,I.of .i64 0)
 | out,q :: r=>if (b5Y out q.1 q.2.1).2.val = 0 then a3B (b5Y out q.1 q.2.1).1 r else ([],(b5Y out q.1 q.2.1).2)
theorem e6G {l:List Post} {a:I .u64} {n:U} (h:(b5Y l a n).2.val = 0):(b5Y l a n).1.length = l.length:=by
 unfold b5Y at h ⊢
 split at h
 ·
  split at h
  ·
   split at h
   ·
    split at h
    ·
     rename_i h1 h2 h3 h4
     rw [if_pos h1,if_pos h2,if_pos h3,if_pos h4]
     show (setAt l _ _).length = _
     rw [a7G,List.length_set]
    ·
     exact absurd h (by decide)
   ·
    exact absurd h (by decide)
  ·
   exact absurd h (by decide)
 ·
  exact absurd h (by decide)
theorem e8L (l:List Post) (p:List Pay) (hl:l.length ≤ 1073741824) (hp:p.length ≤ 1073741824):b1X K0 ((l,(p,())),()) = some (((a3B l p).1,((a3B l p).2,())),()):=by
 refine Wp.out (T:=fun o=>o = _) ?_
 unfold b1X
 refine Wp.brnT (b4G (by show l.length ≤ _; exact hl)) ?_
 simp only [b1E,a8S,c0B,b4I]
 refine Wp.iter (fun s=>∃ i out,s = ((p,(out,(i6 i,()))),())∧i ≤ p.length∧out.length ≤ 1073741824∧a3B out (p.drop i) = a3B l p) (fun s=>p.length - s.1.2.2.1.val.toNat) ?_ ⟨0,l,rfl,by omega,hl,rfl⟩ ?_
 ·
  rintro s ⟨i,out,rfl,hi,ho,he⟩
  simp only [a2U (show i < 9223372036854775808 by omega) (show p.length < 9223372036854775808 by omega),a3A (show i < 9223372036854775808 by omega),a3S (show i + 1 < 9223372036854775808 by omega)]
  refine Wp.brn (fun hc=>?_) (fun hc=>?_)
  ·
   have hc:=of_decide_eq_true hc
   have bi:inB (i6 i) p.length = true:=a3F (by omega) (by omega)
   refine Wp.brnT bi (Wp.brnT bi ?_)
   rw [List.drop_eq_getElem_cons hc,← a4P dY p i hc] at he
   simp only [a3B] at he
   refine Wp.optF (e5B out _ _ ho) ?_
   refine Wp.brn (fun h=>?_) (fun h=>?_)
   ·
    have h:=iff_neb.1 h
    have h:¬ (b5Y out (rdL dY p i).1 (rdL dY p i).2.1).2.val = 0:=h
    rw [if_neg h] at he
    rw [← he]
    exact Wp.done rfl
   ·
    have h:=niff_neb.1 h
    have h:(b5Y out (rdL dY p i).1 (rdL dY p i).2.1).2.val = 0:=h
    rw [if_pos h] at he
    exact Wp.again ⟨i + 1,_,rfl,by omega,by rw [e6G h]; exact ho,he⟩ (by show p.length - (i6 (i + 1)).val.toNat < p.length - (i6 i).val.toNat; rw [a0W (by omega),a0W (by omega)]; omega)
  ·
   have hc:=of_decide_eq_false hc
   rw [List.drop_eq_nil_iff.2 (by omega)] at he
   refine Wp.done ?_
   rw [← he]
   rfl
 ·
  rw [a7L]
  show p.length - _ < _
  omega
theorem e1S {n:Nat} {X:Type} {l:List X} (h:l.length ≤ LIM) (hn:n < 1000000) (hc:I.ltb (I.of .i64 (n:Int)) (I.ofNat .i64 (a0K l)) = false):l.length ≤ n:=by
 have h:l.length ≤ 140737488355328:=h
 rw [g7Z,a8S,b1E,a2U (by omega) (by omega)] at hc
 have:=of_decide_eq_false hc
 omega
end Sym

/- Payments: the law of sums and of Apply. -/
namespace Sym
open Go
end Sym

/- Payments: what a plan pays, and what the table is behind it. -/
namespace Sym
open Go
theorem f1D {l m:List Nat} (h:l.Perm m):b2A l = b2A m:=by
 induction h with
 | nil=>rfl
 | cons x _ ih=>simp only [b2A,List.foldr_cons] at *; omega
 | swap x y l=>simp only [b2A,List.foldr_cons]; omega
 | trans _ _ ih1 ih2=>exact ih1.trans ih2
theorem ow_iff {p:Post}:ow p = true ↔ b7I p ≠ 0:=by
 unfold ow
 rw [g9J]
 simp [b7I]
theorem e6L (l:List Post):b2A ((l.filter ow).map b7I) = b2A (l.map b7I):=by
 induction l with
 | nil=>rfl
 | cons p l ih =>
  rw [List.filter_cons]
  split
  ·
   simp only [b2A,List.map_cons,List.foldr_cons] at *; omega
  ·
   rename_i h
   have:b7I p = 0:=by
    have:=mt ow_iff.2 h
    omega
   simp only [b2A,List.map_cons,List.foldr_cons] at *; omega
noncomputable abbrev ord (x:List Post):List Post:=(d2H x).map (·.1)
theorem g0S (x:List Post):b2A ((ord x).map b7I) = b2A (x.map b7I):=by
 rw [← e6L x]
 exact f1D ((c3V x).map b7I)
theorem f9K {x:List Post} {p:Post} (h:p ∈ ord x):p ∈ x∧ow p = true:=List.mem_filter.1 ((c3V x).mem_iff.1 h)
theorem e9K {x:List Post} (hx:TableOk x):(ord x).Pairwise fun p q=>Post.addr p ≠ Post.addr q:=by
 have h:=(table_iff.1 hx).2.2
 have h2:(x.filter ow).Pairwise fun p q=>Post.addr p ≠ Post.addr q:=(h.filter ow).imp fun {p q} hlt e=>by rw [e] at hlt; omega
 exact (List.Perm.pairwise_iff (fun {p q} h e=>h e.symm) (c3V x)).2 h2
theorem e3X:∀ (o:List Post) (n:Nat),n < U.top→b2A ((b2N o n).map amt) = min n (b2A (o.map b7I))
 | [],n,_=>by simp [b2N,b2A]
 | p :: r,n,hn=>by
  simp only [b2N]
  split
  ·
   rename_i h
   subst h
   simp [b2A]
  ·
   have ih:=e3X r (n - min (b7I p) n) (by omega)
   have hv:(U.of (min (b7I p) n)).val = min (b7I p) n:=U.val_of (by omega)
   have:amt (p.addr,(U.of (min (b7I p) n),())) = min (b7I p) n:=hv
   simp only [b2A,List.map_cons,List.foldr_cons,this] at *
   omega
theorem e7X:∀ (l:List Post) (k:Nat) (v:Post),k < l.length→b2A ((setAt l k v).map b7I) + b7I (rdL dP l k) = b2A (l.map b7I) + b7I v
 | [],k,v,h=>by simp at h
 | p :: l,0,v,_=>by simp only [setAt,rdL,b2A,List.map_cons,List.foldr_cons]; omega
 | p :: l,k + 1,v,h=>by
  have:=e7X l k v (by simpa using h)
  simp only [setAt,rdL,b2A,List.map_cons,List.foldr_cons] at *
  omega
theorem f2V {out:List Post} (h:TableOk out) {p:Post} (hp:p ∈ out):atN out p.addr < out.length∧rdL dP out (atN out p.addr) = p:=by
 obtain ⟨k,hk,rfl⟩:=c2F dP hp
 have e:atN out (Post.addr (rdL dP out k)) = k:=f6P hk (iff_eqb.2 rfl) (fun j hj=>niff_eqb.2 (by have:=h.lt k hk j hj; omega))
 rw [e]
 exact ⟨hk,rfl⟩
theorem f0Y {out:List Post} (h:TableOk out) {i j:Nat} (hi:i < out.length) (hj:j < out.length) (e:Post.addr (rdL dP out i) = Post.addr (rdL dP out j)):i = j:=by
 rcases Nat.lt_trichotomy i j with h1 | h1 | h1
 ·
  have:=h.lt j hj i h1; rw [e] at this; omega
 ·
  exact h1
 ·
  have:=h.lt i hi j h1; rw [e] at this; omega
theorem d4B:∀ (o:List Post) (n:Nat) (out:List Post),n < U.top→TableOk out→(∀ p ∈ o,p ∈ out∧ow p = true)→(o.Pairwise fun p q=>Post.addr p ≠ Post.addr q) →
  (a3B out (b2N o n)).2 = I.of .i64 4 ∨ ((a3B out (b2N o n)).2 = I.of .i64 0∧TableOk (a3B out (b2N o n)).1∧(a3B out (b2N o n)).1.length = out.length ∧
   (∀ i,Post.addr (rdL dP (a3B out (b2N o n)).1 i) = Post.addr (rdL dP out i)) ∧
   b2A ((a3B out (b2N o n)).1.map b7I) + b2A ((b2N o n).map amt) = b2A (out.map b7I) ∧
   (∀ i,(∀ p ∈ o,Post.addr p ≠ Post.addr (rdL dP out i))→rdL dP (a3B out (b2N o n)).1 i = rdL dP out i) ∧
   (∀ t,t + 1 < (b2N o n).length→∀ i,i < out.length→Post.addr (rdL dP out i) = Post.addr (rdL dP o t)→b7I (rdL dP (a3B out (b2N o n)).1 i) = 0))
 | [],n,out,_,ht,_,_=>.inr ⟨rfl,ht,rfl,fun _=>rfl,by simp [b2N,a3B,b2A],fun _ _=>rfl,fun t h=>by simp [b2N] at h⟩
 | p :: r,n,out,hn,ht,hin,hap=>by
  by_cases h0:n = 0
  ·
   subst h0
   rw [c7I]
   exact .inr ⟨rfl,ht,rfl,fun _=>rfl,by simp [a3B,b2A],fun _ _=>rfl,fun t h=>by simp at h⟩
  ·
   have hpl:b2N (p :: r) n = (p.addr,(U.of (min (b7I p) n),())) :: b2N r (n - min (b7I p) n):=if_neg h0
   rw [hpl]
   simp only [a3B]
   have ⟨hk,hkp⟩:=f2V ht (hin p (by simp)).1
   obtain ⟨m,hm⟩:∃ m,m = min (b7I p) n:=⟨_,rfl⟩
   rw [← hm]
   have hmv:(U.of m).val = m:=U.val_of (by omega)
   have hmd:m ≤ b7I p:=by omega
   have hst:b5Y out p.addr (U.of m) = if (Post.paid p).val + m < U.top then (setAt out (atN out p.addr) (settled p (U.of m)),I.of .i64 0) else ([],I.of .i64 4):=by
    unfold b5Y
    rw [if_pos (tabB_t.2 ht),if_pos hk,hkp,hmv,if_pos (show m ≤ (Post.due p).val from hmd)]
   rw [hst]
   by_cases hpd:(Post.paid p).val + m < U.top
   ·
    rw [if_pos hpd]
    simp only [show (I.of .i64 0).val = 0 from rfl,if_true]
    obtain ⟨k,hkk⟩:∃ k,k = atN out p.addr:=⟨_,rfl⟩
    rw [← hkk] at hk hkp ⊢
    have hT:TableOk (setAt out k (settled p (U.of m))):=f7G ht hk (e5R ((table_iff.1 ht).2.1 p (hin p (by simp)).1) (by rw [hmv]; exact hmd) (by rw [hmv]; exact hpd)) (by rw [hkp]; rfl)
    have ⟨hap1,hap2⟩:=List.pairwise_cons.1 hap
    have hlen:(setAt out k (settled p (U.of m))).length = out.length:=by rw [a7G,List.length_set]
    have haddr:∀ i,Post.addr (rdL dP (setAt out k (settled p (U.of m))) i) = Post.addr (rdL dP out i):=by
     intro i
     rw [c2K]
     split
     ·
      rename_i e
      rw [e.1,hkp]
      rfl
     ·
      rfl
    have hin':∀ q ∈ r,q ∈ setAt out k (settled p (U.of m))∧ow q = true:=by
     intro q hq
     have ⟨h1,h2⟩:=hin q (List.mem_cons_of_mem _ hq)
     refine ⟨?_,h2⟩
     obtain ⟨i,hi,e⟩:=c2F dP h1
     have hik:i ≠ k:=by
      rintro rfl
      rw [hkp] at e
      exact hap1 q hq (by rw [e])
     have:rdL dP (setAt out k (settled p (U.of m))) i = q:=by rw [c2K,if_neg (by omega),e]
     rw [← this]
     exact b8U dP _ i (by rw [hlen]; exact hi)
    have hsum:=e7X out k (settled p (U.of m)) hk
    rw [hkp] at hsum
    have hdn:b7I (settled p (U.of m)) = b7I p - m:=by
     show (U.of ((Post.due p).val - (U.of m).val)).val = _
     rw [hmv,U.val_of (by have:=U.lt (Post.due p); omega)]
     rfl
    have ham:amt (p.addr,(U.of m,())) = m:=hmv
    rcases d4B r (n - m) (setAt out k (settled p (U.of m))) (by omega) hT hin' hap2 with h | ⟨g1,g2,g3,g4,g5,g6,g7⟩
    ·
     exact .inl h
    ·
     refine .inr ⟨g1,g2,g3.trans hlen,fun i=>(g4 i).trans (haddr i),?_,fun i hi=>?_,fun t htl i hi he=>?_⟩
     ·
      simp only [List.map_cons,ham]
      have:b2A (m :: (b2N r (n - m)).map amt) = m + b2A ((b2N r (n - m)).map amt):=rfl
      rw [this]
      omega
     ·
      rw [g6 i (fun q hq=>by rw [haddr]; exact hi q (List.mem_cons_of_mem _ hq)),c2K,if_neg]
      rintro ⟨rfl,_⟩
      exact hi p (by simp) (by rw [hkp])
     ·
      cases t with
      | zero =>
       have hr:0 < (b2N r (n - m)).length:=by simpa using htl
       have hmn:m ≠ n:=by
        rintro rfl
        rw [Nat.sub_self,c7I] at hr
        simp at hr
       have hmd:m = b7I p:=by omega
       have hik:i = k:=f0Y ht hi hk (by rw [he,hkp]; rfl)
       subst hik
       have hpr:∀ q ∈ r,Post.addr q ≠ Post.addr (rdL dP (setAt out i (settled p (U.of m))) i):=fun q hq=>by
        rw [haddr,hkp]
        exact fun e=>hap1 q hq e.symm
       rw [g6 i hpr,c2K,if_pos ⟨rfl,hk⟩,hdn]
       omega
      | succ t =>
       exact g7 t (by simpa using htl) i (by rw [hlen]; exact hi) (by rw [haddr]; exact he)
   ·
    rw [if_neg hpd]
    exact .inl rfl
end Sym

/- Payments: a greater pool pays nobody less. -/
namespace Sym
open Go
theorem f5B {x:List Post} (hx:TableOk x) (n:U):f5J x n = (b2N (ord x) n.val,I.of .i64 0):=if_pos (tabB_t.2 hx)
theorem f9E (x:List Post):(ord x).length ≤ x.length:=by rw [List.length_map]; exact d9G x
end Sym

/- Payments: the oldest debts first. -/
namespace Sym
open Go
end Sym

/- Payments: the payments total the smaller of the pool and the debts. -/
namespace Sym
open Go
end Sym

/- The length of a number in bits. -/
namespace Sym
open Go
def Bits (n k:Nat):Prop:=∀ m,k ≤ m ↔ n < 2 ^ m
theorem Bits.zero:Bits 0 0:=fun m=>⟨fun _=>Nat.pow_pos (by decide),fun _=>Nat.zero_le _⟩
end Sym

/- Pricer: the length of a number, who is found, shares of units. -/
namespace Sym
open Go
theorem Wp.jnI {X R:Type} {T:R→Prop} {J:X→R} {f:(X→R)→R} (h:Wp T (f J)):Wp T (Sym.jn J f):=h
def b7F (units last upto now:I .u64):Nat:=if now.nat = last.nat then units.nat else units.nat * (upto.nat - last.nat) / (now.nat - last.nat)
theorem f0Z {n:Nat} (h:n < 18446744073709551616):(U.of n).1 = I.of .u64 (n:Int):=by
 show I.of .u64 ((n % 18446744073709551616:Nat):Int) = _
 rw [Nat.mod_eq_of_lt h]
theorem d1V {x y:I .u64}:I.eqb x y = decide (x.nat = y.nat):=by
 have:=a2G x
 have:=a2G y
 by_cases h:x.nat = y.nat
 ·
  rw [decide_eq_true h]; exact iff_eqb.2 (by omega)
 ·
  rw [decide_eq_false h]; exact niff_eqb.2 (by omega)
theorem sub_nat_le' (a b:I .u64) (h:b.nat ≤ a.nat):(I.sub a b).nat = a.nat - b.nat:=by
 have:=a2G a
 have:=a2G b
 have:=f0E (a:=a) (b:=b) (by omega)
 have:=a2G (I.sub a b)
 omega
theorem d0S {units last upto now:I .u64} (h1:last.nat ≤ upto.nat) (h2:upto.nat ≤ now.nat):b7F units last upto now ≤ units.nat:=by
 unfold b7F
 split
 ·
  omega
 ·
  refine Nat.div_le_of_le_mul ?_
  rw [Nat.mul_comm]
  exact Nat.mul_le_mul_right _ (by omega)
end Sym

/- Pricer: what its functions compute. -/
namespace Sym
open Go
abbrev PrT:Type:=a5H
abbrev PrT.price (s:PrT):U:=s.1
abbrev PrT.units (s:PrT):I .u64:=s.2.1
abbrev PrT.last (s:PrT):I .u64:=s.2.2.1
abbrev PrT.reports (s:PrT):I .u64:=s.2.2.2.1
abbrev PrT.surplus (s:PrT):S:=s.2.2.2.2.1
abbrev PrT.posters (s:PrT):List Post:=s.2.2.2.2.2.1
abbrev RepT:Type:=b4N
abbrev g0H:Type:=c8Z
def Prm.rpu (p:Prm):U:=p.2.2.2.2.2.2.2.1
noncomputable def f7E (l:List Post) (n:I .u64):Bool:=l.all fun p=>decide ((Post.since p).nat ≤ n.nat)
noncomputable def prV (s:PrT):Bool:=f7E s.posters s.reports && (c5F s.posters && a9X s.surplus)
theorem prV_t {s:PrT}:prV s = true ↔ (∀ p ∈ s.posters,(Post.since p).nat ≤ s.reports.nat)∧TableOk s.posters∧a9X s.surplus = true:=by
 unfold prV f7E
 simp only [Bool.and_eq_true,List.all_eq_true,decide_eq_true_eq,tabB_t]
noncomputable def c1Z (p:Post) (c w:U) (since:I .u64):Post :=
 (p.1,(U.of (p.due.val + (c.val + w.val)),(U.of (p.costs.val + c.val),(U.of (p.rewards.val + w.val),(p.paid,((if p.due.val = 0∧0 < p.due.val + (c.val + w.val) then since else p.since),()))))))
def e0T (p:Post) (c w:U):Prop:=p.due.val + (c.val + w.val) < U.top∧p.costs.val + c.val < U.top∧p.rewards.val + w.val < U.top
open Classical in
noncomputable def b7B (l:List Post) (a:I .u64) (c w:U) (since:I .u64):List Post × I .i64 :=
 if e0T (rdL dP l (atN l a)) c w then (setAt l (atN l a) (c1Z (rdL dP l (atN l a)) c w since),I.of .i64 0) else ([],I.of .i64 4)
theorem e7V {n:Nat}:I.neb (c5E n).2 (I.of .i64 0) = decide (¬ n < U.top):=by
 by_cases h:n < U.top
 ·
  rw [c5V h,decide_eq_false (by simpa using h)]; rfl
 ·
  rw [d5X (by omega),decide_eq_true h]; rfl
end Sym

/- Pricer: a report. -/
namespace Sym
open Go
abbrev RepT.from' (r:RepT):I .u64:=r.1
abbrev RepT.upto (r:RepT):I .u64:=r.2.1
abbrev RepT.cost (r:RepT):U:=r.2.2.1
abbrev c5W:Nat:=340282366920938463463374607431768211456
noncomputable def c4X (s:PrT) (p:Prm) (r:RepT) (now:I .u64):I .i64 :=
 if prV s = true then
  if a7O p = true then
   if atN s.posters r.from' < s.posters.length then
    if s.last.nat ≤ r.upto.nat∧r.upto.nat ≤ now.nat then
     if r.cost.val < c5W then
      if s.reports.nat = 18446744073709551615 then I.of .i64 4 else I.of .i64 0
     else I.of .i64 2
    else I.of .i64 14
   else I.of .i64 8
  else I.of .i64 15
 else I.of .i64 2
theorem f8C {n k:Nat} (h:Bits n k) (hk:k ≤ 256):I.ltb (I.of .i64 128) (i6 k) = decide (¬ n < c5W):=by
 have e:I.of .i64 128 = i6 128:=rfl
 rw [e,a2U (by omega) (by omega)]
 have:=h 128
 have e2:(2:Nat) ^ 128 = c5W:=by decide
 rw [e2] at this
 by_cases hc:n < c5W
 ·
  rw [decide_eq_false (by omega),decide_eq_false (by simpa using hc)]
 ·
  rw [decide_eq_true (by omega),decide_eq_true hc]
noncomputable abbrev zPr:PrT:=(Z_U,((I.of .u64 0),((I.of .u64 0),((I.of .u64 0),(a2V,([],()))))))
noncomputable abbrev g1I:g0H:=(I.of .u64 0,(Z_U,([],())))
def c4E (s:PrT) (r:RepT) (now:I .u64):Nat:=b7F s.units s.last r.upto now
noncomputable def c4V (pool:U) (l:List Post) (pay:List Pay):S:=S.of (((pool.val - b2A (pay.map amt):Nat):Int) - (b2A (l.map b7I):Int))
open Classical in
noncomputable def c5K (s:PrT) (p:Prm) (pool:U) (t:g0H):PrT × I .i64 :=
 if b2A (s.posters.map b7I) < U.top then
  if t.1.nat = 0 then (s,I.of .i64 0)
  else if I.neb (c2M s.price (c4V pool s.posters t.2.2.1) s.surplus t.1 p).2 (I.of .i64 0) = true then (zPr,(c2M s.price (c4V pool s.posters t.2.2.1) s.surplus t.1 p).2)
  else (((c2M s.price (c4V pool s.posters t.2.2.1) s.surplus t.1 p).1,(s.units,(s.last,(s.reports,(c4V pool s.posters t.2.2.1,(s.posters,())))))),I.of .i64 0)
 else (zPr,I.of .i64 4)
end Sym

/- Pricer: a report as a whole. -/
namespace Sym
open Go
theorem d4M {l:List Post} {a:I .u64} {c w:U} {since:I .u64} (hT:TableOk l) (hf:atN l a < l.length) (hs:since.nat ≠ 0) :
  ((b7B l a c w since).2 = I.of .i64 4∧(b7B l a c w since).1 = []) ∨
  ((b7B l a c w since).2 = I.of .i64 0∧e0T (rdL dP l (atN l a)) c w∧(b7B l a c w since).1 = setAt l (atN l a) (c1Z (rdL dP l (atN l a)) c w since)∧TableOk (b7B l a c w since).1):=by
 unfold b7B
 split
 ·
  rename_i h
  refine .inr ⟨rfl,h,rfl,?_⟩
  have hv:=a2G since
  refine f7G hT hf ?_ rfl
  refine e5X (hT.2 _ hf).1 c w since (by omega) h.1 h.2.1 h.2.2 _ ?_
  by_cases hd:(Post.due (rdL dP l (atN l a))).val = 0∧0 < (Post.due (rdL dP l (atN l a))).val + (c.val + w.val)
  ·
   rw [if_pos hd]; exact .inl ⟨rfl,hd.1,hd.2⟩
  ·
   rw [if_neg hd]; exact .inr ⟨rfl,hd⟩
 ·
  exact .inl ⟨rfl,rfl⟩
noncomputable def b4L (s:PrT) (p:Prm) (r:RepT) (now:I .u64):List Post × I .i64:=b7B s.posters r.from' r.cost (U.of (p.rpu.val * c4E s r now)) (I.add s.reports (I.of .u64 1))
noncomputable def a2D (l:List Post) (pool:U):List Pay:=b2N (ord l) pool.val
noncomputable def c0S (s:PrT) (l:List Post):PrT:=(s.price,(s.units,(s.last,(I.add s.reports (I.of .u64 1),(s.surplus,(l,()))))))
noncomputable def b8G (s:PrT) (p:Prm) (r:RepT) (now:I .u64) (pay:List Pay):g0H:=(I.of .u64 (c4E s r now:Int),(U.of (p.rpu.val * c4E s r now),(pay,())))
noncomputable def g2G (s:PrT) (n:Nat) (r:RepT) (q:PrT):PrT:=(q.1,(I.sub q.2.1 (I.of .u64 (n:Int)),(r.upto,q.2.2.2)))
noncomputable def b3H (s:PrT) (p:Prm) (pool:U) (r:RepT) (now:I .u64):PrT × g0H × I .i64 :=
 if (c4X s p r now).val = 0 then
  if p.rpu.val * c4E s r now < U.top then
   if (b4L s p r now).2.val = 0 then
    if (a3B (b4L s p r now).1 (a2D (b4L s p r now).1 pool)).2.val = 0 then
     if (c5K (c0S s (a3B (b4L s p r now).1 (a2D (b4L s p r now).1 pool)).1) p pool (b8G s p r now (a2D (b4L s p r now).1 pool))).2.val = 0 then
      (g2G s (c4E s r now) r (c5K (c0S s (a3B (b4L s p r now).1 (a2D (b4L s p r now).1 pool)).1) p pool (b8G s p r now (a2D (b4L s p r now).1 pool))).1,b8G s p r now (a2D (b4L s p r now).1 pool),I.of .i64 0)
     else (zPr,g1I,I.of .i64 4)
    else (zPr,g1I,I.of .i64 4)
   else (zPr,g1I,I.of .i64 4)
  else (zPr,g1I,I.of .i64 4)
 else (zPr,g1I,c4X s p r now)
structure Chk (s:PrT) (p:Prm) (r:RepT) (now:I .u64):Prop where
 since:∀ q ∈ s.posters,(Post.since q).nat ≤ s.reports.nat
 tab:TableOk s.posters
 sur:a9X s.surplus = true
 par:a7O p = true
 fnd:atN s.posters r.from' < s.posters.length
 lo:s.last.nat ≤ r.upto.nat
 hi:r.upto.nat ≤ now.nat
 cost:r.cost.val < c5W
 cnt:s.reports.nat < 18446744073709551615
theorem d4L {s:PrT} {p:Prm} {r:RepT} {now:I .u64} (h:(c4X s p r now).val = 0):Chk s p r now:=by
 unfold c4X at h
 split at h
 ·
  rename_i h1
  split at h
  ·
   rename_i h2
   split at h
   ·
    rename_i h3
    split at h
    ·
     rename_i h4
     split at h
     ·
      rename_i h5
      split at h
      ·
       exact absurd h (by decide)
      ·
       rename_i h6
       have ⟨a,b,c⟩:=prV_t.1 h1
       have:=a3M s.reports
       exact ⟨a,b,c,h2,h3,h4.1,h4.2,h5,by omega⟩
     ·
      exact absurd h (by decide)
    ·
     exact absurd h (by decide)
   ·
    exact absurd h (by decide)
  ·
   exact absurd h (by decide)
 ·
  exact absurd h (by decide)
theorem d9M {s:PrT} {p:Prm} {r:RepT} {now:I .u64} (h:Chk s p r now):(I.add s.reports (I.of .u64 1)).nat = s.reports.nat + 1:=by
 have:=h.cnt
 have:=a2G s.reports
 have h1:(I.of .u64 1).val = 1:=rfl
 have:=f1V (a:=s.reports) (b:=I.of .u64 1) (by omega)
 have:=a2G (I.add s.reports (I.of .u64 1))
 omega
theorem d3Y (l:List Post) (pool:U):(a2D l pool).length ≤ l.length:=Nat.le_trans (d9A _ _) (f9E l)
theorem e5Z (l:List Post) (pool:U):b2A ((a2D l pool).map amt) = min pool.val (b2A (l.map b7I)):=by
 unfold a2D
 rw [e3X (ord l) pool.val pool.lt,g0S]
theorem d9I {l:List Post} (hT:TableOk l) (pool:U) :
  (a3B l (a2D l pool)).2 = I.of .i64 4 ∨ ((a3B l (a2D l pool)).2 = I.of .i64 0∧TableOk (a3B l (a2D l pool)).1∧(a3B l (a2D l pool)).1.length = l.length ∧
   (∀ i,Post.addr (rdL dP (a3B l (a2D l pool)).1 i) = Post.addr (rdL dP l i))∧b2A ((a3B l (a2D l pool)).1.map b7I) + b2A ((a2D l pool).map amt) = b2A (l.map b7I)):=by
 rcases d4B (ord l) pool.val l pool.lt hT (fun p hp=>f9K hp) (e9K hT) with h | ⟨h1,h2,h3,h4,h5,_,_⟩
 ·
  exact .inl h
 ·
  exact .inr ⟨h1,h2,h3,h4,h5⟩
theorem b6W:(I.of .i64 4).val ≠ 0:=by decide
end Sym

/- Pricer: posters and units added. -/
namespace Sym
open Go
noncomputable def g1G (a:I .u64):Post:=(a,(Z_U,(Z_U,(Z_U,(Z_U,((I.of .u64 0),()))))))
noncomputable def e4P:List Post→I .u64→List Post
 | [],a=>[g1G a]
 | p :: r,a=>if (Post.addr p).nat < a.nat then p :: e4P r a else g1G a :: p :: r
theorem f0N {l:List Post} {a:I .u64} {i:Nat} (hi:i < l.length) (h:(Post.addr (rdL dP l i)).nat < a.nat):e4P (l.drop i) a = rdL dP l i :: e4P (l.drop (i + 1)) a:=by
 rw [List.drop_eq_getElem_cons hi,← a4P dP l i hi]
 exact if_pos h
theorem e9I {l:List Post} {a:I .u64} {i:Nat} (hi:i < l.length) (h:¬ (Post.addr (rdL dP l i)).nat < a.nat):e4P (l.drop i) a = g1G a :: l.drop i:=by
 rw [List.drop_eq_getElem_cons hi,← a4P dP l i hi]
 exact if_neg h
theorem e3V:∀ (l:List Post) (a:I .u64),(e4P l a).length = l.length + 1
 | [],a=>rfl
 | p :: r,a=>by
  unfold e4P
  split
  ·
   simp [e3V r a]
  ·
   rfl
open Classical in
noncomputable def d2T (l:List Post) (a:I .u64):List Post × I .i64 :=
 if c5F l = true∧a.nat ≠ 0 then
  if atN l a < l.length then ([],I.of .i64 9)
  else if l.length = 64 then ([],I.of .i64 7) else (e4P l a,I.of .i64 0)
 else ([],I.of .i64 2)
theorem g0Q {l:List Post} {a:I .u64} (hl:l.length ≤ 1073741824):I.leb (I.of .i64 0) (atI l a) = decide (atN l a < l.length):=by
 have:=d5D (l:=l) (a:=a) hl
 by_cases h:atN l a < l.length
 ·
  rw [decide_eq_false (by simpa using h)] at this
  rw [decide_eq_true h]
  exact iff_leb.2 (niff_ltb.1 this)
 ·
  rw [decide_eq_true h] at this
  rw [decide_eq_false h]
  exact niff_leb.2 (iff_ltb.1 this)
open Classical in
noncomputable def a8N (s:PrT) (a:I .u64):PrT × I .i64 :=
 if prV s = true then
  if (d2T s.posters a).2.val = 0 then ((s.price,(s.units,(s.last,(s.reports,(s.surplus,((d2T s.posters a).1,())))))),I.of .i64 0)
  else (zPr,(d2T s.posters a).2)
 else (zPr,I.of .i64 2)
noncomputable def a7M (s:PrT) (n:I .u64):PrT × I .i64 :=
 if prV s = true then
  if s.units.nat + n.nat < 18446744073709551616 then ((s.price,(I.of .u64 ((s.units.nat + n.nat:Nat):Int),s.2.2)),I.of .i64 0)
  else (zPr,I.of .i64 4)
 else (zPr,I.of .i64 2)
end Sym

/- Pricer: what an accepted report has done. -/
namespace Sym
open Go
noncomputable def b0V (s:PrT) (p:Prm) (r:RepT) (now:I .u64):List Post :=
 setAt s.posters (atN s.posters r.from') (c1Z (rdL dP s.posters (atN s.posters r.from')) r.cost (U.of (p.rpu.val * c4E s r now)) (I.add s.reports (I.of .u64 1)))
structure RepOk (s:PrT) (p:Prm) (pool:U) (r:RepT) (now:I .u64) (x:PrT) (t:g0H):Prop where
 chk:Chk s p r now
 w:p.rpu.val * c4E s r now < U.top
 fits:e0T (rdL dP s.posters (atN s.posters r.from')) r.cost (U.of (p.rpu.val * c4E s r now))
 tab1:TableOk (b0V s p r now)
 ap:(a3B (b0V s p r now) (a2D (b0V s p r now) pool)).2.val = 0
 tab2:TableOk x.posters
 len:x.posters.length = s.posters.length
 addr:∀ i,Post.addr (rdL dP x.posters i) = Post.addr (rdL dP s.posters i)
 posters:x.posters = (a3B (b0V s p r now) (a2D (b0V s p r now) pool)).1
 due:b2A (x.posters.map b7I) + b2A ((a2D (b0V s p r now) pool).map amt) = b2A ((b0V s p r now).map b7I)
 total:b2A (x.posters.map b7I) < U.top
 units:x.units = I.sub s.units (I.of .u64 (c4E s r now:Int))
 last:x.last = r.upto
 reports:x.reports = I.add s.reports (I.of .u64 1)
 surplus:x.surplus = (if c4E s r now = 0 then s.surplus else c4V pool x.posters (a2D (b0V s p r now) pool))
 price:x.price = (if c4E s r now = 0 then s.price else (c2M s.price (c4V pool x.posters (a2D (b0V s p r now) pool)) s.surplus (I.of .u64 (c4E s r now:Int)) p).1)
 out:t = b8G s p r now (a2D (b0V s p r now) pool)
theorem e0M {s:PrT} {p:Prm} {r:RepT} {now:I .u64} (h:Chk s p r now):c4E s r now ≤ s.units.nat∧(I.of .u64 (c4E s r now:Int)).nat = c4E s r now:=by
 have h1:=d0S (units:=s.units) h.lo h.hi
 have h2:=a3M s.units
 exact ⟨h1,b8Y (by unfold c4E; omega)⟩
theorem g2I {s:PrT} {p:Prm} {pool:U} {r:RepT} {now:I .u64} (h:(b3H s p pool r now).2.2.val = 0):RepOk s p pool r now (b3H s p pool r now).1 (b3H s p pool r now).2.1:=by
 unfold b3H at h ⊢
 by_cases h0:(c4X s p r now).val = 0
 case neg=>rw [if_neg h0] at h; exact absurd h h0
 rw [if_pos h0] at h ⊢
 have hC:=d4L h0
 by_cases hw:p.rpu.val * c4E s r now < U.top
 case neg=>rw [if_neg hw] at h; exact absurd h b6W
 rw [if_pos hw] at h ⊢
 have hcnt:=d9M hC
 have ⟨hn1,hn2⟩:=e0M hC
 have hA:=d4M (c:=r.cost) (w:=U.of (p.rpu.val * c4E s r now)) (since:=I.add s.reports (I.of .u64 1)) hC.tab hC.fnd (by rw [hcnt]; omega)
 rw [show b7B s.posters r.from' r.cost (U.of (p.rpu.val * c4E s r now)) (I.add s.reports (I.of .u64 1)) = b4L s p r now from rfl] at hA
 rcases hA with ⟨hA,_⟩ | ⟨hA,hfit,hl1,hT⟩
 ·
  rw [if_neg (by rw [hA]; exact b6W)] at h; exact absurd h b6W
 rw [if_pos (by rw [hA]; rfl)] at h ⊢
 have hl1:(b4L s p r now).1 = b0V s p r now:=hl1
 rw [hl1] at h ⊢
 rw [hl1] at hT
 rcases d9I hT pool with hB | ⟨hB,hT2,hlen,hadr,hdue⟩
 ·
  rw [if_neg (by rw [hB]; exact b6W)] at h; exact absurd h b6W
 have hB0:(a3B (b0V s p r now) (a2D (b0V s p r now) pool)).2.val = 0:=by rw [hB]; rfl
 rw [if_pos hB0] at h ⊢
 have hl0:(b0V s p r now).length = s.posters.length:=by unfold b0V; rw [a7G,List.length_set]
 have ha0:∀ i,Post.addr (rdL dP (b0V s p r now) i) = Post.addr (rdL dP s.posters i):=by
  intro i
  unfold b0V
  rw [c2K]
  split
  ·
   rename_i e; rw [e.1]; rfl
  ·
   rfl
 by_cases hD:(c5K (c0S s (a3B (b0V s p r now) (a2D (b0V s p r now) pool)).1) p pool (b8G s p r now (a2D (b0V s p r now) pool))).2.val = 0
 case neg=>rw [if_neg hD] at h; exact absurd h b6W
 rw [if_pos hD] at h ⊢
 have key:b2A ((a3B (b0V s p r now) (a2D (b0V s p r now) pool)).1.map b7I) < U.top ∧
   (c5K (c0S s (a3B (b0V s p r now) (a2D (b0V s p r now) pool)).1) p pool (b8G s p r now (a2D (b0V s p r now) pool))).1 =
    ((if c4E s r now = 0 then s.price else (c2M s.price (c4V pool (a3B (b0V s p r now) (a2D (b0V s p r now) pool)).1 (a2D (b0V s p r now) pool)) s.surplus (I.of .u64 (c4E s r now:Int)) p).1),
     (s.units,(s.last,(I.add s.reports (I.of .u64 1),((if c4E s r now = 0 then s.surplus else c4V pool (a3B (b0V s p r now) (a2D (b0V s p r now) pool)).1 (a2D (b0V s p r now) pool)),((a3B (b0V s p r now) (a2D (b0V s p r now) pool)).1,())))))):=by
  unfold c5K at hD ⊢
  have e1:(c0S s (a3B (b0V s p r now) (a2D (b0V s p r now) pool)).1).posters = (a3B (b0V s p r now) (a2D (b0V s p r now) pool)).1:=rfl
  have e2:(b8G s p r now (a2D (b0V s p r now) pool)).1.nat = c4E s r now:=hn2
  rw [e1] at hD ⊢
  split at hD
  ·
   rename_i hs
   refine ⟨hs,?_⟩
   rw [if_pos hs]
   rw [e2] at hD ⊢
   split at hD
   ·
    rename_i hz
    rw [if_pos hz,if_pos hz,if_pos hz]
    rfl
   ·
    rename_i hz
    rw [if_neg hz,if_neg hz,if_neg hz]
    split at hD
    ·
     rename_i hN
     exact absurd hD (iff_neb.1 hN)
    ·
     rename_i hN
     rw [if_neg hN]
     rfl
  ·
   exact absurd hD b6W
 rw [key.2]
 exact ⟨hC,hw,hfit,hT,hB0,hT2,hlen.trans hl0,fun i=>(hadr i).trans (ha0 i),rfl,hdue,key.1,rfl,rfl,rfl,rfl,rfl,rfl⟩
end Sym

/- Pricer: the reference's parts. -/
namespace Sym
open Go
theorem f5G {n i:Nat}:n % 2 ^ (i + 1) = n % 2 ^ i + 2 ^ i * (n / 2 ^ i % 2):=by
 rw [Nat.pow_succ,Nat.mod_mul]
theorem Bits.top {m i:Nat} (h1:2 ^ i ≤ m) (h2:m < 2 ^ (i + 1)):Bits m (i + 1):=by
 intro k
 constructor
 ·
  intro h; exact Nat.lt_of_lt_of_le h2 (Nat.pow_le_pow_right (by decide) h)
 ·
  intro h
  refine Classical.byContradiction fun hk=>?_
  have:2 ^ k ≤ 2 ^ i:=Nat.pow_le_pow_right (by decide) (by omega)
  omega
theorem e6Z (a:U):∃ y,b1F K0 ((a,()),()) = some y∧∃ k,y = ((i6 k,()),())∧Bits a.val k∧k ≤ 256:=by
 refine Wp.out (T:=fun o=>∃ y,o = some y∧∃ k,y = ((i6 k,()),())∧Bits a.val k∧k ≤ 256) ?_
 unfold b1F
 have e256:I.of .i64 256 = i6 256:=rfl
 have e64:I.of .i64 64 = i6 64:=rfl
 simp only [c0B,b4I,e256,e64]
 refine Wp.iter (fun s=>∃ i n,s = ((i6 n,(i6 i,())),(a,()))∧i ≤ 256∧n ≤ i∧Bits (a.val % 2 ^ i) n) (fun s=>256 - s.1.2.1.val.toNat) ?_ ⟨0,0,rfl,by omega,by omega,by rw [Nat.pow_zero,Nat.mod_one]; exact Bits.zero⟩ (by rw [a7L]; show 256 - _ < _; omega)
 rintro s ⟨i,n,rfl,hi,hn,hB⟩
 simp only [a2U (show i < 9223372036854775808 by omega) (show 256 < 9223372036854775808 by omega),a3S (show i + 1 < 9223372036854775808 by omega)]
 refine Wp.brn (fun hc=>?_) (fun hc=>?_)
 ·
  have hc:=of_decide_eq_true hc
  have hm:256 - (i6 (i + 1)).val.toNat < 256 - (i6 i).val.toNat:=by rw [a0W (by omega),a0W (by omega)]; omega
  have hq:I.quo (i6 i) (i6 64) = i6 (i / 64):=by
   apply I.ext'
   rw [b8H (by rw [a0W (by omega)]; omega) (by rw [a0W (by omega)]; omega),a0W (by omega),a0W (by omega),a0W (by omega)]
   omega
  have hr:I.rem (i6 i) (i6 64) = i6 (i % 64):=by
   apply I.ext'
   rw [b6V (by rw [a0W (by omega)]; omega) (by rw [a0W (by omega)]; omega),a0W (by omega),a0W (by omega),a0W (by omega)]
   omega
  have hcv:(I.conv (k:=.i64) .u64 (i6 (i % 64))).val = ((i % 64:Nat):Int):=by
   show (I.of .u64 (i6 (i % 64)).val).val = _
   rw [a0W (by omega),b8F (by omega)]
  have hcn:(I.conv (k:=.i64) .u64 (i6 (i % 64))).nat = i % 64:=by
   have:=a2G (I.conv (k:=.i64) .u64 (i6 (i % 64)))
   omega
  simp only [hq,hr,a3A (show i / 64 < 9223372036854775808 by omega)]
  refine Wp.brnT (a3F (by omega) (by omega)) (Wp.brnT (iff_nn.2 (by rw [hcv]; omega)) ?_)
  have hsh:(I.shr (Arr.sel (I.of .u64 0) 4 a (i / 64)) (I.conv (k:=.i64) .u64 (i6 (i % 64)))).nat = limb' a (i / 64) / 2 ^ (i % 64):=by
   have h:=f7O (Arr.sel (I.of .u64 0) 4 a (i / 64)) (I.conv (k:=.i64) .u64 (i6 (i % 64))) (by rw [hcn]; omega)
   rw [hcn] at h
   exact h
  have hb:(I.and (I.shr (Arr.sel (I.of .u64 0) 4 a (i / 64)) (I.conv (k:=.i64) .u64 (i6 (i % 64)))) (I.of .u64 1)).nat = a.val / 2 ^ i % 2:=by
   rw [g0U _ 1 _ (by decide) (by rfl),hsh,g4H a i (by omega)]
  have hs:=f5G (n:=a.val) (i:=i)
  have hlt:a.val % 2 ^ i < 2 ^ i:=Nat.mod_lt _ (Nat.pow_pos (by decide))
  rw [d1V,hb,show (I.of .u64 1).nat = 1 from rfl]
  refine Wp.brn (fun h=>?_) (fun h=>?_)
  ·
   have h:=of_decide_eq_true h
   rw [h,Nat.mul_one] at hs
   refine Wp.again ⟨i + 1,i + 1,rfl,by omega,by omega,?_⟩ hm
   exact Bits.top (by rw [hs]; omega) (by rw [hs,Nat.pow_succ]; omega)
  ·
   have h:=of_decide_eq_false h
   have h0:a.val / 2 ^ i % 2 = 0:=by omega
   rw [h0,Nat.mul_zero,Nat.add_zero] at hs
   exact Wp.again ⟨i + 1,n,rfl,by omega,by omega,by rw [hs]; exact hB⟩ hm
 ·
  have hc:=of_decide_eq_false hc
  have hi':i = 256:=by omega
  subst hi'
  have ha:=a.lt
  rw [g1C] at ha
  rw [Nat.mod_eq_of_lt ha] at hB
  exact Wp.done ⟨_,rfl,n,rfl,hB,hn⟩
theorem e7B (a b:U):b1K K0 ((a,(b,())),()) = some (((c5E (a.val * b.val)).1,((c5E (a.val * b.val)).2,())),()):=by
 refine Wp.out (T:=fun o=>o = _) ?_
 unfold b1K
 refine Wp.call (b2F a) ?_
 rintro _ ⟨x,rfl,hx⟩
 refine Wp.call (b2F b) ?_
 rintro _ ⟨y,rfl,hy⟩
 obtain ⟨z,hz,hz2⟩:=b2D hx hy (c0K hx) (c0K hy)
 refine Wp.optF hz (Wp.optF (Checked_ok' hz2 ?_) rfl)
 refine a9G hz2 64 ?_ (by decide)
 have h1:=a.lt
 have h2:=b.lt
 have h3:a.val * b.val < U.top * U.top:=Nat.mul_lt_mul_of_lt_of_le h1 (Nat.le_of_lt h2) (by decide)
 exact Nat.lt_trans h3 (by decide)
theorem e9W (units last upto now:I .u64) (h1:last.nat ≤ upto.nat) (h2:upto.nat ≤ now.nat) :
  a8W K0 ((units,(last,(upto,(now,())))),()) = some ((I.of .u64 (b7F units last upto now:Int),(I.of .i64 0,())),()):=by
 have hle:=d0S (units:=units) h1 h2
 have hu:=a3M units
 refine Wp.out (T:=fun o=>o = _) ?_
 unfold a8W
 refine Wp.jnI ?_
 simp only [c1T]
 refine Wp.brnF (decide_eq_false (by omega)) (Wp.brnF (decide_eq_false (by omega)) ?_)
 simp only [d1V]
 refine Wp.brn (fun h=>?_) (fun h=>?_)
 ·
  have h:=of_decide_eq_true h
  have:I.of .u64 (b7F units last upto now:Int) = units:=by
   unfold b7F
   rw [if_pos h,a2G]
   exact I.ext' units.ok
  rw [this]
  rfl
 ·
  have h:=of_decide_eq_false h
  have d1:=sub_nat_le' upto last h1
  have d2:=sub_nat_le' now last (by omega)
  obtain ⟨x,gx,hx⟩:=a1O units
  obtain ⟨y,gy,hy⟩:=a1O (I.sub upto last)
  obtain ⟨z,gz,hz⟩:=a1O (I.sub now last)
  obtain ⟨m,gm,hm⟩:=b2D hx hy (Nat.le_trans (e1C hx) (by decide)) (Nat.le_trans (e1C hy) (by decide))
  have hml:m.length ≤ 1000000:=by
   refine a9G hm 64 ?_ (by decide)
   have:=a3M (I.sub upto last)
   exact Nat.lt_trans (Nat.mul_lt_mul_of_lt_of_le hu (Nat.le_of_lt this) (by decide)) (by decide)
  obtain ⟨q,r,gq,hq,_⟩:=c3U hm hz (by omega) hml (Nat.le_trans (e1C hz) (by decide))
  have e:b7F units last upto now = units.nat * (upto.nat - last.nat) / (now.nat - last.nat):=if_neg h
  rw [d1,d2,← e] at hq
  refine Wp.optF gx (Wp.optF gy (Wp.optF gm (Wp.optF gz (Wp.optF gq (Wp.optF (a2X hq (Nat.lt_trans (Nat.lt_of_le_of_lt hle hu) (by decide))) ?_)))))
  show some (((U.of (b7F units last upto now)).1,(I.of .i64 0,())),()) = _
  rw [f0Z (by omega)]
theorem d7O {l:List Post} (hl:l.length ≤ 1073741824) (hT:TableOk l):a8T K0 ((l,()),()) = some (((c5E (b2A (l.map b7I))).1,((c5E (b2A (l.map b7I))).2,())),()):=by
 refine Wp.out (T:=fun o=>o = _) ?_
 unfold a8T
 simp only [b1E,a8S,c0B,b4I]
 refine Wp.optF (c1F hl) (Wp.brnF (e9P hT) ?_)
 have h64:=hT.1
 have hb:∀ i,b2A ((l.take i).map b7I) ≤ 64 * U.top:=fun i=>by
  have h1:=c7Z b7I U.top (fun p=>U.lt _) (l.take i)
  have h2:(l.take i).length * U.top ≤ 64 * U.top:=Nat.mul_le_mul_right _ (by rw [List.length_take]; omega)
  omega
 have hbig:64 * U.top < 65536 ^ 64:=by decide
 refine Wp.iter (fun s=>∃ i b,s = ((l,(b,(i6 i,()))),(Z_U,()))∧i ≤ l.length∧IsB b (b2A ((l.take i).map b7I))) (fun s=>l.length - s.1.2.2.1.val.toNat) ?_ ⟨0,[],rfl,by omega,d0Q⟩ (by rw [a7L]; show l.length - _ < _; omega)
 rintro s ⟨i,b,rfl,hi,hB⟩
 simp only [a2U (show i < 9223372036854775808 by omega) (show l.length < 9223372036854775808 by omega),a3A (show i < 9223372036854775808 by omega),a3S (show i + 1 < 9223372036854775808 by omega)]
 have hbl:b.length ≤ 1000000:=a9G hB 64 (by have:=hb i; omega) (by decide)
 refine Wp.brn (fun hc=>?_) (fun hc=>?_)
 ·
  have hc:=of_decide_eq_true hc
  refine Wp.brnT (a3F (by omega) (by omega)) ?_
  refine Wp.call (b2F (Post.due (rdL dP l i))) ?_
  rintro _ ⟨x,rfl,hx⟩
  obtain ⟨z,gz,hz⟩:=b1W hB hx hbl (c0K hx)
  refine Wp.optF gz ?_
  exact Wp.again ⟨i + 1,z,rfl,by omega,by rw [d8Q dP b7I hc]; exact hz⟩ (by show l.length - (i6 (i + 1)).val.toNat < l.length - (i6 i).val.toNat; rw [a0W (by omega),a0W (by omega)]; omega)
 ·
  have hc:=of_decide_eq_false hc
  rw [List.take_of_length_le (by omega)] at hB
  exact Wp.done (Wp.optF (Checked_ok' hB hbl) rfl)
end Sym

/- Pricer: the reference computes the same. -/
namespace Sym
open Go
theorem e5C (l:List Post) (a:I .u64) (c w:U) (since:I .u64) (h:TableOk l) (hf:atN l a < l.length) (hs:since.nat ≠ 0) :
  b0E K0 ((l,(a,(c,(w,(since,()))))),()) = some (((b7B l a c w since).1,((b7B l a c w since).2,())),()):=by
 refine Wp.out (T:=fun o=>o = _) ?_
 have hl:=h.1
 unfold b0E b7B
 refine Wp.jnI (Wp.optF (c1F (l:=l) (by omega)) (Wp.brnF (e9P h) (Wp.brnF (by rw [d1V]; exact decide_eq_false hs) ?_)))
 refine Wp.optF (c9I (l:=l) a (by omega)) ?_
 have e:atI l a = i6 (atN l a):=if_pos hf
 rw [e]
 have hE:=(h.2 _ hf).1
 generalize atN l a = k at hf hE ⊢
 refine Wp.brnF (by rw [c0B,a2U (by omega) (by omega)]; exact decide_eq_false (by omega)) ?_
 have en:a2E ([]:List Post) l = l:=rfl
 simp only [a3A (show k < 9223372036854775808 by omega),pw,d0A,c2K,en]
 simp only [true_and,hf,if_true]
 have bi:inB (i6 k) l.length = true:=a3F hf (by omega)
 generalize rdL dP l k = p at *
 refine Wp.brnT (b4G (by show l.length ≤ _; omega)) (Wp.brnT bi ?_)
 refine Wp.call (b2F (Post.due p)) ?_
 rintro _ ⟨d1,rfl,b1⟩
 refine Wp.call (b2F c) ?_
 rintro _ ⟨d2,rfl,b2⟩
 refine Wp.call (b2F w) ?_
 rintro _ ⟨d3,rfl,b3⟩
 have t1:=U.lt (Post.due p)
 have t2:=c.lt
 have t3:=w.lt
 have t4:=U.lt (Post.costs p)
 have t5:=U.lt (Post.rewards p)
 have hp:U.top + U.top + U.top ≤ 65536 ^ 17:=by decide
 obtain ⟨d4,g4,b4⟩:=b1W b2 b3 (c0K b2) (c0K b3)
 refine Wp.optF g4 ?_
 obtain ⟨d5,g5,b5⟩:=b1W b1 b4 (c0K b1) (a9G b4 17 (by omega) (by decide))
 refine Wp.optF g5 ?_
 refine Wp.call (b2F (Post.costs p)) ?_
 rintro _ ⟨d6,rfl,b6⟩
 refine Wp.call (b2F c) ?_
 rintro _ ⟨d7,rfl,b7⟩
 obtain ⟨d8,g8,b8⟩:=b1W b6 b7 (c0K b6) (c0K b7)
 refine Wp.optF g8 ?_
 refine Wp.call (b2F (Post.rewards p)) ?_
 rintro _ ⟨d9,rfl,b9⟩
 refine Wp.call (b2F w) ?_
 rintro _ ⟨d10,rfl,b10⟩
 obtain ⟨d11,g11,b11⟩:=b1W b9 b10 (c0K b9) (c0K b10)
 refine Wp.optF g11 ?_
 have l5:=a9G b5 17 (by omega) (by decide)
 have l8:=a9G b8 17 (by omega) (by decide)
 have l11:=a9G b11 17 (by omega) (by decide)
 refine Wp.optF (d3D b5 l5) ?_
 refine Wp.brn (fun f1=>?_) (fun f1=>?_)
 ·
  have f1:=of_decide_eq_false (b3C f1)
  rw [if_neg (fun hh=>f1 hh.1)]; rfl
 have f1:=of_decide_eq_true (b3E f1)
 refine Wp.optF (d3D b8 l8) ?_
 refine Wp.brn (fun f2=>?_) (fun f2=>?_)
 ·
  have f2:=of_decide_eq_false (b3C f2)
  rw [if_neg (fun hh=>f2 hh.2.1)]; rfl
 have f2:=of_decide_eq_true (b3E f2)
 refine Wp.optF (d3D b11 l11) ?_
 refine Wp.brn (fun f3=>?_) (fun f3=>?_)
 ·
  have f3:=of_decide_eq_false (b3C f3)
  rw [if_neg (fun hh=>f3 hh.2.2)]; rfl
 have f3:=of_decide_eq_true (b3E f3)
 rw [if_pos ⟨f1,f2,f3⟩]
 refine Wp.optF (c7Q (Post.due p)) ?_
 have hpos:=f9A b5 l5
 refine Wp.brn (fun z=>?_) (fun z=>?_)
 ·
  have z:=of_decide_eq_true z
  refine Wp.brn (fun y=>?_) (fun y=>?_)
  ·
   have y:=of_decide_eq_true (hpos.symm.trans y)
   refine Wp.optF (a2X b5 f1) (Wp.optF (a2X b8 f2) (Wp.optF (a2X b11 f3) ?_))
   have e:c1Z p c w since = (p.1,(U.of (p.due.val + (c.val + w.val)),(U.of (p.costs.val + c.val),(U.of (p.rewards.val + w.val),(p.paid,(since,())))))):=by unfold c1Z; rw [if_pos ⟨z,y⟩]
   rw [e]; rfl
  ·
   have y:=of_decide_eq_false (hpos.symm.trans y)
   refine Wp.optF (a2X b5 f1) (Wp.optF (a2X b8 f2) (Wp.optF (a2X b11 f3) ?_))
   have e:c1Z p c w since = (p.1,(U.of (p.due.val + (c.val + w.val)),(U.of (p.costs.val + c.val),(U.of (p.rewards.val + w.val),(p.paid,(p.since,())))))):=by unfold c1Z; rw [if_neg (fun hh=>y hh.2)]
   rw [e]; rfl
 ·
  have z:=of_decide_eq_false z
  refine Wp.optF (a2X b5 f1) (Wp.optF (a2X b8 f2) (Wp.optF (a2X b11 f3) ?_))
  have e:c1Z p c w since = (p.1,(U.of (p.due.val + (c.val + w.val)),(U.of (p.costs.val + c.val),(U.of (p.rewards.val + w.val),(p.paid,(p.since,())))))):=by unfold c1Z; rw [if_neg (fun hh=>z hh.1)]
  rw [e]; rfl
theorem f5C (l:List Post) (a:I .u64) (hl:l.length ≤ 1073741824):b3Y K0 ((l,(a,())),()) = some (((d2T l a).1,((d2T l a).2,())),()):=by
 refine Wp.out (T:=fun o=>o = _) ?_
 unfold b3Y d2T
 refine Wp.jnI (Wp.optF (c1F hl) ?_)
 have e0:(I.of .u64 0).nat = 0:=rfl
 refine Wp.brn (fun h=>?_) (fun h=>?_)
 ·
  have h:c5F l = false:=b3C h
  simp only [if_neg (show ¬ (c5F l = true∧a.nat ≠ 0) by rw [h]; simp)]; rfl
 have hT:c5F l = true:=b3E h
 rw [d1V,e0]
 refine Wp.brn (fun h=>?_) (fun h=>?_)
 ·
  have h:a.nat = 0:=of_decide_eq_true h
  simp only [if_neg (show ¬ (c5F l = true∧a.nat ≠ 0) from fun hh=>hh.2 h)]; rfl
 have ha:a.nat ≠ 0:=of_decide_eq_false h
 simp only [if_pos (show c5F l = true∧a.nat ≠ 0 from ⟨hT,ha⟩)]
 refine Wp.optF (c9I (l:=l) a hl) ?_
 rw [show (((atI l a,()),()):((I .i64) × Unit) × Unit).1.1 = atI l a from rfl,g0Q hl]
 refine Wp.brn (fun h=>?_) (fun h=>?_)
 ·
  have h:=of_decide_eq_true h
  simp only [if_pos h]; rfl
 have hf:=of_decide_eq_false h
 simp only [if_neg hf]
 have hne:=f2I hf
 have hlim:l.length ≤ 64:=(tabB_t.1 hT).1
 have e64:I.of .i64 64 = i6 64:=rfl
 simp only [b1E,a8S,c0B,b4I,e64,d8H (show 64 < 9223372036854775808 by omega) (show l.length < 9223372036854775808 by omega)]
 refine Wp.brn (fun h=>?_) (fun h=>?_)
 ·
  have h:=of_decide_eq_true h
  simp only [if_pos (show l.length = 64 by omega)]; rfl
 have h64:=of_decide_eq_false h
 simp only [if_neg (show ¬ l.length = 64 by omega)]
 have hva:=a2G a
 refine Wp.iter (fun s=>∃ i put out,s = ((l,(a,(put,(i6 i,())))),(out,()))∧i ≤ l.length∧out.length ≤ i + (if put = true then 1 else 0) ∧
   ((put = false∧out ++ e4P (l.drop i) a = e4P l a) ∨ (put = true∧out ++ l.drop i = e4P l a)))
  (fun s=>l.length - s.1.2.2.2.1.val.toNat) ?_ ⟨0,false,[],rfl,by omega,by simp,.inl ⟨rfl,rfl⟩⟩ (by rw [a7L]; show l.length - _ < _; omega)
 rintro s ⟨i,put,out,rfl,hi,hol0,hcase⟩
 have hol:out.length ≤ i + 1:=by revert hol0; split <;> omega
 simp only [a2U (show i < 9223372036854775808 by omega) (show l.length < 9223372036854775808 by omega),a3A (show i < 9223372036854775808 by omega)]
 refine Wp.brn (fun hc=>?_) (fun hc=>?_)
 ·
  have hc:=of_decide_eq_true hc
  have hm:l.length - (i6 (i + 1)).val.toNat < l.length - (i6 i).val.toNat:=by rw [a0W (by omega),a0W (by omega)]; omega
  have bi:inB (i6 i) l.length = true:=a3F (by omega) (by omega)
  have hdr:l.drop i = rdL dP l i :: l.drop (i + 1):=by rw [List.drop_eq_getElem_cons hc,a4P dP l i hc]
  have hvi:=a2G (Post.addr (rdL dP l i))
  have hnei:=hne i hc
  refine Wp.jnI ?_
  have place:put = false→a.nat < (Post.addr (rdL dP l i)).nat→out ++ g1G a :: rdL dP l i :: l.drop (i + 1) = e4P l a:=by
   intro hp hlt
   rcases hcase with ⟨_,h⟩ | ⟨h,_⟩
   ·
    rw [e9I hc (by omega),hdr] at h; exact h
   ·
    rw [hp] at h; cases h
  have keep:put = false→¬ a.nat < (Post.addr (rdL dP l i)).nat→(out ++ [rdL dP l i]) ++ e4P (l.drop (i + 1)) a = e4P l a:=by
   intro hp hlt
   rcases hcase with ⟨_,h⟩ | ⟨h,_⟩
   ·
    rw [f0N hc (by omega)] at h; rw [← h]; simp
   ·
    rw [hp] at h; cases h
  have keep2:put = true→(out ++ [rdL dP l i]) ++ l.drop (i + 1) = e4P l a:=by
   intro hp
   rcases hcase with ⟨h,_⟩ | ⟨_,h⟩
   ·
    rw [hp] at h; cases h
   ·
    rw [hdr] at h; rw [← h]; simp
  have hfit:a1L (a0K (a2E out [rdL dP l i])) = true:=b4G (by show (out ++ [_]).length ≤ _; simp; omega)
  refine Wp.brn (fun hp=>?_) (fun hp=>?_)
  ·
   have hp:put = false:=b3C hp
   refine Wp.brnT bi ?_
   rw [c1T]
   simp only [a3A (show i < 9223372036854775808 by omega),a3S (show i + 1 < 9223372036854775808 by omega)]
   refine Wp.brn (fun hlt=>?_) (fun hlt=>?_)
   ·
    have hlt:a.nat < (Post.addr (rdL dP l i)).nat:=of_decide_eq_true hlt
    refine Wp.brnT (b4G (by show (out ++ [_]).length ≤ _; simp; omega)) (Wp.brnT bi (Wp.brnT (b4G (by show (out ++ [_] ++ [_]).length ≤ _; simp; omega)) ?_))
    refine Wp.again ⟨i + 1,true,_,rfl,by omega,?_,.inr ⟨rfl,?_⟩⟩ hm
    ·
     rw [hp] at hol0
     simp [a2E] at hol0 ⊢
     omega
    ·
     rw [← place hp hlt]; simp [a2E,g1G]
   ·
    have hlt:¬ a.nat < (Post.addr (rdL dP l i)).nat:=of_decide_eq_false hlt
    exact Wp.brnT bi (Wp.brnT hfit (Wp.again ⟨i + 1,put,_,rfl,by omega,by rw [hp] at hol0 ⊢; simp [a2E] at hol0 ⊢; omega,.inl ⟨hp,keep hp hlt⟩⟩ hm))
  ·
   have hp:put = true:=b3E hp
   simp only [a3A (show i < 9223372036854775808 by omega),a3S (show i + 1 < 9223372036854775808 by omega)]
   exact Wp.brnF rfl (Wp.brnT bi (Wp.brnT hfit (Wp.again ⟨i + 1,put,_,rfl,by omega,by rw [hp] at hol0 ⊢; simp [a2E] at hol0 ⊢; omega,.inr ⟨hp,keep2 hp⟩⟩ hm)))
 ·
  have hc:=of_decide_eq_false hc
  have hi':i = l.length:=by omega
  subst hi'
  refine Wp.done ?_
  rcases hcase with ⟨rfl,h⟩ | ⟨rfl,h⟩
  ·
   rw [List.drop_length] at h
   refine Wp.brnT rfl (Wp.brnT (b4G (by show (out ++ [_]).length ≤ _; simp; omega)) ?_)
   show some ((out ++ [g1G a],(I.of .i64 0,())),()) = _
   rw [← h]; rfl
  ·
   rw [List.drop_length,List.append_nil] at h
   refine Wp.brnF rfl ?_
   rw [h]; rfl
end Sym

/- Pricer: the reference's report. -/
namespace Sym
open Go
theorem c5L (s:PrT) (hl:s.posters.length ≤ 1073741824):a7F K0 ((s,()),()) = some ((prV s,()),()):=by
 refine Wp.out (T:=fun o=>o = _) ?_
 unfold a7F
 refine Wp.jnI (Wp.optF (c1F (l:=s.posters) hl) ?_)
 refine Wp.brn (fun h=>?_) (fun h=>?_)
 ·
  have h:c5F s.posters = false:=b3C h
  unfold prV; rw [h,Bool.false_and,Bool.and_false]; rfl
 have hT:c5F s.posters = true:=b3E h
 refine Wp.optF (b7Z s.surplus) ?_
 refine Wp.brn (fun h=>?_) (fun h=>?_)
 ·
  have h:a9X s.surplus = false:=b3C h
  unfold prV; rw [h,Bool.and_false,Bool.and_false]; rfl
 have hS:a9X s.surplus = true:=b3E h
 simp only [b1E,a8S,c0B,b4I]
 obtain ⟨l,hl'⟩:∃ l,l = s.posters:=⟨_,rfl⟩
 rw [← hl'] at hl
 refine Wp.iter (fun t=>∃ i,t = ((i6 i,()),(s,()))∧i ≤ l.length∧∀ k,k < i→(Post.since (rdL dP l k)).nat ≤ s.reports.nat) (fun t=>l.length - t.1.1.val.toNat) ?_ ⟨0,rfl,by omega,by intro k hk; omega⟩ (by rw [a7L]; show l.length - _ < _; omega)
 rintro t ⟨i,rfl,hi,hinv⟩
 have e:s.2.2.2.2.2.1 = l:=hl'.symm
 simp only [e,a2U (show i < 9223372036854775808 by omega) (show l.length < 9223372036854775808 by omega),a3A (show i < 9223372036854775808 by omega),a3S (show i + 1 < 9223372036854775808 by omega)]
 refine Wp.brn (fun hc=>?_) (fun hc=>?_)
 ·
  have hc:=of_decide_eq_true hc
  refine Wp.brnT (a3F (by omega) (by omega)) ?_
  simp only [c1T]
  refine Wp.brn (fun h=>?_) (fun h=>?_)
  ·
   have h:s.reports.nat < (Post.since (rdL dP l i)).nat:=of_decide_eq_true h
   refine Wp.done ?_
   have:prV s = false:=by
    cases hv:prV s with
    | false=>rfl
    | true =>
     have:=(prV_t.1 hv).1 (rdL dP l i) (by rw [← hl']; exact b8U dP _ i hc)
     omega
   rw [this]
   rfl
  ·
   have h:¬ s.reports.nat < (Post.since (rdL dP l i)).nat:=of_decide_eq_false h
   refine Wp.again ⟨i + 1,rfl,by omega,fun k hk=>?_⟩ (by show l.length - (i6 (i + 1)).val.toNat < l.length - (i6 i).val.toNat; rw [a0W (by omega),a0W (by omega)]; omega)
   by_cases hki:k = i
   ·
    subst hki; omega
   ·
    exact hinv k (by omega)
 ·
  have hc:=of_decide_eq_false hc
  refine Wp.done ?_
  have:prV s = true:=by
   refine prV_t.2 ⟨fun p hp=>?_,tabB_t.1 hT,hS⟩
   rw [← hl'] at hp
   obtain ⟨k,hk,rfl⟩:=c2F dP hp
   exact hinv k (by omega)
  rw [this]
  rfl
theorem d6L (s:PrT) (a:I .u64) (hl:s.posters.length ≤ 1073741824):a8E K0 ((s,(a,())),()) = some (((a8N s a).1,((a8N s a).2,())),()):=by
 refine Wp.out (T:=fun o=>o = _) ?_
 unfold a8E a8N
 refine Wp.optF (c5L s hl) ?_
 refine Wp.brn (fun h=>?_) (fun h=>?_)
 ·
  have h:prV s = false:=b3C h
  rw [if_neg (by rw [h]; simp)]; rfl
 have h:prV s = true:=b3E h
 rw [if_pos h]
 refine Wp.optF (f5C s.posters a hl) ?_
 refine Wp.brn (fun h=>?_) (fun h=>?_)
 ·
  have h:¬ (d2T s.posters a).2.val = 0:=iff_neb.1 h
  rw [if_neg h]; rfl
 ·
  have h:(d2T s.posters a).2.val = 0:=niff_neb.1 h
  rw [if_pos h]; rfl
theorem c7X (a b:I .u64):I.add a b = I.of .u64 ((a.nat + b.nat:Nat):Int):=by
 unfold I.add
 rw [← a2G a,← a2G b]
 rfl
theorem d9W (s:PrT) (n:I .u64) (hl:s.posters.length ≤ 1073741824):a9A K0 ((s,(n,())),()) = some (((a7M s n).1,((a7M s n).2,())),()):=by
 refine Wp.out (T:=fun o=>o = _) ?_
 unfold a9A a7M
 refine Wp.optF (c5L s hl) ?_
 refine Wp.brn (fun h=>?_) (fun h=>?_)
 ·
  have h:prV s = false:=b3C h
  rw [if_neg (by rw [h]; simp)]; rfl
 have h:prV s = true:=b3E h
 rw [if_pos h]
 have hu:=a3M s.units
 have hn:=a3M n
 have hw:(I.add s.units n).nat = (s.units.nat + n.nat) % 18446744073709551616:=by
  rw [c7X]
  have h1:(I.of .u64 ((s.units.nat + n.nat:Nat):Int)).val = ((s.units.nat + n.nat:Nat):Int) % 18446744073709551616:=rfl
  have:=a2G (I.of .u64 ((s.units.nat + n.nat:Nat):Int))
  omega
 refine Wp.brn (fun h=>?_) (fun h=>?_)
 ·
  rw [c1T] at h
  have h:(I.add s.units n).nat < n.nat:=of_decide_eq_true h
  rw [if_neg (by omega)]; rfl
 ·
  rw [c1T] at h
  have h:¬ (I.add s.units n).nat < n.nat:=of_decide_eq_false h
  rw [if_pos (by omega)]
  refine Wp.brnT (b4G hl) ?_
  rw [← c7X]
  rfl
noncomputable def c5C (s:PrT) (p:Prm) (r:RepT) (now:I .u64):I .i64 :=
 if prV s = true then
  if a7O p = true then
   if atN s.posters r.from' < s.posters.length then
    if s.last.nat ≤ r.upto.nat∧r.upto.nat ≤ now.nat then
     if r.cost.val < c5W then I.of .i64 0
     else I.of .i64 2
    else I.of .i64 14
   else I.of .i64 8
  else I.of .i64 15
 else I.of .i64 2
theorem e0X (s:PrT) (p:Prm) (r:RepT) (now:I .u64) :
  ((c5C s p r now).val = 0∧((c4X s p r now).val = 0 ∨ (s.reports.nat = 18446744073709551615∧c4X s p r now = I.of .i64 4))) ∨ ((c5C s p r now).val ≠ 0∧c4X s p r now = c5C s p r now):=by
 unfold c5C c4X
 split
 ·
  split
  ·
   split
   ·
    split
    ·
     split
     ·
      left
      refine ⟨rfl,?_⟩
      split
      ·
       rename_i h; exact .inr ⟨h,rfl⟩
      ·
       exact .inl rfl
     ·
      exact .inr ⟨by decide,rfl⟩
    ·
     exact .inr ⟨by decide,rfl⟩
   ·
    exact .inr ⟨by decide,rfl⟩
  ·
   exact .inr ⟨by decide,rfl⟩
 ·
  exact .inr ⟨by decide,rfl⟩
theorem d9C {s:PrT} {p:Prm} {r:RepT} {now:I .u64} (h:(c5C s p r now).val = 0):prV s = true∧a7O p = true∧atN s.posters r.from' < s.posters.length∧(s.last.nat ≤ r.upto.nat∧r.upto.nat ≤ now.nat)∧r.cost.val < c5W:=by
 unfold c5C at h
 split at h
 ·
  rename_i h1
  split at h
  ·
   rename_i h2
   split at h
   ·
    rename_i h3
    split at h
    ·
     rename_i h4
     split at h
     ·
      rename_i h5; exact ⟨h1,h2,h3,h4,h5⟩
     ·
      exact absurd h (by decide)
    ·
     exact absurd h (by decide)
   ·
    exact absurd h (by decide)
  ·
   exact absurd h (by decide)
 ·
  exact absurd h (by decide)
theorem f1Q (s:PrT) (p:Prm) (r:RepT) (now:I .u64) (hl:s.posters.length ≤ 1073741824) :
  b1P K0 ((s,(p,(r,(now,())))),()) = some ((c5C s p r now,()),()):=by
 refine Wp.out (T:=fun o=>o = _) ?_
 unfold b1P c5C
 refine Wp.optF (c5L s hl) ?_
 refine Wp.brn (fun h=>?_) (fun h=>?_)
 ·
  have h:prV s = false:=b3C h
  rw [if_neg (by rw [h]; simp)]; rfl
 have h:prV s = true:=b3E h
 rw [if_pos h]
 refine Wp.optF (b5X p) ?_
 refine Wp.brn (fun h=>?_) (fun h=>?_)
 ·
  have h:a7O p = false:=b3C h
  rw [if_neg (by rw [h]; simp)]; rfl
 have h:a7O p = true:=b3E h
 rw [if_pos h]
 refine Wp.optF (c9I (l:=s.posters) r.from' hl) ?_
 rw [show (((atI s.posters r.from',()),()):((I .i64) × Unit) × Unit).1.1 = atI s.posters r.from' from rfl,d5D hl]
 refine Wp.brn (fun h=>?_) (fun h=>?_)
 ·
  rw [if_neg (of_decide_eq_true h)]; rfl
 rw [if_pos (by simpa using of_decide_eq_false h)]
 refine Wp.jnI ?_
 simp only [c1T]
 refine Wp.brn (fun h=>?_) (fun h=>?_)
 ·
  have h:r.upto.nat < s.last.nat:=of_decide_eq_true h
  rw [if_neg (by omega)]; rfl
 have h1:¬ r.upto.nat < s.last.nat:=of_decide_eq_false h
 refine Wp.brn (fun h=>?_) (fun h=>?_)
 ·
  have h:now.nat < r.upto.nat:=of_decide_eq_true h
  rw [if_neg (by omega)]; rfl
 have h2:¬ now.nat < r.upto.nat:=of_decide_eq_false h
 rw [if_pos (by omega)]
 refine Wp.call (e6Z r.cost) ?_
 rintro _ ⟨k,rfl,hB,hk⟩
 rw [show (((i6 k,()),()):((I .i64) × Unit) × Unit).1.1 = i6 k from rfl,f8C hB hk]
 refine Wp.brn (fun h=>?_) (fun h=>?_)
 ·
  rw [if_neg (of_decide_eq_true h)]; rfl
 rw [if_pos (Classical.byContradiction (of_decide_eq_false h))]
 rfl
theorem e7D (s:PrT) (p:Prm) (pool:U) (r:RepT) (now:I .u64) (hl:s.posters.length ≤ 1073741824) :
  b0N K0 ((s,(p,(pool,(r,(now,()))))),()) = some (((b3H s p pool r now).1,((b3H s p pool r now).2.1,((b3H s p pool r now).2.2,()))),()):=by
 refine Wp.out (T:=fun o=>o = _) ?_
 unfold b0N b3H
 refine Wp.optF (f1Q s p r now hl) ?_
 have hcc:=e0X s p r now
 refine Wp.brn (fun h=>?_) (fun h=>?_)
 ·
  have h:¬ (c5C s p r now).val = 0:=iff_neb.1 h
  rcases hcc with ⟨h',_⟩ | ⟨_,h'⟩
  ·
   exact absurd h' h
  rw [h',if_neg h]
  rfl
 have h0:(c5C s p r now).val = 0:=niff_neb.1 h
 have ⟨f1,f2,f3,f4,f5⟩:=d9C h0
 refine Wp.optF (e9W s.units s.last r.upto now f4.1 f4.2) ?_
 have hle:=d0S (units:=s.units) f4.1 f4.2
 have hu:=a3M s.units
 have hnv:(I.of .u64 (b7F s.units s.last r.upto now:Int)).nat = b7F s.units s.last r.upto now:=b8Y (by omega)
 have e:U.val (I.of .u64 (b7F s.units s.last r.upto now:Int),(I.of .u64 0,(I.of .u64 0,(I.of .u64 0,())))) = c4E s r now:=(c4O _).trans hnv
 have hM:=e7B p.rpu (I.of .u64 (b7F s.units s.last r.upto now:Int),(I.of .u64 0,(I.of .u64 0,(I.of .u64 0,()))))
 rw [e] at hM
 refine Wp.optF hM (Wp.jnI ?_)
 rcases hcc with ⟨_,hcs⟩ | ⟨h',_⟩
 case inr=>exact absurd h0 h'
 simp only [e7V]
 refine Wp.brn (fun hw=>?_) (fun hw=>?_)
 ·
  have hw:¬ p.rpu.val * c4E s r now < U.top:=of_decide_eq_true hw
  rcases hcs with hcs | ⟨_,hcs⟩
  ·
   rw [if_pos hcs,if_neg hw]; rfl
  ·
   rw [hcs,if_neg b6W]; rfl
 have hw:=of_decide_eq_false hw
 have hw:p.rpu.val * c4E s r now < U.top:=by omega
 rw [c5V hw]
 rcases hcs with hcs | ⟨hmax,hcs⟩
 case inr =>
  refine Wp.brnT ?_ ?_
  ·
   have hv:=a2G s.reports
   rw [c7X,hmax]
   rfl
  ·
   rw [hcs,if_neg b6W]; rfl
 have hC:=d4L hcs
 have hcnt:=d9M hC
 rw [if_pos hcs,if_pos hw]
 refine Wp.brnF (by rw [d1V]; exact decide_eq_false (by show ¬ (I.add s.reports (I.of .u64 1)).nat = 0; rw [hcnt]; omega)) ?_
 refine Wp.optF (e5C s.posters r.from' r.cost (U.of (p.rpu.val * c4E s r now)) (I.add s.reports (I.of .u64 1)) hC.tab hC.fnd (by rw [hcnt]; omega)) ?_
 have hA:=d4M (c:=r.cost) (w:=U.of (p.rpu.val * c4E s r now)) (since:=I.add s.reports (I.of .u64 1)) hC.tab hC.fnd (by rw [hcnt]; omega)
 have hL:b7B s.posters r.from' r.cost (U.of (p.rpu.val * c4E s r now)) (I.add s.reports (I.of .u64 1)) = b4L s p r now:=rfl
 rw [hL] at hA ⊢
 rcases hA with ⟨hA,_⟩ | ⟨hA,_,_,hT⟩
 ·
  rw [if_neg (by rw [hA]; exact b6W)]
  simp only [hA]
  exact Wp.brnT rfl rfl
 rw [if_pos (by rw [hA]; rfl)]
 simp only [hA]
 refine Wp.brnF rfl ?_
 generalize (b4L s p r now).1 = l at hT ⊢
 have hl64:=hT.1
 have hP:=f5S l pool (by omega)
 rw [f5B hT pool] at hP
 refine Wp.optF hP ?_
 have hpl:=d3Y l pool
 refine Wp.optF (e8L l (b2N (ord l) pool.val) (by omega) (by show (a2D l pool).length ≤ _; omega)) ?_
 rw [show b2N (ord l) pool.val = a2D l pool from rfl]
 rcases d9I hT pool with hB | ⟨hB,hT2,_,_,hdu⟩
 ·
  rw [if_neg (by rw [hB]; exact b6W)]
  simp only [hB]
  exact Wp.brnT rfl rfl
 rw [if_pos (by rw [hB]; rfl)]
 simp only [hB]
 refine Wp.brnF rfl ?_
 have hsum:=e5Z l pool
 have hpo:=pool.lt
 have hps:b2A ((a2D l pool).map amt) < U.top:=by omega
 refine Wp.optF (e8F (l:=a2D l pool) (by omega)) ?_
 rw [c5V hps]
 refine Wp.optF (c1G pool _) ?_
 have hsv:(U.of (b2A ((a2D l pool).map amt))).val = b2A ((a2D l pool).map amt):=U.val_of hps
 have hsub:(e8Q pool (U.of (b2A ((a2D l pool).map amt)))).1 = U.of (pool.val - b2A ((a2D l pool).map amt)):=by
  unfold e8Q
  rw [hsv,if_pos (by omega)]
 refine Wp.optF (d7O (by have:=hT2.1; omega) hT2) ?_
 unfold c5K
 have e1:(c0S s (a3B l (a2D l pool)).1).posters = (a3B l (a2D l pool)).1:=rfl
 rw [e1]
 simp only [e7V]
 refine Wp.brn (fun hd=>?_) (fun hd=>?_)
 ·
  have hd:=of_decide_eq_true hd
  simp only [if_neg hd]
  rw [if_neg b6W]; rfl
 have hd:=of_decide_eq_false hd
 have hd:b2A ((a3B l (a2D l pool)).1.map b7I) < U.top:=by omega
 simp only [if_pos hd,hsub]
 rw [c5V hd]
 refine Wp.optF (f3M _ _) (Wp.jnI ?_)
 have hz:S.of (((U.of (pool.val - b2A ((a2D l pool).map amt))).val:Int) - ((U.of (b2A ((a3B l (a2D l pool)).1.map b7I))).val:Int)) = c4V pool (a3B l (a2D l pool)).1 (a2D l pool):=by
  unfold c4V
  rw [U.val_of hd,U.val_of (by omega)]
 simp only [hz]
 have hn1:(b8G s p r now (a2D l pool)).1.nat = c4E s r now:=hnv
 rw [hn1]
 have e0:(I.of .u64 0).nat = 0:=rfl
 simp only [c1T]
 rw [e0,show (I.of .u64 (b7F s.units s.last r.upto now:Int)).nat = c4E s r now from hnv]
 refine Wp.brn (fun hp=>?_) (fun hp=>?_)
 ·
  have hp:=of_decide_eq_true hp
  simp only [if_neg (show ¬ c4E s r now = 0 by omega)]
  refine Wp.optF (f5F _ _ _ _ _) ?_
  refine Wp.brn (fun hN=>?_) (fun hN=>?_)
  ·
   have hN:I.neb (c2M s.price (c4V pool (a3B l (a2D l pool)).1 (a2D l pool)) s.surplus (I.of .u64 (b7F s.units s.last r.upto now:Int)) p).2 (I.of .i64 0) = true:=hN
   have hN2:I.neb (c2M (c0S s (a3B l (a2D l pool)).1).price (c4V pool (a3B l (a2D l pool)).1 (b8G s p r now (a2D l pool)).2.2.1) (c0S s (a3B l (a2D l pool)).1).surplus (b8G s p r now (a2D l pool)).1 p).2 (I.of .i64 0) = true:=hN
   simp only [if_pos hN2]
   have:¬ (c2M (c0S s (a3B l (a2D l pool)).1).price (c4V pool (a3B l (a2D l pool)).1 (b8G s p r now (a2D l pool)).2.2.1) (c0S s (a3B l (a2D l pool)).1).surplus (b8G s p r now (a2D l pool)).1 p).2.val = 0:=iff_neb.1 hN2
   rw [if_neg this]; rfl
  ·
   have hN:I.neb (c2M s.price (c4V pool (a3B l (a2D l pool)).1 (a2D l pool)) s.surplus (I.of .u64 (b7F s.units s.last r.upto now:Int)) p).2 (I.of .i64 0) = false:=hN
   have hN2:¬ I.neb (c2M (c0S s (a3B l (a2D l pool)).1).price (c4V pool (a3B l (a2D l pool)).1 (b8G s p r now (a2D l pool)).2.2.1) (c0S s (a3B l (a2D l pool)).1).surplus (b8G s p r now (a2D l pool)).1 p).2 (I.of .i64 0) = true:=fun h=>by
    have h:I.neb (c2M s.price (c4V pool (a3B l (a2D l pool)).1 (a2D l pool)) s.surplus (I.of .u64 (b7F s.units s.last r.upto now:Int)) p).2 (I.of .i64 0) = true:=h
    rw [hN] at h; cases h
   simp only [if_neg hN2]
   rw [if_pos (show (I.of .i64 0).val = 0 from rfl)]; rfl
 ·
  have hp:=of_decide_eq_false hp
  have hp0:c4E s r now = 0:=by omega
  simp only [if_pos hp0]
  rw [if_pos (show (I.of .i64 0).val = 0 from rfl)]; rfl
end Sym

/- The machine of the reference: numbers that need not fit, the ledger. -/
namespace Sym
open Go
theorem f2P (a q:Nat):U.of (a + U.top * q) = U.of a:=by
 unfold U.of U.top
 have h0:(a + 115792089237316195423570985008687907853269984665640564039457584007913129639936 * q) % 18446744073709551616 = a % 18446744073709551616:=by omega
 have h1:(a + 115792089237316195423570985008687907853269984665640564039457584007913129639936 * q) / 18446744073709551616 % 18446744073709551616 = a / 18446744073709551616 % 18446744073709551616:=by omega
 have h2:(a + 115792089237316195423570985008687907853269984665640564039457584007913129639936 * q) / 340282366920938463463374607431768211456 % 18446744073709551616 = a / 340282366920938463463374607431768211456 % 18446744073709551616:=by omega
 have h3:(a + 115792089237316195423570985008687907853269984665640564039457584007913129639936 * q) / 6277101735386680763835789423207666416102355444464034512896 % 18446744073709551616 = a / 6277101735386680763835789423207666416102355444464034512896 % 18446744073709551616:=by omega
 rw [h0,h1,h2,h3]
theorem c2L {l:List Dg} {n:Nat} (hl:IsB l n) (hlen:l.length ≤ 1000000):a0J K0 ((l,()),()) = some ((U.of n,()),()):=by
 have ht:U.top = 65536 ^ 16:=by decide
 have c16:(I.of .i64 16).val = 16:=rfl
 have c4:(I.of .i64 4).val = 4:=rfl
 have c1:(I.of .i64 1).val = 1:=rfl
 have hol:(I.ofNat .i64 (a0K l)).val = l.length:=a3I (by show l.length < _; omega)
 have key:Wp (fun o=>o = some ((U.of n,()),())) (a0J K0 ((l,()),())):=by
  unfold a0J
  refine Wp.iter (fun x=>x.1.1 = l∧0 ≤ x.1.2.1.val∧x.1.2.1.val ≤ (l.length:Int)∧x.1.2.1.val ≤ 16∧U.val x.2.2.1 = bv (l.take x.1.2.1.val.toNat)) (fun x=>((l.length:Int) - x.1.2.1.val).toNat) ?_ ?_ ?_
  ·
   rintro ⟨⟨l',i,⟨⟩⟩,r0,u,⟨⟩⟩ ⟨e1,hi0,hi1,hi2,hu⟩
   simp only at e1 hi0 hi1 hi2 hu
   subst e1
   have fin:i.val.toNat = min 16 l'.length→u = U.of n:=by
    intro e
    have e16:l'.take i.val.toNat = l'.take 16:=by rw [e,List.take_eq_take_iff]; simp
    rw [e16] at hu
    have hn:n = bv (l'.take 16) + U.top * bv (l'.drop 16):=by
     rw [← hl.val]
     conv=>lhs; rw [← List.take_append_drop 16 l',c2S]
     by_cases hc:l'.length ≤ 16
     ·
      rw [List.drop_eq_nil_of_le hc]
      rfl
     ·
      rw [List.length_take,Nat.min_eq_left (by omega),ht]
    rw [hn,f2P,← hu]
    exact (U.of_val u).symm
   refine Wp.brn (fun h=>?_) (fun h=>?_)
   ·
    have h:=iff_ltb.1 h
    simp only [hol] at h
    have hlt:i.val.toNat < l'.length:=by omega
    refine Wp.brn (fun h16=>?_) (fun h16=>?_)
    case refine_2 =>
     have h16:(I.of .i64 16).val ≤ i.val:=niff_ltb.1 h16
     have:=fin (by omega)
     subst this
     exact Wp.done rfl
    have h16:i.val < (I.of .i64 16).val:=iff_ltb.1 h16
    have hq:(I.quo i (I.of .i64 4)).val = i.val / 4:=b8H hi0 (by decide)
    have hr:(I.rem i (I.of .i64 4)).val = i.val % 4:=b6V hi0 (by decide)
    have hs:(I.add i (I.of .i64 1)).val = i.val + 1:=by rw [a5L (by omega)]; omega
    have hm:(I.mul (I.of .i64 16) (I.rem i (I.of .i64 4))).val = 16 * (i.val % 4):=by rw [c3J (by rw [c16,hr]; omega),hr,c16]
    have hin:inB (I.quo i (I.of .i64 4)) 4 = true:=iff_inB.2 ⟨by omega,by omega⟩
    refine Wp.brnT hin ?_
    refine Wp.brnT (iff_inB.2 ⟨hi0,by show i.val < ((l'.length:Nat):Int); omega⟩) ?_
    refine Wp.brnT (c2Q _) ?_
    refine Wp.brnT hin ?_
    have hdig:DigOk l'[i.val.toNat]:=hl.dig _ (List.getElem_mem hlt)
    have hrd:rdL (I.of .i64 0) l' (I.nat i) = l'[i.val.toNat]:=a4P _ _ _ hlt
    have e1:I.nat (I.quo i (I.of .i64 4)) = i.val.toNat / 4:=by unfold I.nat; omega
    have e2:I.conv .u64 (I.mul (I.of .i64 16) (I.rem i (I.of .i64 4))) = I.of .u64 (16 * (i.val.toNat % 4):Nat):=by
     show I.of .u64 _ = _
     rw [hm]
     congr 1
     omega
    have e3:I.conv .u64 (rdL (I.of .i64 0) l' (I.nat i)) = I.of .u64 ((l'[i.val.toNat]).nat:Int):=by
     show I.of .u64 _ = _
     rw [hrd,hdig.nat.1]
    have hub:U.val u < 65536 ^ i.val.toNat:=by
     rw [hu]
     have:=e0C (c0Z hl.dig i.val.toNat)
     rw [List.length_take] at this
     rwa [Nat.min_eq_left (by omega)] at this
    have st:=e4N u (l'[i.val.toNat]).nat i.val.toNat (by omega) hub hdig.nat.2
    refine Wp.again ⟨rfl,?_,?_,by show (I.add i (I.of .i64 1)).val ≤ 16; omega,?_⟩ ?_
    ·
     show 0 ≤ (I.add i (I.of .i64 1)).val; omega
    ·
     show (I.add i (I.of .i64 1)).val ≤ _; omega
    ·
     show U.val (Arr.upd 4 u (I.nat (I.quo i (I.of .i64 4))) (I.add (Arr.sel (I.of .u64 0) 4 u (I.nat (I.quo i (I.of .i64 4)))) (I.shl (I.conv .u64 (rdL (I.of .i64 0) l' (I.nat i))) (I.conv .u64 (I.mul (I.of .i64 16) (I.rem i (I.of .i64 4))))))) = bv (l'.take (I.add i (I.of .i64 1)).val.toNat)
     have e4:(I.add i (I.of .i64 1)).val.toNat = i.val.toNat + 1:=by omega
     rw [e1,e2,e3,e4,st,c3O hlt,← hu]
    ·
     show ((l'.length:Int) - (I.add i (I.of .i64 1)).val).toNat < _
     simp only; omega
   ·
    have h:=niff_ltb.1 h
    simp only [hol] at h
    have:=fin (by omega)
    subst this
    exact Wp.done rfl
  ·
   refine ⟨rfl,by show 0 ≤ (I.of .i64 0).val; decide,by show (I.of .i64 0).val ≤ (l.length:Int); have:(I.of .i64 0).val = 0:=rfl; omega,by show (I.of .i64 0).val ≤ 16; decide,?_⟩
   show U.val _ = bv (l.take (I.of .i64 0).val.toNat)
   rfl
  ·
   exact b7V _ (by show ((l.length:Int) - (I.of .i64 0).val).toNat < _; have:(I.of .i64 0).val = 0:=rfl; omega)
 exact key.out
end Sym

/- The ledger of the reference. -/
namespace Sym
open Go
abbrev Ac:Type:=a0E
abbrev V4:Type:=c6G
noncomputable abbrev dA:Ac:=a4Y
abbrev LgH:Type:=a0P
def aAt (l:List Ac) (a:I .u64):Nat:=l.findIdx fun p=>I.eqb p.1 a
def aAI (l:List Ac) (a:I .u64):I .i64:=if aAt l a < l.length then i6 (aAt l a) else I.of .i64 (-1)
theorem g3K {l:List Ac} {a:I .u64} {i:Nat} (hi:i < l.length) (h1:I.eqb (rdL dA l i).1 a = true) (h2:∀ k,k < i→I.eqb (rdL dA l k).1 a = false):aAt l a = i:=by
 unfold aAt
 rw [List.findIdx_eq hi]
 refine ⟨by rw [← a4P dA l i hi]; exact h1,fun k hk=>?_⟩
 rw [← a4P dA l k (by omega)]
 exact h2 k hk
theorem f5D {l:List Ac} {a:I .u64} (h2:∀ k,k < l.length→I.eqb (rdL dA l k).1 a = false):aAt l a = l.length:=by
 unfold aAt
 rw [List.findIdx_eq_length]
 intro x hx
 obtain ⟨k,hk,rfl⟩:=c2F dA hx
 exact h2 k hk
theorem at_eq (l:List Ac) (v:V4 × Unit) (a:I .u64) (hl:l.length ≤ 1073741824):a6I K0 (((l,v),(a,())),()) = some ((aAI l a,()),()):=by
 refine Wp.out (T:=fun o=>o = some ((aAI l a,()),())) ?_
 unfold a6I
 simp only [b1E,a8S,c0B,b4I]
 refine Wp.iter (fun s=>∃ i,s = (((l,v),(a,(i6 i,()))),())∧i ≤ l.length∧∀ k,k < i→I.eqb (rdL dA l k).1 a = false) (fun s=>l.length - s.1.2.2.1.val.toNat) ?_ ⟨0,rfl,by omega,fun k hk=>by omega⟩ ?_
 ·
  rintro s ⟨i,rfl,hi,ht⟩
  simp only [a2U (show i < 9223372036854775808 by omega) (show l.length < 9223372036854775808 by omega),a3A (show i < 9223372036854775808 by omega),a3S (show i + 1 < 9223372036854775808 by omega)]
  refine Wp.brn (fun hc=>?_) (fun hc=>?_)
  ·
   have hc:=of_decide_eq_true hc
   refine Wp.brnT (a3F (by omega) (by omega)) ?_
   refine Wp.brn (fun h=>?_) (fun h=>?_)
   ·
    refine Wp.done ?_
    have e:=g3K hc h ht
    unfold aAI
    rw [e,if_pos hc]
    rfl
   ·
    refine Wp.again ⟨i + 1,rfl,by omega,fun k hk=>?_⟩ (by show l.length - (i6 (i + 1)).val.toNat < l.length - (i6 i).val.toNat; rw [a0W (by omega),a0W (by omega)]; omega)
    rcases (by omega:k < i ∨ k = i) with h3 | rfl
    ·
     exact ht k h3
    ·
     exact h
  ·
   have hc:=of_decide_eq_false hc
   refine Wp.done ?_
   have e:=f5D fun k hk=>ht k (by omega)
   unfold aAI
   rw [if_neg (by omega)]
   rfl
 ·
  rw [a7L]
  show l.length - _ < _
  omega
theorem d7B {l:List Ac} {a:I .u64} (hl:l.length ≤ 1073741824):I.leb (I.of .i64 0) (aAI l a) = decide (aAt l a < l.length):=by
 unfold aAI
 by_cases h:aAt l a < l.length
 ·
  rw [if_pos h,decide_eq_true h]
  exact iff_leb.2 (by rw [a0W (by omega),show (I.of .i64 0).val = 0 from rfl]; omega)
 ·
  rw [if_neg h,decide_eq_false h]
  exact niff_leb.2 (by decide)
noncomputable def c3F (l:List Ac) (a:I .u64):Ac:=if aAt l a < l.length then rdL dA l (aAt l a) else (a,(Z_U,((I.of .u64 0),())))
def f4F (l:List Ac) (x:Ac):List Ac:=if aAt l x.1 < l.length then c0N l (aAt l x.1) x else l ++ [x]
theorem d7N (l:List Ac) (v:V4 × Unit) (a:I .u64) (hl:l.length ≤ 1073741824):a2Y K0 (((l,v),(a,())),()) = some ((c3F l a,()),()):=by
 refine Wp.out (T:=fun o=>o = some ((c3F l a,()),())) ?_
 unfold a2Y
 refine Wp.optF (at_eq l v a hl) ?_
 refine Wp.brn (fun h=>?_) (fun h=>?_)
 ·
  have h:I.leb (I.of .i64 0) (aAI l a) = true:=h
  rw [d7B hl] at h
  have h:=of_decide_eq_true h
  have e:aAI l a = i6 (aAt l a):=by unfold aAI; rw [if_pos h]
  refine Wp.brnT (by show inB (aAI l a) (a0K l) = true; rw [e]; exact a3F h (by omega)) ?_
  show some ((rdL dA l (I.nat (aAI l a)),()),()) = _
  rw [e,a3A (by omega)]
  unfold c3F
  rw [if_pos h]
 ·
  have h:I.leb (I.of .i64 0) (aAI l a) = false:=h
  rw [d7B hl] at h
  have h:=of_decide_eq_false h
  show some (((a,(Z_U,((I.of .u64 0),()))),()),()) = _
  unfold c3F
  rw [if_neg h]
theorem put_eq (l:List Ac) (h0:LgH) (x:Ac) (hl:l.length < 1073741824):a4M K0 ((x,()),(h0,(l,()))) = some ((),(h0,(f4F l x,()))):=by
 refine Wp.out (T:=fun o=>o = some ((),(h0,(f4F l x,())))) ?_
 unfold a4M
 refine Wp.optF (at_eq l h0.2 x.1 (by omega)) ?_
 refine Wp.brn (fun h=>?_) (fun h=>?_)
 ·
  have h:I.leb (I.of .i64 0) (aAI l x.1) = true:=h
  rw [d7B (by omega)] at h
  have h:=of_decide_eq_true h
  have e:aAI l x.1 = i6 (aAt l x.1):=by unfold aAI; rw [if_pos h]
  refine Wp.brnT (by show inB (aAI l x.1) (a0K l) = true; rw [e]; exact a3F h (by omega)) ?_
  show some ((),(h0,(c0N l (I.nat (aAI l x.1)) x,()))) = _
  rw [e,a3A (by omega)]
  unfold f4F
  rw [if_pos h]
 ·
  have h:I.leb (I.of .i64 0) (aAI l x.1) = false:=h
  rw [d7B (by omega)] at h
  have h:=of_decide_eq_false h
  refine Wp.brnT (b4G (by show (l ++ [x]).length ≤ _; rw [List.length_append]; show l.length + 1 ≤ _; omega)) ?_
  show some ((),(h0,(l ++ [x],()))) = _
  unfold f4F
  rw [if_neg h]
theorem d6F {X:Type} (l:List X) (i:Nat) (x:X):(c0N l i x).length = l.length:=by rw [c0N,a7G,List.length_set]
theorem d6X (l:List Ac) (x:Ac):(f4F l x).length ≤ l.length + 1:=by
 unfold f4F
 split
 ·
  rw [d6F]; omega
 ·
  simp
def e3L (x:Ac) (n:U):Ac:=(x.1,(n,x.2.2))
noncomputable def c7P (l:List Ac) (a:I .u64) (n:U):List Ac:=f4F l (e3L (c3F l a) (U.of ((c3F l a).2.1.val + n.val)))
noncomputable def b1Q (l:List Ac) (a:I .u64) (n:U):Bool:=decide (n.val ≤ (c3F l a).2.1.val)
noncomputable def c1I (l:List Ac) (a:I .u64) (n:U):List Ac:=if n.val ≤ (c3F l a).2.1.val then f4F l (e3L (c3F l a) (U.of ((c3F l a).2.1.val - n.val))) else l
theorem e2L {l:List Dg} {a:U} (h:IsB l a.val):l.length ≤ 1000000:=b3K h (k:=16) (Nat.lt_of_lt_of_le (U.lt a) (by decide)) (by decide)
theorem f2F {l:List Dg} {n:Nat} (h:IsB l n) (hn:n < U.top + U.top):l.length ≤ 1000000:=b3K h (k:=17) (Nat.lt_of_lt_of_le hn (by decide)) (by decide)
theorem d7V (l:List Ac) (h0:LgH) (a:I .u64) (n:U) (hl:l.length < 1073741824):a4Q K0 ((a,(n,())),(h0,(l,()))) = some ((),(h0,(c7P l a n,()))):=by
 refine Wp.out (T:=fun o=>o = some ((),(h0,(c7P l a n,())))) ?_
 unfold a4Q
 obtain ⟨b1,e1,B1⟩:=a1I (c3F l a).2.1
 obtain ⟨b2,e2,B2⟩:=a1I n
 obtain ⟨b3,e3,B3⟩:=b1W B1 B2 (e2L B1) (e2L B2)
 have e4:=c2L B3 (f2F B3 (by have:=U.lt (c3F l a).2.1; have:=U.lt n; omega))
 exact Wp.optF (d7N l h0.2 a (by omega)) (Wp.optF e1 (Wp.optF e2 (Wp.optF e3 (Wp.optF e4 (Wp.optF (put_eq l h0 (e3L (c3F l a) (U.of ((c3F l a).2.1.val + n.val))) hl) rfl)))))
theorem d6O (l:List Ac) (h0:LgH) (a:I .u64) (n:U) (hl:l.length < 1073741824):a3U K0 ((a,(n,())),(h0,(l,()))) = some ((b1Q l a n,()),(h0,(c1I l a n,()))):=by
 refine Wp.out (T:=fun o=>o = some ((b1Q l a n,()),(h0,(c1I l a n,())))) ?_
 unfold a3U
 refine Wp.optF (d7N l h0.2 a (by omega)) (Wp.optF (c1G _ n) ?_)
 unfold b1Q c1I e8Q
 by_cases h:n.val ≤ (c3F l a).2.1.val
 ·
  simp only [if_pos h,decide_eq_true h]
  refine Wp.brnF (show I.neb (I.of .i64 0) (I.of .i64 0) = false by decide) ?_
  exact Wp.optF (put_eq l h0 (e3L (c3F l a) (U.of ((c3F l a).2.1.val - n.val))) hl) rfl
 ·
  simp only [if_neg h,decide_eq_false h]
  exact Wp.brnT (show I.neb (I.of .i64 4) (I.of .i64 0) = true by decide) rfl
theorem d0L (l:List Ac) (a:I .u64) (n:U):(c7P l a n).length ≤ l.length + 1:=d6X _ _
theorem c1A (l:List Ac) (a:I .u64) (n:U):(c1I l a n).length ≤ l.length + 1:=by
 unfold c1I
 split
 ·
  exact d6X _ _
 ·
  omega
end Sym

/- The ledger of the reference: payments, the supply. -/
namespace Sym
open Go
def g4V {X R S:Type} (g:R→S):Stp X R→Stp X S
 | .again y=>.again y
 | .done r=>.done (g r)
theorem f2M {X R S:Type} (g:R→S) (c:Bool) (t f:Stp X R):g4V g (brn c t f) = brn c (g4V g t) (g4V g f):=by cases c <;> rfl
theorem e3U {X R S:Type} (g:R→S) {fail:R} {f:X→Stp X R} {f':X→Stp X S} (h:∀ x,f' x = g4V g (f x)):∀ k x,iter (g fail) f' k x = g (iter fail f k x)
 | 0,_=>rfl
 | k + 1,x=>by
  unfold iter
  rw [h x]
  cases f x with
  | again y=>exact e3U g h k y
  | done r=>rfl
def g8K (o:Option ((List Dg × Unit) × Unit)):Option (Unit × (List Dg × Unit)):=match o with
 | some y=>some ((),(y.1.1,()))
 | none=>none
theorem f3C (a b:List Dg):a8Q K0 ((a,(b,())),()) = g8K (a0X K0 ((a,(b,())),())):=by
 unfold a8Q a0X
 refine e3U g8K (fail:=none) (fun x=>?_) _ _
 unfold jn
 dsimp only
 repeat erw [f2M]
 rfl
theorem e9E {a b:List Dg} {m n:Nat} (ha:IsB a m) (hb:IsB b n) (hal:a.length ≤ 1000000) (hbl:b.length ≤ 1000000):∃ r,a8Q K0 ((a,(b,())),()) = some ((),(r,()))∧IsB r (m + n):=by
 obtain ⟨r,h,hB⟩:=b1W ha hb hal hbl
 exact ⟨r,by rw [f3C]; exact congrArg g8K h,hB⟩
def e5A (l:List Ac):Nat:=(l.map fun x=>U.val x.2.1).sum
def g2C (v:V4):Nat:=v.1.val + v.2.1.val + v.2.2.1.val + v.2.2.2.1.val
theorem e7U {l:List Ac} {i:Nat} (h:i < l.length):e5A (l.take (i + 1)) = e5A (l.take i) + U.val (rdL dA l i).2.1:=by
 unfold e5A
 rw [List.take_add_one,List.getElem?_eq_getElem h,a4P _ _ _ h,List.map_append,List.sum_append]
 simp
theorem e2D (l:List Ac) (hl:l.length ≤ 1073741824):e5A l < 65536 ^ 19:=by
 have:∀ l:List Ac,e5A l ≤ l.length * U.top:=by
  intro l
  induction l with
  | nil=>exact Nat.zero_le _
  | cons x l ih =>
   have:=U.lt x.2.1
   show U.val x.2.1 + e5A l ≤ (l.length + 1) * U.top
   rw [Nat.add_mul]
   omega
 have h1:=this l
 have h2:l.length * U.top ≤ 1073741824 * U.top:=Nat.mul_le_mul_right _ hl
 have h3:1073741824 * U.top < 65536 ^ 19:=by decide
 omega
theorem f4M {l:List Dg} {n:Nat} (h:IsB l n) (hn:n < 65536 ^ 20):l.length ≤ 1000000:=b3K h (k:=20) hn (by decide)
def d7E (v:V4) (i:Nat):Nat:=(if 0 < i then v.1.val else 0) + (if 1 < i then v.2.1.val else 0) + (if 2 < i then v.2.2.1.val else 0) + (if 3 < i then v.2.2.2.1.val else 0)
theorem e9H (v:V4) (i:Nat) (h:i < 4):d7E v (i + 1) = d7E v i + U.val (Arr.sel Z_U 4 v i):=by
 rcases (by omega:i = 0 ∨ i = 1 ∨ i = 2 ∨ i = 3) with rfl | rfl | rfl | rfl
 ·
  show d7E v 1 = d7E v 0 + U.val v.1; simp [d7E]
 ·
  show d7E v 2 = d7E v 1 + U.val v.2.1; simp [d7E]
 ·
  show d7E v 3 = d7E v 2 + U.val v.2.2.1; simp [d7E]
 ·
  show d7E v 4 = d7E v 3 + U.val v.2.2.2.1; simp [d7E]
theorem f1K (v:V4) (i:Nat):d7E v i < 65536 ^ 18:=by
 have h0:=U.lt v.1; have h1:=U.lt v.2.1; have h2:=U.lt v.2.2.1; have h3:=U.lt v.2.2.2.1
 have:4 * U.top < 65536 ^ 18:=by decide
 unfold d7E
 split <;> split <;> split <;> split <;> omega
theorem e8H (l:List Ac) (v:V4) (hl:l.length ≤ 1073741824):∃ y,a6A K0 (((l,(v,())),()),()) = some y∧∃ r,y = ((r,()),())∧IsB r (e5A l + g2C v):=by
 refine Wp.out (T:=fun o=>∃ y,o = some y∧∃ r,y = ((r,()),())∧IsB r (e5A l + g2C v)) ?_
 unfold a6A
 have hp:(65536 ^ 20:Nat) = 65536 * 65536 ^ 19:=by decide
 have hp2:(65536 ^ 19:Nat) = 65536 * 65536 ^ 18:=by decide
 have hb:=e2D l hl
 refine Wp.iter (fun s=>∃ (i:Nat) (r:List Dg),s = (((l,(v,())),(i6 i,())),(r,()))∧i ≤ l.length∧IsB r (e5A (l.take i))) (fun s=>l.length - s.1.2.1.val.toNat) ?_ ⟨0,[],rfl,by omega,⟨(fun _ h=>by cases h),trivial,rfl⟩⟩ (by rw [a7L]; show l.length - _ < _; omega)
 rintro s ⟨i,r,rfl,hi,hB⟩
 simp only [b1E,a8S,c0B,b4I,a2U (show i < 9223372036854775808 by omega) (show l.length < 9223372036854775808 by omega),a3A (show i < 9223372036854775808 by omega),a3S (show i + 1 < 9223372036854775808 by omega)]
 refine Wp.brn (fun hc=>?_) (fun hc=>?_)
 ·
  have hc:=of_decide_eq_true hc
  refine Wp.brnT (a3F (by omega) (by omega)) ?_
  obtain ⟨b1,e1,B1⟩:=a1I (rdL dA l i).2.1
  have hlt:e5A (l.take i) < 65536 ^ 20:=by
   have:=e2D (l.take i) (by rw [List.length_take]; omega)
   omega
  obtain ⟨b2,e2,B2⟩:=e9E hB B1 (f4M hB hlt) (e2L B1)
  refine Wp.optF e1 (Wp.optF e2 ?_)
  exact Wp.again ⟨i + 1,b2,rfl,by omega,by rw [e7U hc]; exact B2⟩ (by show l.length - (i6 (i + 1)).val.toNat < l.length - (i6 i).val.toNat; rw [a0W (by omega),a0W (by omega)]; omega)
 ·
  have hc:i = l.length:=by have:=of_decide_eq_false hc; omega
  subst hc
  rw [List.take_length] at hB
  refine Wp.done ?_
  refine Wp.iter (fun s=>∃ (i:Nat) (r:List Dg),s = (((l,(v,())),(i6 i,())),(r,()))∧i ≤ 4∧IsB r (e5A l + d7E v i)) (fun s=>4 - s.1.2.1.val.toNat) ?_ ⟨0,r,rfl,by omega,hB⟩ (by rw [a7L]; show 4 - 0 < _; decide)
  rintro s ⟨i,r,rfl,hi,hB⟩
  simp only [show (I.of .i64 4) = i6 4 from rfl,a2U (show i < 9223372036854775808 by omega) (show 4 < 9223372036854775808 by omega),a3A (show i < 9223372036854775808 by omega),a3S (show i + 1 < 9223372036854775808 by omega)]
  refine Wp.brn (fun hc=>?_) (fun hc=>?_)
  ·
   have hc:=of_decide_eq_true hc
   refine Wp.brnT (a3F (by omega) (by omega)) ?_
   obtain ⟨b1,e1,B1⟩:=a1I (Arr.sel Z_U 4 v i)
   have hv:=f1K v i
   obtain ⟨b2,e2,B2⟩:=e9E hB B1 (f4M hB (by omega)) (e2L B1)
   refine Wp.optF e1 (Wp.optF e2 ?_)
   exact Wp.again ⟨i + 1,b2,rfl,by omega,by rw [e9H v i hc,← Nat.add_assoc]; exact B2⟩ (by show 4 - (i6 (i + 1)).val.toNat < 4 - (i6 i).val.toNat; rw [a0W (by omega),a0W (by omega)]; omega)
  ·
   have hc:i = 4:=by have:=of_decide_eq_false hc; omega
   subst hc
   exact Wp.done ⟨_,rfl,r,rfl,hB⟩
end Sym

/- The ledger of the reference: its methods. -/
namespace Sym
open Go
abbrev LgR:Type:=I .i64 × V4 × List Ac
noncomputable def c7D (v:V4) (l:List Ac) (a:I .u64) (n:U):LgR :=
 if a.val = 0 then (I.of .i64 2,v,l)
 else if e5A l + g2C v + n.val < U.top then (I.of .i64 0,v,c7P l a n) else (I.of .i64 4,v,l)
def lgH (v:V4):LgH:=((),(v,()))
theorem f9L (v:V4) (l:List Ac) (a:I .u64) (n:U) (hl:l.length < 1073741824) :
  a7A K0 ((a,(n,())),(lgH v,(l,()))) = some (((c7D v l a n).1,()),(lgH (c7D v l a n).2.1,((c7D v l a n).2.2,()))):=by
 refine Wp.out (T:=fun o=>o = some (((c7D v l a n).1,()),(lgH (c7D v l a n).2.1,((c7D v l a n).2.2,())))) ?_
 unfold a7A c7D
 refine Wp.brn (fun h=>?_) (fun h=>?_)
 ·
  rw [if_pos (by have:=iff_eqb.1 h; exact this)]
  rfl
 ·
  rw [if_neg (by have:=niff_eqb.1 h; exact this)]
  obtain ⟨y,hy,r,rfl,hB⟩:=e8H l v (by omega)
  obtain ⟨b1,e1,B1⟩:=a1I n
  have hb:=e2D l (by omega)
  have hv:=f1K v 4
  have hv':d7E v 4 = g2C v:=rfl
  have hp:(65536 ^ 20:Nat) = 65536 * 65536 ^ 19:=by decide
  have hp2:(65536 ^ 19:Nat) = 65536 * 65536 ^ 18:=by decide
  have hn:=U.lt n
  have ht:U.top < 65536 ^ 18:=by decide
  obtain ⟨b2,e2,B2⟩:=b1W hB B1 (f4M hB (by omega)) (e2L B1)
  have e3:=d3D B2 (f4M B2 (by omega))
  refine Wp.optF hy (Wp.optF e1 (Wp.optF e2 (Wp.optF e3 ?_)))
  by_cases hc:e5A l + g2C v + n.val < U.top
  ·
   rw [if_pos hc]
   refine Wp.brnF (by rw [decide_eq_true hc]; rfl) ?_
   exact Wp.optF (d7V l (lgH v) a n hl) rfl
  ·
   rw [if_neg hc]
   exact Wp.brnT (by rw [decide_eq_false hc]; rfl) rfl
def g8P (v:V4) (k:Nat) (n:U):V4:=Arr.upd 4 v k n
noncomputable def e6P (v:V4) (k:Nat):U:=Arr.sel Z_U 4 v k
noncomputable def c7B (v:V4) (l:List Ac) (a:I .u64) (k:Nat) (n:U):LgR :=
 if a.val = 0 then (I.of .i64 2,v,l)
 else if b1Q l a n = true then (I.of .i64 0,g8P v k (U.of ((e6P v k).val + n.val)),c1I l a n) else (I.of .i64 10,v,c1I l a n)
theorem d5T (v:V4) (l:List Ac) (a:I .u64) (k:Nat) (hk:k < 4) (n:U) (hl:l.length < 1073741824) :
  a2O K0 ((a,(i6 (k + 1),(n,()))),(lgH v,(l,()))) = some (((c7B v l a k n).1,()),(lgH (c7B v l a k n).2.1,((c7B v l a k n).2.2,()))):=by
 refine Wp.out (T:=fun o=>o = some (((c7B v l a k n).1,()),(lgH (c7B v l a k n).2.1,((c7B v l a k n).2.2,())))) ?_
 unfold a2O c7B
 have hsub:I.sub (i6 (k + 1)) (I.of .i64 1) = i6 k:=by rw [b4I,c1O (by omega) (by omega)]; rfl
 refine Wp.jn (fun x=>a.val ≠ 0∧x = ((a,(i6 (k + 1),())),(lgH v,(l,(n,()))))) ?_ ?_
 ·
  rintro x ⟨ha,rfl⟩
  rw [if_neg ha]
  refine Wp.optF (d6O l (lgH v) a n hl) ?_
  refine Wp.brn (fun h=>?_) (fun h=>?_)
  ·
   have h:b1Q l a n = false:=by revert h; show a4O (b1Q l a n) = true→_; cases b1Q l a n <;> simp [a4O]
   rw [if_neg (by rw [h]; decide)]
   rfl
  ·
   have h:b1Q l a n = true:=by revert h; show a4O (b1Q l a n) = false→_; cases b1Q l a n <;> simp [a4O]
   rw [if_pos h]
   have hin:inB (I.sub (i6 (k + 1)) (I.of .i64 1)) 4 = true:=by rw [hsub]; exact a3F hk (by omega)
   refine Wp.brnT hin ?_
   simp only [hsub,a3A (show k < 9223372036854775808 by omega)]
   obtain ⟨b1,e1,B1⟩:=a1I (e6P v k)
   obtain ⟨b2,e2,B2⟩:=a1I n
   obtain ⟨b3,e3,B3⟩:=b1W B1 B2 (e2L B1) (e2L B2)
   have e4:=c2L B3 (f2F B3 (by have:=U.lt (e6P v k); have:=U.lt n; omega))
   exact Wp.optF e1 (Wp.optF e2 (Wp.optF e3 (Wp.optF e4 (Wp.brnT (a3F hk (by omega)) rfl))))
 ·
  intro j hj
  refine Wp.brn (fun h=>?_) (fun h=>?_)
  ·
   rw [if_pos (by have:=iff_eqb.1 h; exact this)]
   rfl
  ·
   have ha:a.val ≠ 0:=by have:=niff_eqb.1 h; exact this
   refine Wp.brnF (niff_ltb.2 (by show (I.of .i64 1).val ≤ (i6 (k + 1)).val; rw [a0W (by omega),show (I.of .i64 1).val = 1 from rfl]; omega)) ?_
   refine Wp.brnF (niff_ltb.2 (by show (i6 (k + 1)).val ≤ (I.of .i64 4).val; rw [a0W (by omega),show (I.of .i64 4).val = 4 from rfl]; omega)) ?_
   exact hj _ ⟨ha,rfl⟩
noncomputable def f6A (l:List Ac) (a:I .u64):I .i64 × List Ac :=
 if a.val = 0 then (I.of .i64 2,l)
 else if (I.add (c3F l a).2.2.1 (I.of .u64 1)).val = 0 then (I.of .i64 4,l)
 else (I.of .i64 0,f4F l ((c3F l a).1,((c3F l a).2.1,(I.add (c3F l a).2.2.1 (I.of .u64 1),(c3F l a).2.2.2))))
theorem g3Y (v:V4) (l:List Ac) (a:I .u64) (hl:l.length < 1073741824) :
  a3T K0 ((a,()),(lgH v,(l,()))) = some (((f6A l a).1,()),(lgH v,((f6A l a).2,()))):=by
 refine Wp.out (T:=fun o=>o = some (((f6A l a).1,()),(lgH v,((f6A l a).2,())))) ?_
 unfold a3T f6A
 refine Wp.brn (fun h=>?_) (fun h=>?_)
 ·
  rw [if_pos (by have:=iff_eqb.1 h; exact this)]
  rfl
 ·
  rw [if_neg (by have:=niff_eqb.1 h; exact this)]
  refine Wp.optF (d7N l (lgH v).2 a (by omega)) ?_
  refine Wp.brn (fun h=>?_) (fun h=>?_)
  ·
   rw [if_pos (by have:=iff_eqb.1 h; exact this)]
   rfl
  ·
   rw [if_neg (by have:=niff_eqb.1 h; exact this)]
   exact Wp.optF (put_eq l (lgH v) ((c3F l a).1,((c3F l a).2.1,(I.add (c3F l a).2.2.1 (I.of .u64 1),(c3F l a).2.2.2))) hl) rfl
noncomputable def e3B (l:List Ac) (a:I .u64) (n:U):I .i64 × List Ac :=
 if a.val = 0 then (I.of .i64 2,l) else (if b1Q l a n = true then I.of .i64 0 else I.of .i64 10,c1I l a n)
theorem g2S (v:V4) (l:List Ac) (a:I .u64) (n:U) (hl:l.length < 1073741824) :
  a5K K0 ((a,(n,())),(lgH v,(l,()))) = some (((e3B l a n).1,()),(lgH v,((e3B l a n).2,()))):=by
 refine Wp.out (T:=fun o=>o = some (((e3B l a n).1,()),(lgH v,((e3B l a n).2,())))) ?_
 unfold a5K e3B
 refine Wp.brn (fun h=>?_) (fun h=>?_)
 ·
  rw [if_pos (by have:=iff_eqb.1 h; exact this)]
  rfl
 ·
  rw [if_neg (by have:=niff_eqb.1 h; exact this)]
  refine Wp.optF (d6O l (lgH v) a n hl) ?_
  refine Wp.brn (fun h=>?_) (fun h=>?_)
  ·
   have h:b1Q l a n = false:=by revert h; show a4O (b1Q l a n) = true→_; cases b1Q l a n <;> simp [a4O]
   rw [if_neg (by rw [h]; decide)]
   rfl
  ·
   have h:b1Q l a n = true:=by revert h; show a4O (b1Q l a n) = false→_; cases b1Q l a n <;> simp [a4O]
   rw [if_pos h]
   rfl
noncomputable def f3R (l:List Ac) (a b:I .u64) (n:U):I .i64 × List Ac :=
 if a.val = 0 ∨ b.val = 0 then (I.of .i64 2,l)
 else if b1Q l a n = true then (I.of .i64 0,c7P (c1I l a n) b n) else (I.of .i64 10,c1I l a n)
theorem g4I (v:V4) (l:List Ac) (a b:I .u64) (n:U) (hl:l.length < 1073741823) :
  a5J K0 ((a,(b,(n,()))),(lgH v,(l,()))) = some (((f3R l a b n).1,()),(lgH v,((f3R l a b n).2,()))):=by
 refine Wp.out (T:=fun o=>o = some (((f3R l a b n).1,()),(lgH v,((f3R l a b n).2,())))) ?_
 unfold a5J f3R
 refine Wp.jn (fun x=>(a.val ≠ 0∧b.val ≠ 0)∧x = ((a,(b,())),(lgH v,(l,(n,()))))) ?_ ?_
 ·
  rintro x ⟨⟨ha,hb⟩,rfl⟩
  rw [if_neg (by omega)]
  refine Wp.optF (d6O l (lgH v) a n (by omega)) ?_
  refine Wp.brn (fun h=>?_) (fun h=>?_)
  ·
   have h:b1Q l a n = false:=by revert h; show a4O (b1Q l a n) = true→_; cases b1Q l a n <;> simp [a4O]
   rw [if_neg (by rw [h]; decide)]
   rfl
  ·
   have h:b1Q l a n = true:=by revert h; show a4O (b1Q l a n) = false→_; cases b1Q l a n <;> simp [a4O]
   rw [if_pos h]
   exact Wp.optF (d7V (c1I l a n) (lgH v) b n (by have:=c1A l a n; omega)) rfl
 ·
  intro j hj
  refine Wp.brn (fun h=>?_) (fun h=>?_)
  ·
   rw [if_pos (.inl (by have:=iff_eqb.1 h; exact this))]
   rfl
  ·
   have ha:a.val ≠ 0:=by have:=niff_eqb.1 h; exact this
   refine Wp.brn (fun h=>?_) (fun h=>?_)
   ·
    rw [if_pos (.inr (by have:=iff_eqb.1 h; exact this))]
    rfl
   ·
    exact hj _ ⟨⟨ha,by have:=niff_eqb.1 h; exact this⟩,rfl⟩
end Sym

/- The fees: the whole charge; both programs answer alike. -/
namespace Sym
open Go
def chg (g:I .u64 × I .u64 × I .i64) (lim ex:I .u64) (tip:U):CH :=
 (g.1,g.2.1,I.of .u64 (f9R lim ex g.2.1:Int),I.of .u64 ((g.2.1.nat + f9R lim ex g.2.1:Nat):Int),decide (f9R lim ex g.2.1 < ex.nat),tip,zU,zU,zU,zU,())
def e7F (data:List B8) (lim:I .u64) (cap base unit:U) (p:Prm):I .u64 × I .u64 × I .i64 :=
 if a7O p = false then (I.of .u64 0,I.of .u64 0,I.of .i64 15)
 else if base.val = 0 then (I.of .u64 0,I.of .u64 0,I.of .i64 5)
 else if cap.val < base.val then (I.of .u64 0,I.of .u64 0,I.of .i64 12)
 else g6M data lim base unit p.2.2.2.2.2.2.2.2.2.2.1 p.2.2.2.2.2.2.2.2.2.2.2.1
def g4J (data:List B8) (lim ex:I .u64) (cap tip base unit:U) (p:Prm):CH × I .i64 :=
 if I.neb (e7F data lim cap base unit p).2.2 (I.of .i64 0) = true then (zCH,(e7F data lim cap base unit p).2.2)
 else g2Z (chg (e7F data lim cap base unit p) lim ex (U.of (min tip.val (cap.val - base.val)))) base p.2.2.2.2.2.1 p.2.2.2.2.2.2.1
theorem e1V {p:Prm} (h:a7O p = true):p.2.2.2.2.2.2.1.nat ≤ 10000:=by
 rw [c7K] at h
 have h7:=of_decide_eq_true (h 7 (by omega) (by omega))
 replace h7:(I.of .u64 0).nat ≤ (d2B p.2.2.2.2.2.2.1).val∧(d2B p.2.2.2.2.2.2.1).val ≤ (I.of .u64 10000).nat:=h7
 rw [c4O] at h7
 have e2:(I.of .u64 10000).nat = 10000:=rfl
 rw [e2] at h7
 exact h7.2
theorem g1L {n:Nat} (h:n < 18446744073709551616):n < 65536 ^ 64:=Nat.lt_trans h (by decide)
theorem g2A {n:Nat} (h:n < 20000 * (U.top * 18446744073709551616)):n < 65536 ^ 64:=Nat.lt_trans h (by decide)
theorem bigB' {n:Nat} (h:n < U.top * 18446744073709551616):n < 65536 ^ 64:=Nat.lt_trans h (by decide)
theorem g5D (a:U) {x:Nat} (hx:x < 18446744073709551616):a.val * x < U.top * 18446744073709551616:=by
 have h1:a.val * x ≤ a.val * 18446744073709551616:=Nat.mul_le_mul_left _ (Nat.le_of_lt hx)
 have h2:a.val * 18446744073709551616 < U.top * 18446744073709551616:=Nat.mul_lt_mul_of_pos_right a.lt (by decide)
 omega
theorem f0H (m n:Nat):I.ltb (c2P m n) (I.of .i64 0) = decide (m < n):=by
 unfold c2P
 by_cases h:m < n
 ·
  rw [if_pos h,decide_eq_true h]; rfl
 ·
  rw [if_neg h,decide_eq_false h]; split <;> rfl
theorem e8X (m n:Nat):I.ltb (I.of .i64 0) (c2P m n) = decide (n < m):=by
 unfold c2P
 by_cases h:m < n
 ·
  rw [if_pos h,decide_eq_false (by omega)]; rfl
 ·
  rw [if_neg h]
  by_cases h2:n < m
  ·
   rw [if_pos h2,decide_eq_true h2]; rfl
  ·
   rw [if_neg h2,decide_eq_false h2]; rfl
theorem f1S (f1 f2 f3 lim ex:I .u64) (data:List B8) (v cap tip base unit:U) (p:Prm) (hd:data.length ≤ 100000000) :
  b3Z K0 (((f1,f2,f3,v,lim,cap,tip,ex,data,()),base,unit,p,()),()) = some (((e7F data lim cap base unit p).1,(e7F data lim cap base unit p).2.1,(e7F data lim cap base unit p).2.2,()),()):=by
 generalize hg:e7F data lim cap base unit p = R
 refine Wp.out (T:=fun o=>o = some ((R.1,R.2.1,R.2.2,()),())) ?_
 unfold e7F at hg
 unfold b3Z
 refine Wp.optF (b5X p) ?_
 refine Wp.brn (fun h=>?_) (fun h=>?_)
 ·
  have h:a7O p = false:=b3C h
  rw [if_pos h] at hg
  rw [← hg]; rfl
 have hv:a7O p = true:=b3E h
 rw [if_neg (show ¬ a7O p = false by rw [hv]; simp)] at hg
 refine Wp.optF (c1H base) ?_
 refine Wp.brn (fun h=>?_) (fun h=>?_)
 ·
  have h:base.val = 0:=of_decide_eq_true h
  rw [if_pos h] at hg
  rw [← hg]; rfl
 have h0:base.val ≠ 0:=of_decide_eq_false h
 rw [if_neg h0] at hg
 have hcl:=cap.lt
 have hbl:=base.lt
 have hul:=unit.lt
 obtain ⟨l1,e1,b1⟩:=a1I cap
 obtain ⟨l2,e2,b2⟩:=a1I base
 refine Wp.optF e1 (Wp.optF e2 ?_)
 refine Wp.optF (c4D b1 b2 (a6P b1 (b4H (by omega))) (a6P b2 (b4H (by omega)))) ?_
 refine Wp.brn (fun h=>?_) (fun h=>?_)
 ·
  rw [f0H] at h
  rw [if_pos (of_decide_eq_true h)] at hg
  rw [← hg]; rfl
 rw [f0H] at h
 rw [if_neg (of_decide_eq_false h)] at hg
 refine Wp.optF (e7J data _ _ hd) ?_
 unfold g6M at hg
 generalize c2T data p.2.2.2.2.2.2.2.2.2.2.1 p.2.2.2.2.2.2.2.2.2.2.2.1 = u at hg ⊢
 refine Wp.brn (fun h=>?_) (fun h=>?_)
 ·
  have h:I.neb u.2 (I.of .i64 0) = true:=h
  rw [if_pos h] at hg
  rw [← hg]; rfl
 have h:I.neb u.2 (I.of .i64 0) = false:=h
 rw [if_neg (show ¬ I.neb u.2 (I.of .i64 0) = true by rw [h]; simp)] at hg
 obtain ⟨l3,e3,b3⟩:=a1O u.1
 obtain ⟨l4,e4,b4⟩:=a1I unit
 have hu1:=a3M u.1
 have hm:=g5D unit hu1
 rw [Nat.mul_comm] at hm
 refine Wp.optF e3 (Wp.optF e4 ?_)
 obtain ⟨l5,e5,b5⟩:=b2D b3 b4 (a6P b3 (g1L hu1)) (a6P b4 (b4H (by omega)))
 have hl5:=a6P b5 (bigB' hm)
 refine Wp.optF e5 (Wp.optF (c2I b5 (Nat.lt_of_le_of_lt hl5 (by decide))) ?_)
 refine Wp.brn (fun h=>?_) (fun h=>?_)
 ·
  have h:=of_decide_eq_false (b3C h)
  rw [if_pos (by omega)] at hg
  rw [← hg]; rfl
 have h:=of_decide_eq_true (b3E h)
 rw [if_neg (by omega)] at hg
 refine Wp.optF e2 ?_
 obtain ⟨l6,l7,e6,b6,b7⟩:=c3U b5 b2 h0 hl5 (Nat.le_trans (b2.len.2 (Nat.lt_of_lt_of_le base.lt (Nat.le_of_eq top_pow'))) (by decide))
 have hq:u.1.nat * unit.val / base.val < U.top:=Nat.lt_of_le_of_lt (Nat.div_le_self _ _) (by omega)
 generalize u.1.nat * unit.val / base.val = q at hg hq b6 ⊢
 refine Wp.optF e6 ?_
 obtain ⟨l8,e8,b8⟩:=a1O lim
 have hlim:=a3M lim
 refine Wp.optF e8 ?_
 refine Wp.optF (c4D b6 b8 (a6P b6 (b4H (by omega))) (a6P b8 (g1L (by omega)))) ?_
 refine Wp.brn (fun h=>?_) (fun h=>?_)
 ·
  rw [e8X] at h
  rw [if_pos (of_decide_eq_true h)] at hg
  rw [← hg]; rfl
 rw [e8X] at h
 have h:=of_decide_eq_false h
 rw [if_neg h] at hg
 refine Wp.optF (a2X b6 hq) ?_
 rw [← hg]
 show some ((u.1,(U.of q).1,I.of .i64 0,()),()) = _
 rw [g7U (by omega)]
theorem e0Y (f1 f2 f3 lim ex:I .u64) (data:List B8) (v cap tip base unit:U) (p:Prm) (hd:data.length ≤ 100000000) :
  a9M K0 (((f1,f2,f3,v,lim,cap,tip,ex,data,()),base,unit,p,()),()) = some (((g4J data lim ex cap tip base unit p).1,(g4J data lim ex cap tip base unit p).2,()),()):=by
 generalize hg:g4J data lim ex cap tip base unit p = R
 refine Wp.out (T:=fun o=>o = some ((R.1,R.2,()),())) ?_
 unfold g4J at hg
 unfold a9M
 refine Wp.optF (f1S f1 f2 f3 lim ex data v cap tip base unit p hd) ?_
 have hprem:I.neb (e7F data lim cap base unit p).2.2 (I.of .i64 0) = false→a7O p = true∧base.val ≤ cap.val∧(e7F data lim cap base unit p).2.1.nat ≤ lim.nat:=by
  intro h
  unfold e7F g6M at h ⊢
  split at h
  ·
   exact absurd h (by decide)
  ·
   rename_i hv
   rw [if_neg hv]
   split at h
   ·
    exact absurd h (by decide)
   ·
    rename_i h0
    rw [if_neg h0]
    split at h
    ·
     exact absurd h (by decide)
    ·
     rename_i hc
     rw [if_neg hc]
     split at h
     ·
      rename_i hu
      exact absurd (h.symm.trans hu) (by decide)
     ·
      rename_i hu
      rw [if_neg hu]
      split at h
      ·
       exact absurd h (by decide)
      ·
       rename_i ht
       rw [if_neg ht]
       split at h
       ·
        exact absurd h (by decide)
       ·
        rename_i hq
        rw [if_neg hq]
        refine ⟨by simpa using hv,Nat.le_of_not_lt hc,?_⟩
        have:=a3M lim
        show (I.of .u64 (_:Int)).nat ≤ _
        rw [b8Y (by omega)]
        omega
 generalize e7F data lim cap base unit p = g at hg hprem ⊢
 obtain ⟨u,po,er⟩:=g
 refine Wp.brn (fun h=>?_) (fun h=>?_)
 ·
  have h:I.neb er (I.of .i64 0) = true:=h
  rw [if_pos h] at hg
  rw [← hg]; rfl
 have h:I.neb er (I.of .i64 0) = false:=h
 obtain ⟨hv,hc,hpo⟩:=hprem h
 simp only at hpo
 rw [if_neg (show ¬ I.neb ((u,po,er):I .u64 × I .u64 × I .i64).2.2 (I.of .i64 0) = true by rw [show I.neb ((u,po,er):I .u64 × I .u64 × I .i64).2.2 (I.of .i64 0) = false from h]; simp)] at hg
 have hb:=e1V hv
 have hlim:=a3M lim
 have hex:=a3M ex
 have hcl:=cap.lt
 have hbl:=base.lt
 have htl:=tip.lt
 obtain ⟨E,hE⟩:∃ E,E = f9R lim ex po:=⟨_,rfl⟩
 have hEl:E ≤ lim.nat - po.nat:=by rw [hE]; unfold f9R; omega
 have hEn:(I.of .u64 (E:Int)).nat = E:=b8Y (by omega)
 refine Wp.jn (fun x=>x = ((po,()),((f1,f2,f3,v,lim,cap,tip,ex,data,()),base,p,zCH,(u,po,I.of .u64 (E:Int),I.of .u64 0,decide (E < ex.nat),zU,zU,zU,zU,zU,()),()))) ?_ ?_
 ·
  rintro x rfl
  unfold g2Z chg at hg
  simp only at hg
  rw [← hE] at hg
  rw [hEn,b8Y (n:=po.nat + E) (by omega)] at hg
  obtain ⟨l2,e2,b2⟩:=a1I base
  obtain ⟨l3,e3,b3⟩:=f7H f1 f2 f3 lim ex data v cap tip base hc
  obtain ⟨l4,e4,b4⟩:=a1O po
  have hpo64:=a3M po
  have hl2:=a6P b2 (b4H (by omega))
  have hl4:=a6P b4 (g1L hpo64)
  have hm1:=g5D base hpo64
  refine Wp.optF e2 (Wp.optF e3 (Wp.optF e4 ?_))
  obtain ⟨l5,e5,b5⟩:=b2D b2 b4 hl2 hl4
  have hl5:=a6P b5 (bigB' hm1)
  refine Wp.optF e5 ?_
  obtain ⟨l6,e6,b6⟩:=a1O (I.of .u64 (E:Int))
  rw [hEn] at b6
  have hE64:E < 18446744073709551616:=by omega
  have hl6:=a6P b6 (g1L hE64)
  refine Wp.optF e6 ?_
  obtain ⟨l7,e7,b7⟩:=b2D b2 b6 hl2 hl6
  have hm2:=g5D base hE64
  have hl7:=a6P b7 (bigB' hm2)
  refine Wp.optF e7 ?_
  obtain ⟨l8,e8,b8⟩:=a1I p.2.2.2.2.2.1
  have hil:=U.lt p.2.2.2.2.2.1
  have hl8:=a6P b8 (b4H (by omega))
  refine Wp.optF e8 ?_
  obtain ⟨l9,e9,b9⟩:=e8M b8 b2 hl8 hl2
  have hl9:=a6P b9 (b4H (by omega))
  refine Wp.optF e9 (Wp.optF e6 ?_)
  obtain ⟨l11,e11,b11⟩:=b2D b9 b6 hl9 hl6
  have hinf:min (U.val p.2.2.2.2.2.1) base.val * E ≤ base.val * E:=Nat.mul_le_mul_right _ (Nat.min_le_right _ _)
  refine Wp.optF e11 ?_
  obtain ⟨l12,e12,b12⟩:=c5Z b7 b11 hinf hl7
  have hl12:=a6P b12 (g2A (by omega))
  have hnet:base.val * E - min (U.val p.2.2.2.2.2.1) base.val * E = f7C base p.2.2.2.2.2.1 E:=rfl
  rw [hnet] at b12
  refine Wp.optF e12 ?_
  obtain ⟨l13,e13,b13⟩:=a1O p.2.2.2.2.2.2.1
  have hl13:=a6P b13 (g1L (by omega))
  refine Wp.optF e13 ?_
  obtain ⟨l14,e14,b14⟩:=b2D b12 b13 hl12 hl13
  have hm3:f7C base p.2.2.2.2.2.1 E * p.2.2.2.2.2.2.1.nat ≤ f7C base p.2.2.2.2.2.1 E * 10000:=Nat.mul_le_mul_left _ hb
  have hl14:=a6P b14 (g2A (by omega))
  refine Wp.optF e14 ?_
  obtain ⟨l15,e15,b15⟩:=a1O (I.of .u64 10000)
  have e10k:(I.of .u64 10000).nat = 10000:=rfl
  rw [e10k] at b15
  refine Wp.optF e15 ?_
  obtain ⟨l16,l16',e16,b16,_⟩:=c3U b14 b15 (by decide) hl14 (Nat.le_trans ((IsB.len b15 (k:=1)).2 (by decide)) (by decide))
  have hburn:f7C base p.2.2.2.2.2.1 E * p.2.2.2.2.2.2.1.nat / 10000 = e9B base p.2.2.2.2.2.1 p.2.2.2.2.2.2.1 E:=rfl
  rw [hburn] at b16
  have hbl2:e9B base p.2.2.2.2.2.1 p.2.2.2.2.2.2.1 E ≤ f7C base p.2.2.2.2.2.1 E:=f3P _ _ hb
  refine Wp.optF e16 ?_
  obtain ⟨l17,e17,b17⟩:=c5Z b12 b16 hbl2 hl12
  refine Wp.optF e17 ?_
  have eadd:I.add po (I.of .u64 (E:Int)) = I.of .u64 ((po.nat + E:Nat):Int):=by
   apply e2B
   rw [c4F _ _ (by omega),hEn,b8Y (by omega)]
  obtain ⟨l18,e18,b18⟩:=a1O (I.add po (I.of .u64 (E:Int)))
  rw [c4F _ _ (by omega),hEn] at b18
  refine Wp.optF e18 ?_
  have hl18:=a6P b18 (g1L (by omega))
  have hl3:=a6P b3 (b4H (by omega))
  obtain ⟨l19,e19,b19⟩:=b2D b3 b18 hl3 hl18
  have hm4:min tip.val (cap.val - base.val) * (po.nat + E) ≤ cap.val * (po.nat + E):=Nat.mul_le_mul_right _ (by omega)
  have hm5:=g5D cap (x:=po.nat + E) (by omega)
  have hl19:=a6P b19 (g2A (by omega))
  refine Wp.optF e19 ?_
  obtain ⟨l20,e20,b20⟩:=b1W b17 b19 (a6P b17 (g2A (by omega))) hl19
  have hrest:f7C base p.2.2.2.2.2.1 E - e9B base p.2.2.2.2.2.1 p.2.2.2.2.2.2.1 E + min tip.val (cap.val - base.val) * (po.nat + E) = f2U base p.2.2.2.2.2.1 (U.of (min tip.val (cap.val - base.val))) p.2.2.2.2.2.2.1 E (po.nat + E):=by
   unfold f2U
   rw [U.val_of (by omega)]
  have hl20:=a6P b20 (g2A (by omega))
  rw [hrest] at b20
  refine Wp.optF e20 (Wp.jnZ ?_)
  refine Wp.optF (c2I b5 (Nat.lt_of_le_of_lt hl5 (by decide))) ?_
  refine Wp.brn (fun h=>?_) (fun h=>?_)
  ·
   have h:=of_decide_eq_false (b3C h)
   rw [if_pos (.inl (by omega))] at hg
   rw [← hg]; rfl
  have h1:=of_decide_eq_true (b3E h)
  refine Wp.optF (c2I b7 (Nat.lt_of_le_of_lt hl7 (by decide))) ?_
  refine Wp.brn (fun h=>?_) (fun h=>?_)
  ·
   have h:=of_decide_eq_false (b3C h)
   rw [if_pos (.inr (.inl (by omega)))] at hg
   rw [← hg]; rfl
  have h2:=of_decide_eq_true (b3E h)
  refine Wp.optF (c2I b20 (Nat.lt_of_le_of_lt hl20 (by decide))) ?_
  refine Wp.brn (fun h=>?_) (fun h=>?_)
  ·
   have h:=of_decide_eq_false (b3C h)
   rw [if_pos (.inr (.inr (by omega)))] at hg
   rw [← hg]; rfl
  have h3:=of_decide_eq_true (b3E h)
  rw [if_neg (by rintro (h | h | h) <;> omega)] at hg
  refine Wp.optF (a2X b3 (by omega)) (Wp.optF (a2X b5 h1) (Wp.optF (a2X b11 (by omega)) (Wp.optF (a2X b16 (by omega)) (Wp.optF (a2X b20 h3) ?_))))
  rw [← hg,← eadd]
  rfl
 ·
  intro j hj
  have es:(I.sub lim po).nat = lim.nat - po.nat:=e4Y _ _ hpo
  refine Wp.brn (fun h=>?_) (fun h=>?_)
  ·
   rw [c1T] at h
   have h:(I.sub lim po).nat < ex.nat:=of_decide_eq_true h
   rw [es] at h
   have hEe:E = lim.nat - po.nat:=by rw [hE]; unfold f9R; omega
   have e1:I.sub lim po = I.of .u64 (E:Int):=e2B (by rw [es,hEn,hEe])
   refine hj _ ?_
   rw [show decide (E < ex.nat) = true from decide_eq_true (by omega),← e1]
   rfl
  ·
   rw [c1T] at h
   have h:¬ (I.sub lim po).nat < ex.nat:=of_decide_eq_false h
   rw [es] at h
   have hEe:E = ex.nat:=by rw [hE]; unfold f9R; omega
   have e1:ex = I.of .u64 (E:Int):=e2B (by rw [hEn,hEe])
   refine hj _ ?_
   rw [show decide (E < ex.nat) = false from decide_eq_false (by omega),← e1]
   rfl
end Sym

/- The fees: what is built, what a charge without an error is. -/
namespace Sym
open Go
end Sym

/- The laws of the fees. -/
namespace Sym
open Go
end Sym

/- The base fee of the reference, blocks, parameters. -/
namespace Sym
open Go
theorem d7F {l:List Dg} {a:I .u64} (h:IsB l a.nat):l.length ≤ 1000000:=b3K h (k:=4) (Nat.lt_of_lt_of_le (a3M a) (by decide)) (by decide)
def P40:Nat:=65536 ^ 40
theorem h1J {l:List Dg} {n:Nat} (h:IsB l n) (hn:n < P40):l.length ≤ 900000:=Nat.le_trans (h.len.2 hn) (by decide)
theorem lenK' {l:List Dg} {n:Nat} (h:IsB l n) (hn:n < P40):l.length ≤ 1000000:=Nat.le_trans (h1J h hn) (by decide)
theorem f5U (m n:Nat):I.leb (c2P m n) (I.of .i64 0) = decide (m ≤ n):=by
 unfold c2P
 by_cases h:m < n
 ·
  rw [if_pos h,decide_eq_true (by omega)]; rfl
 ·
  rw [if_neg h]
  by_cases h2:n < m
  ·
   rw [if_pos h2,decide_eq_false (by omega)]; rfl
  ·
   rw [if_neg h2,decide_eq_true (by omega)]; rfl
theorem c9D (a b:I .u64):a.nat * b.nat < 65536 ^ 8:=by
 have h1:=a3M a
 have h2:=a3M b
 have:a.nat * b.nat ≤ 18446744073709551616 * 18446744073709551616 - 1:=by
  have:=Nat.mul_le_mul (show a.nat ≤ 18446744073709551615 by omega) (show b.nat ≤ 18446744073709551615 by omega)
  omega
 have e:(65536 ^ 8:Nat) = 18446744073709551616 * 18446744073709551616:=by decide
 omega
theorem e7K (a b c:I .u64):a9V K0 ((a,(b,(c,()))),()) = some ((I.of .u64 ((a.nat - b.nat * c.nat:Nat):Int),()),()):=by
 refine Wp.out (T:=fun o=>o = some ((I.of .u64 ((a.nat - b.nat * c.nat:Nat):Int),()),())) ?_
 unfold a9V
 obtain ⟨r0,e0,B0⟩:=a1O a
 obtain ⟨r1,e1,B1⟩:=a1O b
 obtain ⟨r2,e2,B2⟩:=a1O c
 obtain ⟨r3,e3,B3⟩:=b2D B1 B2 (d7F B1) (d7F B2)
 have h3:=c9D b c
 have l3:=b3K B3 h3 (by decide)
 have e4:=c4D B0 B3 (d7F B0) l3
 refine Wp.optF e0 (Wp.optF e1 (Wp.optF e2 (Wp.optF e3 (Wp.optF e4 ?_))))
 have hc:=f5U a.nat (b.nat * c.nat)
 have ha:=a3M a
 refine Wp.brn (fun h=>?_) (fun h=>?_)
 ·
  have h:I.leb (c2P a.nat (b.nat * c.nat)) (I.of .i64 0) = true:=h
  rw [hc] at h
  rw [show a.nat - b.nat * c.nat = 0 by have:=of_decide_eq_true h; omega]
  rfl
 ·
  have h:I.leb (c2P a.nat (b.nat * c.nat)) (I.of .i64 0) = false:=h
  rw [hc] at h
  have h:=of_decide_eq_false h
  obtain ⟨r5,e5,B5⟩:=c5Z B0 B3 (by omega) (d7F B0)
  have e6:=c2L B5 (b3K B5 (k:=4) (Nat.lt_of_le_of_lt (Nat.sub_le _ _) (Nat.lt_of_lt_of_le ha (by decide))) (by decide))
  refine Wp.optF e5 (Wp.optF e6 ?_)
  show some (((U.of _).1,()),()) = _
  rw [f0Z (by omega)]
def f8Z (p:Prm):Prop:=p.1.nat ≠ 0∧p.2.2.1.nat ≠ 0
theorem d9S {p:Prm} (h:a7O p = true):f8Z p:=by
 rw [c7K] at h
 have h1:=h 1 (by omega) (by omega)
 have h3:=h 3 (by omega) (by omega)
 have h1:=of_decide_eq_true h1
 have h3:=of_decide_eq_true h3
 replace h1:(I.of .u64 1).nat ≤ (d2B p.1).val∧_:=h1
 replace h3:(I.of .u64 1).nat ≤ (d2B p.2.2.1).val∧_:=h3
 rw [c4O] at h1 h3
 have c1:(I.of .u64 1).nat = 1:=rfl
 constructor <;> omega
def c9A (b:I .u64) (p:Prm):Nat:=min ((b.nat - p.1.nat * p.2.1.nat) * 10000 / (p.2.2.1.nat * p.1.nat)) 200000
theorem e2C (b:I .u64) (p:Prm):a8V K0 ((b,(p,())),()) = some (((if a7O p = true then I.of .u64 ((c9A b p:Nat):Int) else I.of .u64 0),((if a7O p = true then I.of .i64 0 else I.of .i64 15),())),()):=by
 refine Wp.out (T:=fun o=>o = some (((if a7O p = true then I.of .u64 ((c9A b p:Nat):Int) else I.of .u64 0),((if a7O p = true then I.of .i64 0 else I.of .i64 15),())),())) ?_
 unfold a8V
 refine Wp.optF (b5X p) ?_
 by_cases hv:a7O p = true
 ·
  rw [if_pos hv,if_pos hv]
  refine Wp.brnF (by rw [hv]; rfl) ?_
  have hex:b0H K0 ((b,(p.1,(p.2.1,()))),()) = some ((I.of .u64 ((b.nat - p.1.nat * p.2.1.nat:Nat):Int),()),()):=by
   refine Wp.out (T:=fun o=>o = some ((I.of .u64 ((b.nat - p.1.nat * p.2.1.nat:Nat):Int),()),())) ?_
   unfold b0H
   exact Wp.optF (e7K b p.1 p.2.1) rfl
  have hb:=a3M b
  have hxn:(I.of .u64 ((b.nat - p.1.nat * p.2.1.nat:Nat):Int)).nat = b.nat - p.1.nat * p.2.1.nat:=b8Y (by omega)
  obtain ⟨r2,e2,B2⟩:=a1O (I.of .u64 ((b.nat - p.1.nat * p.2.1.nat:Nat):Int))
  obtain ⟨r3,e3,B3⟩:=a1O (I.of .u64 10000)
  obtain ⟨r4,e4,B4⟩:=b2D B2 B3 (d7F B2) (d7F B3)
  obtain ⟨r5,e5,B5⟩:=a1O p.2.2.1
  obtain ⟨r6,e6,B6⟩:=a1O p.1
  obtain ⟨r7,e7,B7⟩:=b2D B5 B6 (d7F B5) (d7F B6)
  have h4:=c9D (I.of .u64 ((b.nat - p.1.nat * p.2.1.nat:Nat):Int)) (I.of .u64 10000)
  have h7:=c9D p.2.2.1 p.1
  obtain ⟨s1,s3⟩:=d9S hv
  obtain ⟨q,rr,e8,B8,_⟩:=c3U B4 B7 (Nat.mul_ne_zero s3 s1) (b3K B4 h4 (by decide)) (Nat.le_trans (B7.len.2 h7) (by decide))
  obtain ⟨r9,e9,B9⟩:=a1O (I.of .u64 200000)
  have hq:(I.of .u64 ((b.nat - p.1.nat * p.2.1.nat:Nat):Int)).nat * (I.of .u64 10000).nat / (p.2.2.1.nat * p.1.nat) < 65536 ^ 8:=Nat.lt_of_le_of_lt (Nat.div_le_self _ _) h4
  obtain ⟨y,e10,r10,rfl,B10⟩:=e1G B8 B9 (b3K B8 hq (by decide)) (d7F B9)
  have c1:(I.of .u64 10000).nat = 10000:=rfl
  have c2:(I.of .u64 200000).nat = 200000:=rfl
  rw [hxn,c1,c2] at B10
  have hm:min ((b.nat - p.1.nat * p.2.1.nat) * 10000 / (p.2.2.1.nat * p.1.nat)) 200000 ≤ 200000:=Nat.min_le_right _ _
  have e11:=c2L B10 (b3K B10 (k:=2) (Nat.lt_of_le_of_lt hm (by decide)) (by decide))
  refine Wp.optF hex (Wp.optF e2 (Wp.optF e3 (Wp.optF e4 (Wp.optF e5 (Wp.optF e6 (Wp.optF e7 (Wp.optF e8 (Wp.optF e9 (Wp.optF e10 (Wp.optF e11 ?_))))))))))
  show some (((U.of _).1,_),()) = _
  rw [f0Z (by omega)]
  rfl
 ·
  rw [if_neg hv,if_neg hv]
  have hv:a7O p = false:=by cases h:a7O p with | true=>exact absurd h hv | false=>rfl
  exact Wp.brnT (by rw [hv]; rfl) rfl
end Sym

/- The exponential, the base fee, blocks. -/
namespace Sym
open Go
def g4Z (x:Nat):Nat→Nat→Nat
 | 0,y=>y
 | k + 1,y=>g4Z x k (10000 + y * x / ((k + 1) * 10000))
def f1X (x b:Nat):Nat:=g4Z x b 10000
def pwE (j:Nat):Nat:=2 ^ (20 * (j + 1))
theorem e3S (j:Nat):pwE (j + 1) = pwE j * 1048576:=by
 unfold pwE
 rw [show 20 * (j + 1 + 1) = 20 * (j + 1) + 20 by omega,Nat.pow_add]
theorem f1C (j:Nat):0 < pwE j:=Nat.pow_pos (by decide)
theorem e3Q:∀ (n j:Nat),pwE j ≤ pwE (j + n)
 | 0,_=>Nat.le_refl _
 | n + 1,j=>by
  have h1:=e3Q n j
  have h2:=e3S (j + n)
  have h3:=f1C (j + n)
  rw [← Nat.add_assoc,h2]
  omega
theorem g6G:pwE 20 * 200000 < P40:=by
 decide +kernel
theorem g8F {j:Nat} (h:j ≤ 20):pwE j * 200000 < P40:=by
 have h1:=e3Q (20 - j) j
 rw [show j + (20 - j) = 20 by omega] at h1
 exact Nat.lt_of_le_of_lt (Nat.mul_le_mul_right _ h1) g6G
theorem e8W {y x k j:Nat} (hx:x ≤ 200000) (hy:y < pwE j):10000 + y * x / ((k + 1) * 10000) < pwE (j + 1):=by
 have h1:y * x / ((k + 1) * 10000) ≤ y * x:=Nat.div_le_self _ _
 have h2:y * x ≤ (pwE j - 1) * 200000:=Nat.mul_le_mul (by omega) hx
 have e:=e3S j
 have hp:=f1C j
 generalize pwE j = P at *
 omega
theorem g1P (a:I .u64) (b:Nat) (hb:1 ≤ b) (hb2:b ≤ 20):b4T K0 ((a,(i6 b,())),()) = some ((if a.nat ≤ 200000 then (U.of (f1X a.nat b)).1 else I.of .u64 0,(if a.nat ≤ 200000 then I.of .i64 0 else I.of .i64 2,())),()):=by
 refine Wp.out (T:=fun o=>o = some ((if a.nat ≤ 200000 then (U.of (f1X a.nat b)).1 else I.of .u64 0,(if a.nat ≤ 200000 then I.of .i64 0 else I.of .i64 2,())),())) ?_
 unfold b4T
 have c2:(I.of .u64 200000).nat = 200000:=rfl
 refine Wp.jn (fun x=>a.nat ≤ 200000∧x = ((a,(i6 b,())),())) ?_ ?_
 ·
  rintro x ⟨ha,rfl⟩
  rw [if_pos ha,if_pos ha]
  obtain ⟨r1,e1,B1⟩:=a1O (I.of .u64 10000)
  have c1:(I.of .u64 10000).nat = 10000:=rfl
  refine Wp.optF e1 ?_
  refine Wp.iter (fun s=>∃ (k j y:Nat) (r:List Dg),s = ((a,(r,(i6 k,()))),())∧k + j = b∧IsB r y∧y < pwE j∧g4Z a.nat k y = f1X a.nat b) (fun s=>s.1.2.2.1.val.toNat) ?_ ⟨b,0,_,r1,rfl,rfl,B1,by rw [c1]; decide +kernel,by rw [c1]; rfl⟩ (by rw [a7L]; show (i6 b).val.toNat < _; rw [a0W (by omega)]; omega)
  rintro s ⟨k,j,y,r,rfl,hk,hB,hy,he⟩
  have hpw:=g8F (show j ≤ 20 by omega)
  have hyx:y * a.nat < P40:=by
   have h2:y * a.nat ≤ pwE j * 200000:=Nat.mul_le_mul (Nat.le_of_lt hy) ha
   omega
  have hy40:y < P40:=by
   have:pwE j * 1 ≤ pwE j * 200000:=Nat.mul_le_mul_left _ (by decide)
   omega
  refine Wp.brn (fun hc=>?_) (fun hc=>?_)
  ·
   have hc:1 ≤ k:=by have:=iff_leb.1 hc; simp only [a0W (show k < 9223372036854775808 by omega),show (I.of .i64 1).val = 1 from rfl] at this; omega
   obtain ⟨k',rfl⟩:∃ k',k = k' + 1:=⟨k - 1,by omega⟩
   obtain ⟨r3,e3,B3⟩:=a1O a
   obtain ⟨r4,e4,B4⟩:=b2D hB B3 (lenK' hB hy40) (d7F B3)
   have hcv:I.conv .u64 (i6 (k' + 1)) = I.of .u64 ((k' + 1:Nat):Int):=by
    unfold I.conv
    rw [a0W (by omega)]
   have hkn:(I.of .u64 ((k' + 1:Nat):Int)).nat = k' + 1:=b8Y (by omega)
   obtain ⟨r5,e5,B5⟩:=a1O (I.of .u64 ((k' + 1:Nat):Int))
   obtain ⟨r7,e7,B7⟩:=b2D B5 B1 (d7F B5) (d7F B1)
   have h7:=c9D (I.of .u64 ((k' + 1:Nat):Int)) (I.of .u64 10000)
   rw [hkn,c1] at B7 h7
   obtain ⟨q,rr,e8,B8,_⟩:=c3U B4 B7 (by omega) (lenK' B4 hyx) (Nat.le_trans (B7.len.2 h7) (by decide))
   have h8:y * a.nat / ((k' + 1) * 10000) < P40:=Nat.lt_of_le_of_lt (Nat.div_le_self _ _) hyx
   obtain ⟨r10,e10,B10⟩:=b1W B1 B8 (d7F B1) (lenK' B8 h8)
   rw [c1] at B10
   have e5':a0H K0 ((I.conv .u64 (i6 (k' + 1)),()),()) = some ((r5,()),()):=by rw [hcv]; exact e5
   refine Wp.optF e3 (Wp.optF e4 (Wp.optF e5' (Wp.optF e1 (Wp.optF e7 (Wp.optF e8 (Wp.optF e1 (Wp.optF e10 ?_)))))))
   have hs:I.sub (i6 (k' + 1)) (I.of .i64 1) = i6 k':=by rw [b4I,c1O (by omega) (by omega)]; rfl
   have he':g4Z a.nat k' (10000 + y * a.nat / ((k' + 1) * 10000)) = f1X a.nat b:=he
   have hst:=e8W (k:=k') ha hy
   generalize 10000 + y * a.nat / ((k' + 1) * 10000) = z at B10 he' hst
   refine Wp.again ⟨k',j + 1,z,r10,by show ((a,(r10,(I.sub (i6 (k' + 1)) (I.of .i64 1),()))),()) = _; rw [hs]; rfl,by omega,B10,hst,he'⟩ (by show (I.sub (i6 (k' + 1)) (I.of .i64 1)).val.toNat < (i6 (k' + 1)).val.toNat; rw [hs,a0W (by omega),a0W (by omega)]; omega)
  ·
   have hc:k = 0:=by have:=niff_leb.1 hc; simp only [a0W (show k < 9223372036854775808 by omega),show (I.of .i64 1).val = 1 from rfl] at this; omega
   subst hc
   have e:=c2L hB (lenK' hB hy40)
   have he:y = f1X a.nat b:=he
   rw [he] at e
   exact Wp.done (Wp.optF e rfl)
 ·
  intro j hj
  refine Wp.brn (fun h=>?_) (fun h=>?_)
  ·
   have h:(I.of .u64 200000).val < a.val:=iff_ltb.1 h
   have h1:=a2G a
   have h2:(I.of .u64 200000).val = 200000:=rfl
   rw [if_neg (by omega),if_neg (by omega)]
   rfl
  ·
   have h:a.val ≤ (I.of .u64 200000).val:=niff_ltb.1 h
   have h1:=a2G a
   have h2:(I.of .u64 200000).val = 200000:=rfl
   refine Wp.brnF (niff_ltb.2 (by show (I.of .i64 1).val ≤ (i6 b).val; rw [a0W (by omega),show (I.of .i64 1).val = 1 from rfl]; omega)) ?_
   refine Wp.brnF (niff_ltb.2 (by show (i6 b).val ≤ (I.of .i64 20).val; rw [a0W (by omega),show (I.of .i64 20).val = 20 from rfl]; omega)) ?_
   exact hj _ ⟨by omega,rfl⟩
theorem f4H (a:U) (b:I .u64):b2U K0 ((a,(b,())),()) = some (((c5E (a.val * b.nat / 10000)).1,((c5E (a.val * b.nat / 10000)).2,())),()):=by
 refine Wp.out (T:=fun o=>o = some (((c5E (a.val * b.nat / 10000)).1,((c5E (a.val * b.nat / 10000)).2,())),())) ?_
 unfold b2U
 obtain ⟨r0,e0,B0⟩:=a1I a
 obtain ⟨r1,e1,B1⟩:=a1O b
 obtain ⟨r2,e2,B2⟩:=b2D B0 B1 (e2L B0) (d7F B1)
 obtain ⟨r3,e3,B3⟩:=a1O (I.of .u64 10000)
 have c1:(I.of .u64 10000).nat = 10000:=rfl
 have h2:a.val * b.nat < P40:=by
  have h3:a.val * b.nat ≤ U.top * 18446744073709551616:=Nat.mul_le_mul (Nat.le_of_lt (U.lt a)) (Nat.le_of_lt (a3M b))
  exact Nat.lt_of_le_of_lt h3 (by decide +kernel)
 rw [c1] at B3
 obtain ⟨q,rr,e4,B4,_⟩:=c3U B2 B3 (by decide) (lenK' B2 h2) (Nat.le_trans (B3.len.2 (show 10000 < 65536 ^ 1 by decide)) (by decide))
 have e5:=Checked_ok' B4 (lenK' B4 (Nat.lt_of_le_of_lt (Nat.div_le_self _ _) h2))
 exact Wp.optF e0 (Wp.optF e1 (Wp.optF e2 (Wp.optF e3 (Wp.optF e4 (Wp.optF e5 rfl)))))
noncomputable def d1B (b:I .u64) (p:Prm):U × I .i64 :=
 if a7O p = true then c5E (U.val p.2.2.2.1 * (U.of (f1X (c9A b p) 10)).1.nat / 10000) else (Z_U,I.of .i64 15)
theorem d5Y (b:I .u64) (p:Prm):c9A b p ≤ 200000:=Nat.min_le_right _ _
theorem g4R (b:I .u64) (p:Prm):b0R K0 ((b,(p,())),()) = some (((d1B b p).1,((d1B b p).2,())),()):=by
 refine Wp.out (T:=fun o=>o = some (((d1B b p).1,((d1B b p).2,())),())) ?_
 unfold b0R d1B
 refine Wp.optF (e2C b p) ?_
 by_cases hv:a7O p = true
 ·
  rw [if_pos hv,if_pos hv,if_pos hv]
  refine Wp.brnF (show I.neb (I.of .i64 0) (I.of .i64 0) = false by decide) ?_
  have hx:(I.of .u64 ((c9A b p:Nat):Int)).nat = c9A b p:=b8Y (by have:=d5Y b p; omega)
  have hE:=g1P (I.of .u64 ((c9A b p:Nat):Int)) 10 (by omega) (by omega)
  rw [hx,if_pos (d5Y b p),if_pos (d5Y b p)] at hE
  have hS:a9L K0 ((p.2.2.2.1,(I.of .u64 ((c9A b p:Nat):Int),(I.of .i64 10,()))),()) = some (((c5E (U.val p.2.2.2.1 * (U.of (f1X (c9A b p) 10)).1.nat / 10000)).1,((c5E (U.val p.2.2.2.1 * (U.of (f1X (c9A b p) 10)).1.nat / 10000)).2,())),()):=by
   refine Wp.out (T:=fun o=>o = some (((c5E (U.val p.2.2.2.1 * (U.of (f1X (c9A b p) 10)).1.nat / 10000)).1,((c5E (U.val p.2.2.2.1 * (U.of (f1X (c9A b p) 10)).1.nat / 10000)).2,())),())) ?_
   unfold a9L
   exact Wp.optF hE (Wp.brnF (show I.neb (I.of .i64 0) (I.of .i64 0) = false by decide) (Wp.optF (f4H _ _) rfl))
  exact Wp.optF hS rfl
 ·
  rw [if_neg hv,if_neg hv,if_neg hv]
  exact Wp.brnT (show I.neb (I.of .i64 15) (I.of .i64 0) = true by decide) rfl
abbrev f7A:Type:=a9I
noncomputable def c3Z (k:f7A) (sec left:I .u64) (p:Prm):f7A × I .i64 :=
 if 1 ≤ sec.val∧sec.val ≤ 1048576 then
  if (d1B left p).2.val ≠ 0 then (a4K,(d1B left p).2)
  else if (I.add k.1 (I.of .u64 1)).val = 0 then (a4K,I.of .i64 4)
  else if (I.add k.2.1 sec).val < k.2.1.val then (a4K,I.of .i64 4)
  else ((I.add k.1 (I.of .u64 1),(I.add k.2.1 sec,(I.of .u64 0,((d1B left p).1,())))),I.of .i64 0)
 else (a4K,I.of .i64 2)
theorem f3U (k:f7A) (sec left:I .u64) (p:Prm):b2T K0 ((k,(sec,(left,(p,())))),()) = some (((c3Z k sec left p).1,((c3Z k sec left p).2,())),()):=by
 refine Wp.out (T:=fun o=>o = some (((c3Z k sec left p).1,((c3Z k sec left p).2,())),())) ?_
 unfold b2T c3Z
 have c1:(I.of .u64 1).val = 1:=rfl
 have c2:(I.of .u64 1048576).val = 1048576:=rfl
 refine Wp.jn (fun x=>(1 ≤ sec.val∧sec.val ≤ 1048576)∧x = ((sec,(left,())),(k,(p,(a4K,()))))) ?_ ?_
 ·
  rintro x ⟨hs,rfl⟩
  rw [if_pos hs]
  refine Wp.optF (g4R left p) ?_
  refine Wp.brn (fun h=>?_) (fun h=>?_)
  ·
   have h:(d1B left p).2.val ≠ 0:=iff_neb.1 h
   simp only [if_pos h]
   rfl
  ·
   have h:¬ (d1B left p).2.val ≠ 0:=by have h:(d1B left p).2.val = 0:=niff_neb.1 h; omega
   simp only [if_neg h]
   refine Wp.brn (fun h=>?_) (fun h=>?_)
   ·
    rw [if_pos (by have:=iff_eqb.1 h; exact this)]
    rfl
   ·
    rw [if_neg (by have:=niff_eqb.1 h; exact this)]
    refine Wp.brn (fun h=>?_) (fun h=>?_)
    ·
     rw [if_pos (by have:=iff_ltb.1 h; exact this)]
     rfl
    ·
     rw [if_neg (by have:=niff_ltb.1 h; omega)]
     rfl
 ·
  intro j hj
  refine Wp.brn (fun h=>?_) (fun h=>?_)
  ·
   have h:=iff_ltb.1 h
   rw [if_neg (by simp only [c1] at h; omega)]
   rfl
  ·
   have h:=niff_ltb.1 h
   refine Wp.brn (fun h2=>?_) (fun h2=>?_)
   ·
    have h2:=iff_ltb.1 h2
    rw [if_neg (by simp only [c2] at h2; omega)]
    rfl
   ·
    have h2:=niff_ltb.1 h2
    exact hj _ ⟨by simp only [c1,c2] at h h2; omega,rfl⟩
end Sym

/- Hashes and trees of the reference: they end. -/
namespace Sym
open Go
def Tot {Y:Type} (o:Option Y):Prop:=∃ y,o = some y
theorem Wp.tot {R Y:Type} {T:R→Prop} {fail:R} {o:Option Y} {k:Y→R} (ho:Tot o) (h:∀ y,Wp T (k y)):Wp T (Sym.optF fail o k):=by
 obtain ⟨y,rfl⟩:=ho
 exact h y
abbrev Hs:Type:=a0G
theorem b6F {X:Type} (l:List X) (a n:Nat):(a4I l a n).length = min n (l.length - a):=by
 unfold a4I
 rw [List.length_take,List.length_drop]
theorem b3T (a:I .u32) (b:I .u64):Tot (a2Q K0 ((a,(b,())),())):=by
 refine Wp.out (T:=fun o=>Tot o) ?_
 unfold a2Q
 exact Wp.brnT (c2Q _) (Wp.brnT (c2Q _) ⟨_,rfl⟩)
theorem e8D (a:b5Q) (b:List (I .u8)) (hb:b.length = 64):Tot (b2X K0 ((a,(b,())),())):=by
 refine Wp.out (T:=fun o=>Tot o) ?_
 unfold b2X
 refine Wp.tot ⟨_,rfl⟩ (fun y0=>?_)
 have m4:∀ i,i < 16→I.mul (I.of .i64 4) (i6 i) = i6 (4 * i):=by
  intro i hi
  apply I.ext'
  rw [c3J (by rw [a0W (by omega),show (I.of .i64 4).val = 4 from rfl]; omega),a0W (by omega),a0W (by omega),show (I.of .i64 4).val = 4 from rfl]
  omega
 have ad:∀ (i j:Nat),i < 64→j < 64→I.add (i6 i) (I.of .i64 (j:Int)) = i6 (i + j):=fun i j hi hj=>a3S (by omega)
 have sb:∀ (i j:Nat),i < 64→j ≤ i→I.sub (i6 i) (I.of .i64 (j:Int)) = i6 (i - j):=fun i j hi hj=>c1O (by omega) hj
 have inb:∀ i n,i < n→n < 1000→inB (i6 i) n = true:=fun i n h h2=>a3F h (by omega)
 refine Wp.iter (fun x=>x.1.1 = b∧∃ i,i ≤ 64∧x.1.2.1 = i6 i) (fun x=>64 - x.1.2.1.val.toNat) ?_ ⟨rfl,0,by omega,rfl⟩ (by rw [a7L]; show 64 - 0 < _; decide)
 rintro ⟨⟨b',j,⟨⟩⟩,x2⟩ ⟨e,i,hi,e2⟩
 simp only at e e2
 subst e e2
 have hm:∀ j,j = i + 1→64 - (i6 j).val.toNat < 64 - (i6 i).val.toNat ∨ 64 ≤ i:=by
  intro j hj; rw [a0W (by omega),a0W (by omega)]; omega
 have hn:I.add (i6 i) (I.of .i64 1) = i6 (i + 1):=a3S (m:=1) (by omega)
 have hlen:a0K b' = 64:=hb
 refine Wp.brn (fun hc=>?_) (fun hc=>?_)
 ·
  have hc:i < 64:=by have:=iff_ltb.1 hc; simp only [a0W (show i < 9223372036854775808 by omega),show (I.of .i64 64).val = 64 from rfl] at this; omega
  have ag:∀ z,Wp (Rnd (fun o:Option _=>Tot o) (fun x:((List (I .u8)) × ((I .i64) × Unit)) × _=>x.1.1 = b'∧∃ i,i ≤ 64∧x.1.2.1 = i6 i) (fun x=>64 - x.1.2.1.val.toNat) (64 - (i6 i).val.toNat)) (.again ((b',(I.add (i6 i) (I.of .i64 1),())),z):Stp (((List (I .u8)) × ((I .i64) × Unit)) × (b5Q × (b5Q × (c3H × (c3H × Unit))))) (Option ((⟨[.pl (.arr 8 (.int .u32))],[]⟩:Tm).D))):=by
   intro z
   refine Wp.again ⟨rfl,i + 1,by omega,hn⟩ ?_
   show 64 - (I.add (i6 i) (I.of .i64 1)).val.toNat < _
   rw [hn]
   exact (hm _ rfl).resolve_right (by omega)
  refine Wp.brn (fun h16=>?_) (fun h16=>?_)
  ·
   have h16:i < 16:=by have:=iff_ltb.1 h16; simp only [a0W (show i < 9223372036854775808 by omega),show (I.of .i64 16).val = 16 from rfl] at this; omega
   simp only [m4 i h16,hlen]
   rw [show I.add (i6 (4 * i)) (I.of .i64 1) = i6 (4 * i + 1) from ad (4 * i) 1 (by omega) (by omega),show I.add (i6 (4 * i)) (I.of .i64 2) = i6 (4 * i + 2) from ad (4 * i) 2 (by omega) (by omega),show I.add (i6 (4 * i)) (I.of .i64 3) = i6 (4 * i + 3) from ad (4 * i) 3 (by omega) (by omega)]
   exact Wp.brnT (inb _ _ (by omega) (by omega)) (Wp.brnT (inb _ _ (by omega) (by omega)) (Wp.brnT (inb _ _ (by omega) (by omega)) (Wp.brnT (inb _ _ (by omega) (by omega)) (Wp.brnT (inb _ _ (by omega) (by omega)) (ag _)))))
  ·
   have h16:16 ≤ i:=by have:=niff_ltb.1 h16; simp only [a0W (show i < 9223372036854775808 by omega),show (I.of .i64 16).val = 16 from rfl] at this; omega
   rw [show I.sub (i6 i) (I.of .i64 15) = i6 (i - 15) from sb i 15 hc (by omega),show I.sub (i6 i) (I.of .i64 2) = i6 (i - 2) from sb i 2 hc (by omega),show I.sub (i6 i) (I.of .i64 16) = i6 (i - 16) from sb i 16 hc (by omega),show I.sub (i6 i) (I.of .i64 7) = i6 (i - 7) from sb i 7 hc (by omega)]
   refine Wp.brnT (inb _ _ (by omega) (by omega)) (Wp.brnT (inb _ _ (by omega) (by omega)) (Wp.brnT (inb _ _ (by omega) (by omega)) (Wp.tot (b3T _ _) fun y2=>Wp.tot (b3T _ _) fun y3=>Wp.brnT (inb _ _ (by omega) (by omega)) (Wp.tot (b3T _ _) fun y4=>Wp.tot (b3T _ _) fun y5=>Wp.brnT (inb _ _ (by omega) (by omega)) (ag _)))))
 ·
  refine Wp.done ?_
  refine Wp.iter (fun x=>∃ i,i ≤ 64∧x.1.1 = i6 i) (fun x=>64 - x.1.1.val.toNat) ?_ ⟨0,by omega,rfl⟩ (by rw [a7L]; show 64 - 0 < _; decide)
  rintro ⟨⟨j,⟨⟩⟩,x2⟩ ⟨k,hk,e2⟩
  simp only at e2
  subst e2
  refine Wp.brn (fun hc=>?_) (fun hc=>?_)
  ·
   have hc:k < 64:=by have:=iff_ltb.1 hc; simp only [a0W (show k < 9223372036854775808 by omega),show (I.of .i64 64).val = 64 from rfl] at this; omega
   have hn:I.add (i6 k) (I.of .i64 1) = i6 (k + 1):=a3S (m:=1) (by omega)
   refine Wp.tot (b3T _ _) fun y3=>Wp.tot (b3T _ _) fun y4=>Wp.tot (b3T _ _) fun y5=>Wp.brnT (inb _ _ hc (by omega)) (Wp.brnT (inb _ _ hc (by omega)) (Wp.tot (b3T _ _) fun y6=>Wp.tot (b3T _ _) fun y7=>Wp.tot (b3T _ _) fun y8=>?_))
   refine Wp.again ⟨k + 1,by omega,hn⟩ ?_
   show 64 - (I.add (i6 k) (I.of .i64 1)).val.toNat < 64 - (i6 k).val.toNat
   rw [hn,a0W (by omega),a0W (by omega)]; omega
  ·
   refine Wp.done ?_
   refine Wp.iter (fun x=>∃ i,i ≤ 8∧x.1.1 = i6 i) (fun x=>8 - x.1.1.val.toNat) ?_ ⟨0,by omega,rfl⟩ (by rw [a7L]; show 8 - 0 < _; decide)
   rintro ⟨⟨j,⟨⟩⟩,x3⟩ ⟨q,hq,e2⟩
   simp only at e2
   subst e2
   refine Wp.brn (fun hc=>?_) (fun hc=>Wp.done ⟨_,rfl⟩)
   have hc:q < 8:=by have:=iff_ltb.1 hc; simp only [a0W (show q < 9223372036854775808 by omega),show (I.of .i64 8).val = 8 from rfl] at this; omega
   have hn:I.add (i6 q) (I.of .i64 1) = i6 (q + 1):=a3S (m:=1) (by omega)
   refine Wp.brnT (inb _ _ hc (by omega)) (Wp.brnT (inb _ _ hc (by omega)) (Wp.brnT (inb _ _ hc (by omega)) ?_))
   refine Wp.again ⟨q + 1,by omega,hn⟩ ?_
   show 8 - (I.add (i6 q) (I.of .i64 1)).val.toNat < 8 - (i6 q).val.toNat
   rw [hn,a0W (by omega),a0W (by omega)]; omega
end Sym

/- Hashes and trees of the reference: they end, continued. -/
namespace Sym
open Go
abbrev By:Type:=List (I .u8)
theorem e4B:(f1H).length = 1:=rfl
theorem c5X:(d6M).length = 1:=rfl
theorem a8C {X:Type} (a b:List X):(a2E a b).length = a.length + b.length:=List.length_append
theorem b9K {X:Type} (a b:List X) (h:a.length + b.length ≤ 1073741824):a1L (a0K (a2E a b)) = true:=b4G (by show (a2E a b).length ≤ _; rw [a8C]; exact h)
theorem i6_neb' {n m:Nat} (hn:n < 9223372036854775808) (hm:m < 9223372036854775808):I.neb (i6 n) (i6 m) = decide (n ≠ m):=by
 simp only [I.neb,a0W hn,a0W hm]
 by_cases h:n = m
 ·
  subst h; simp
 ·
  simp [h]; omega
theorem g4N {n m:Nat} (hn:n < 9223372036854775808) (hm:0 < m) (hm2:m < 9223372036854775808):I.rem (i6 n) (i6 m) = i6 (n % m):=by
 apply I.ext'
 rw [b6V (by rw [a0W hn]; omega) (by rw [a0W hm2]; omega),a0W hn,a0W hm2,a0W (Nat.lt_of_lt_of_le (Nat.mod_lt _ hm) (by omega))]
 omega
theorem g3H {n m:Nat} (hn:n < 9223372036854775808) (hm:0 < m) (hm2:m < 9223372036854775808):I.quo (i6 n) (i6 m) = i6 (n / m):=by
 apply I.ext'
 rw [b8H (by rw [a0W hn]; omega) (by rw [a0W hm2]; omega),a0W hn,a0W hm2,a0W (Nat.lt_of_le_of_lt (Nat.div_le_self _ _) hn)]
 omega
theorem d5B (a:By) (ha:a.length ≤ 1073741000):Tot (a9S K0 ((a,()),())):=by
 refine Wp.out (T:=fun o=>Tot o) ?_
 unfold a9S
 refine Wp.brnT (b9K _ _ (by show 0 + a.length ≤ _; omega)) (Wp.brnT (b9K _ _ (by rw [a8C,e4B]; show 0 + a.length + 1 ≤ _; omega)) ?_)
 refine Wp.iter (fun x=>x.1.1 = a∧List.length x.2.2.1 + (120 - List.length x.2.2.1 % 64) % 64 ≤ a.length + 64) (fun x=>(120 - List.length x.2.2.1 % 64) % 64) ?_ ⟨rfl,?_⟩ (by rw [a7L]; exact Nat.lt_of_lt_of_le (Nat.mod_lt _ (by decide)) (by decide))
 case refine_2 =>
  show (a2E (a2E [] a) f1H).length + (120 - (a2E (a2E [] a) f1H).length % 64) % 64 ≤ a.length + 64
  rw [a8C,a8C,e4B]
  show 0 + a.length + 1 + _ ≤ _
  omega
 rintro ⟨⟨a',⟨⟩⟩,u,l,⟨⟩⟩ ⟨e,hl⟩
 simp only at e hl
 subst e
 have hl0:l.length ≤ 1073741064:=by omega
 simp only [b1E,a8S,show (I.of .i64 64) = i6 64 from rfl,show (I.of .i64 56) = i6 56 from rfl,g4N (show l.length < 9223372036854775808 by omega) (show 0 < 64 by omega) (by omega),i6_neb' (show l.length % 64 < 9223372036854775808 by omega) (show 56 < 9223372036854775808 by omega)]
 refine Wp.brn (fun hc=>?_) (fun hc=>?_)
 ·
  have hc:=of_decide_eq_true hc
  refine Wp.brnT (b9K _ _ (by rw [c5X]; omega)) ?_
  refine Wp.again ⟨rfl,?_⟩ ?_
  ·
   show (a2E l d6M).length + (120 - (a2E l d6M).length % 64) % 64 ≤ a'.length + 64
   rw [a8C,c5X]
   omega
  ·
   show (120 - (a2E l d6M).length % 64) % 64 < (120 - l.length % 64) % 64
   rw [a8C,c5X]
   omega
 ·
  have hc:l.length % 64 = 56:=by have:=of_decide_eq_false hc; omega
  refine Wp.done ?_
  refine Wp.iter (fun x=>∃ j:Nat,j ≤ 8∧x.1.2.1.val = 7 - (j:Int)∧List.length x.2.2.1 = l.length + j) (fun x=>(x.1.2.1.val + 1).toNat) ?_ ⟨0,by omega,rfl,rfl⟩ (by rw [a7L]; show ((I.of .i64 7).val + 1).toNat < _; decide)
  rintro ⟨⟨n,i,⟨⟩⟩,u,l2,⟨⟩⟩ ⟨j,hj,hi,hl2⟩
  simp only at hi hl2
  have c8:(I.of .i64 8).val = 8:=rfl
  refine Wp.brn (fun hc=>?_) (fun hc=>?_)
  ·
   have hc:0 ≤ i.val:=iff_leb.1 hc
   refine Wp.brnT (c2Q _) (Wp.brnT (b9K _ _ (by show l2.length + 1 ≤ _; omega)) ?_)
   have hs:(I.sub i (I.of .i64 1)).val = i.val - 1:=by rw [a9P (by rw [show (I.of .i64 1).val = 1 from rfl]; omega)]; rfl
   refine Wp.again ⟨j + 1,by omega,by show (I.sub i (I.of .i64 1)).val = _; rw [hs]; omega,?_⟩ ?_
   ·
    show (a2E l2 [_]).length = _
    rw [a8C,hl2]
    rfl
   ·
    show ((I.sub i (I.of .i64 1)).val + 1).toNat < (i.val + 1).toNat
    rw [hs]; omega
  ·
   have hc:i.val < 0:=niff_leb.1 hc
   have hj8:j = 8:=by omega
   subst hj8
   obtain ⟨m,hm⟩:∃ m,l2.length = 64 * m:=⟨l2.length / 64,by omega⟩
   refine Wp.done ?_
   refine Wp.iter (fun x=>∃ q,q ≤ m∧x.1.1 = i6 (64 * q)∧x.2.2.1 = l2) (fun x=>64 * m - x.1.1.val.toNat) ?_ ⟨0,by omega,rfl,rfl⟩ (by rw [a7L]; show 64 * m - 0 < _; omega)
   rintro ⟨⟨i2,⟨⟩⟩,u,l3,y,⟨⟩⟩ ⟨q,hq,e1,e2⟩
   simp only at e1 e2
   subst e1 e2
   have hadd:I.add (i6 (64 * q)) (i6 64) = i6 (64 * q + 64):=a3S (m:=64) (by omega)
   simp only [hm,hadd,a2U (show 64 * q < 9223372036854775808 by omega) (show 64 * m < 9223372036854775808 by omega),a3A (show 64 * q < 9223372036854775808 by omega),a3A (show 64 * q + 64 < 9223372036854775808 by omega)]
   refine Wp.brn (fun hc=>?_) (fun hc=>?_)
   ·
    have hc:=of_decide_eq_true hc
    refine Wp.brnT (i6_inB' (by omega) (by omega)) (Wp.brnT (i6_inB' (by omega) (by omega)) ?_)
    have hb64:(a4I l3 (64 * q) (64 * q + 64 - 64 * q)).length = 64:=by rw [b6F,hm]; omega
    refine Wp.tot (e8D y _ hb64) fun y3=>?_
    refine Wp.again ⟨q + 1,by omega,?_,rfl⟩ ?_
    ·
     show i6 (64 * q + 64) = i6 (64 * (q + 1))
     rw [show 64 * (q + 1) = 64 * q + 64 by omega]
    ·
     show 64 * m - (i6 (64 * q + 64)).val.toNat < 64 * m - (i6 (64 * q)).val.toNat
     rw [a0W (by omega),a0W (by omega)]; omega
   ·
    refine Wp.done ?_
    refine Wp.iter (fun x=>∃ i,i ≤ 32∧x.1.1 = i6 i) (fun x=>32 - x.1.1.val.toNat) ?_ ⟨0,by omega,rfl⟩ (by rw [a7L]; show 32 - 0 < _; decide)
    rintro ⟨⟨i3,⟨⟩⟩,x3⟩ ⟨k,hk,e2⟩
    simp only at e2
    subst e2
    simp only [show (I.of .i64 4) = i6 4 from rfl,show (I.of .i64 32) = i6 32 from rfl,g3H (show k < 9223372036854775808 by omega) (show 0 < 4 by omega) (by omega),a2U (show k < 9223372036854775808 by omega) (show 32 < 9223372036854775808 by omega)]
    refine Wp.brn (fun hc=>?_) (fun hc=>Wp.done ⟨_,rfl⟩)
    have hc:=of_decide_eq_true hc
    refine Wp.brnT (a3F (by omega) (by omega)) (Wp.brnT (c2Q _) (Wp.brnT (a3F hc (by omega)) ?_))
    have hn:I.add (i6 k) (I.of .i64 1) = i6 (k + 1):=a3S (m:=1) (by omega)
    refine Wp.again ⟨k + 1,by omega,hn⟩ ?_
    show 32 - (I.add (i6 k) (I.of .i64 1)).val.toNat < 32 - (i6 k).val.toNat
    rw [hn,a0W (by omega),a0W (by omega)]; omega
theorem f1F (a:By) (ha:a.length ≤ 1073740999):Tot (b3V K0 ((a,()),())):=by
 refine Wp.out (T:=fun o=>Tot o) ?_
 unfold b3V
 refine Wp.brnT (b9K _ _ (by rw [c5X]; show 1 + a.length ≤ _; omega)) (Wp.tot (d5B (a2E d6M a) (by rw [a8C,c5X]; omega)) fun y=>⟨_,rfl⟩)
theorem f6K (a:Hs):(a4I (Arr.list 32 a) 0 32).length = 32:=by
 rw [b6F]
 rfl
theorem d6A (a b:Hs):Tot (a8M K0 ((a,(b,())),())):=by
 refine Wp.out (T:=fun o=>Tot o) ?_
 unfold a8M
 have ha:=f6K a
 have hb:=f6K b
 have h1:(a2E f4W (a4I (Arr.list 32 a) 0 32)).length = 33:=by rw [a8C,ha]; rfl
 refine Wp.brnT (b9K _ _ (by rw [ha]; decide)) (Wp.brnT (b9K _ _ (by rw [h1,hb]; decide)) (Wp.tot (d5B _ (by rw [a8C,h1,hb]; decide)) fun y=>⟨_,rfl⟩))
end Sym

/- Messages' leaves, roots and proofs of the reference: they end. -/
namespace Sym
open Go
theorem e6S (a:U):∃ y,b1Y K0 ((a,()),()) = some y∧∃ l:By,y = ((l,()),())∧l.length ≤ 32:=by
 refine Wp.out (T:=fun o=>∃ y,o = some y∧∃ l:By,y = ((l,()),())∧l.length ≤ 32) ?_
 unfold b1Y
 refine Wp.iter (fun x=>∃ j:Nat,j ≤ 32∧x.1.1.val = 31 - (j:Int)∧List.length x.2.2.1 ≤ j) (fun x=>(x.1.1.val + 1).toNat) ?_ ⟨0,by omega,rfl,Nat.le_refl _⟩ (by rw [a7L]; show ((I.of .i64 31).val + 1).toNat < _; decide)
 rintro ⟨⟨i,⟨⟩⟩,u,l,⟨⟩⟩ ⟨j,hj,hi,hl⟩
 simp only at hi hl
 refine Wp.brn (fun hc=>?_) (fun hc=>?_)
 ·
  have hc:0 ≤ i.val:=iff_leb.1 hc
  have hq:(I.quo i (I.of .i64 8)).val = i.val / 8:=b8H hc (by decide)
  have hs:(I.sub i (I.of .i64 1)).val = i.val - 1:=by rw [a9P (by rw [show (I.of .i64 1).val = 1 from rfl]; omega)]; rfl
  have hin:inB (I.quo i (I.of .i64 8)) 4 = true:=iff_inB.2 (by rw [hq]; omega)
  have hmu:((I.sub i (I.of .i64 1)).val + 1).toNat < (i.val + 1).toNat:=by rw [hs]; omega
  have hv:(I.sub i (I.of .i64 1)).val = 31 - ((j + 1:Nat):Int):=by rw [hs]; omega
  have hlen:∀ b:I .u8,(a2E l [b]).length ≤ j + 1:=fun b=>by rw [a8C]; show l.length + 1 ≤ _; omega
  have hfit:∀ b:I .u8,a1L (a0K (a2E l [b])) = true:=fun b=>b9K _ _ (by show l.length + 1 ≤ _; omega)
  refine Wp.brnT hin (Wp.brnT (c2Q _) (Wp.brn (fun _=>Wp.brnT (hfit _) (Wp.again ⟨j + 1,by omega,hv,hlen _⟩ hmu)) (fun _=>Wp.brn (fun _=>Wp.brnT (hfit _) (Wp.again ⟨j + 1,by omega,hv,hlen _⟩ hmu)) (fun _=>Wp.again ⟨j + 1,by omega,hv,Nat.le_succ_of_le hl⟩ hmu))))
 ·
  exact Wp.done ⟨_,rfl,l,rfl,by omega⟩
theorem d3A (a:By) (b:U) (ha:a.length ≤ 1000000000):∃ y,a4X K0 ((a,(b,())),()) = some y∧∃ l:By,y = ((l,()),())∧l.length ≤ a.length + 33:=by
 refine Wp.out (T:=fun o=>∃ y,o = some y∧∃ l:By,y = ((l,()),())∧l.length ≤ a.length + 33) ?_
 unfold a4X
 obtain ⟨y,hy,d,rfl,hd⟩:=e6S b
 refine Wp.optF hy ?_
 have h0:(a2E ([]:By) a).length = a.length:=by rw [a8C]; show 0 + _ = _; omega
 have h1:∀ z:I .u8,(a2E (a2E ([]:By) a) [z]).length = a.length + 1:=fun z=>by rw [a8C,h0]; rfl
 refine Wp.brnT (b4G (by show (a2E ([]:By) a).length ≤ _; rw [h0]; omega)) (Wp.brnT (b4G (by show (a2E (a2E ([]:By) a) [_]).length ≤ _; rw [h1]; omega)) (Wp.brnT (b9K _ _ (by rw [h1]; show a.length + 1 + d.length ≤ _; omega)) ?_))
 refine ⟨_,rfl,_,rfl,?_⟩
 show (a2E (a2E (a2E ([]:By) a) [_]) d).length ≤ _
 rw [a8C,h1]
 omega
theorem d9F (a:By) (b:I .u64) (ha:a.length ≤ 1000000000):∃ y,a5F K0 ((a,(b,())),()) = some y∧∃ l:By,y = ((l,()),())∧l.length ≤ a.length + 33:=by
 refine Wp.out (T:=fun o=>∃ y,o = some y∧∃ l:By,y = ((l,()),())∧l.length ≤ a.length + 33) ?_
 unfold a5F
 obtain ⟨y,hy,d,rfl,hd⟩:=d3A a (b,((I.of .u64 0),((I.of .u64 0),((I.of .u64 0),())))) ha
 exact Wp.optF hy ⟨_,rfl,d,rfl,hd⟩
abbrev Msg:Type:=a0C
theorem d3S (m:Msg):Tot (a6K K0 ((m,()),())):=by
 refine Wp.out (T:=fun o=>Tot o) ?_
 unfold a6K
 have henc:∃ y,b0O K0 ((m,()),()) = some y∧∃ l:By,y = ((l,()),())∧l.length ≤ 99:=by
  refine Wp.out (T:=fun o=>∃ y,o = some y∧∃ l:By,y = ((l,()),())∧l.length ≤ 99) ?_
  unfold b0O
  obtain ⟨y,hy,l0,rfl,h0⟩:=d9F [] m.1 (Nat.zero_le _)
  obtain ⟨y,hy1,l1,rfl,h1⟩:=d9F l0 m.2.1 (by have:l0.length ≤ 0 + 33:=h0; omega)
  obtain ⟨y,hy2,l2,rfl,h2⟩:=d3A l1 m.2.2.1 (by have:l0.length ≤ 0 + 33:=h0; omega)
  exact Wp.optF hy (Wp.optF hy1 (Wp.optF hy2 ⟨_,rfl,l2,rfl,by have:l0.length ≤ 0 + 33:=h0; omega⟩))
 obtain ⟨y,hy,l,rfl,hl⟩:=henc
 exact Wp.optF hy (Wp.tot (f1F l (by omega)) fun y=>⟨_,rfl⟩)
theorem d4H (l:List Msg) (n:Nat) (hn:n ≤ l.length) (hl:l.length ≤ 1073741824):∃ y,a8B K0 ((l,(i6 n,())),()) = some y∧∃ o:List Hs,y = ((o,()),())∧o.length = n:=by
 refine Wp.out (T:=fun o=>∃ y,o = some y∧∃ o:List Hs,y = ((o,()),())∧o.length = n) ?_
 unfold a8B
 refine Wp.iter (fun x=>∃ (i:Nat) (o:List Hs),x = ((l,(i6 n,(i6 i,()))),(o,()))∧i ≤ n∧o.length = i) (fun x=>n - x.1.2.2.1.val.toNat) ?_ ⟨0,[],rfl,by omega,rfl⟩ (by rw [a7L]; show n - 0 < _; omega)
 rintro x ⟨i,o,rfl,hi,ho⟩
 simp only [b1E,b4I,a2U (show i < 9223372036854775808 by omega) (show n < 9223372036854775808 by omega),a3A (show i < 9223372036854775808 by omega),a3S (show i + 1 < 9223372036854775808 by omega)]
 refine Wp.brn (fun hc=>?_) (fun hc=>?_)
 ·
  have hc:=of_decide_eq_true hc
  refine Wp.brnT (a3F (by omega) (by omega)) (Wp.tot (d3S _) fun y1=>Wp.brnT (b9K _ _ (by show o.length + 1 ≤ _; omega)) ?_)
  refine Wp.again ⟨i + 1,_,rfl,by omega,?_⟩ ?_
  ·
   rw [a8C,ho]; rfl
  ·
   show n - (i6 (i + 1)).val.toNat < n - (i6 i).val.toNat
   rw [a0W (by omega),a0W (by omega)]; omega
 ·
  have hc:=of_decide_eq_false hc
  exact Wp.done ⟨_,rfl,o,rfl,by omega⟩
theorem d1L (n:Nat) (h2:2 ≤ n) (hn:n ≤ 4611686018427387904):∃ k,a4W K0 ((i6 n,()),()) = some ((i6 k,()),())∧1 ≤ k∧k < n:=by
 refine Wp.out (T:=fun o=>∃ k,o = some ((i6 k,()),())∧1 ≤ k∧k < n) ?_
 unfold a4W
 refine Wp.iter (fun x=>∃ k,x = ((i6 n,(i6 k,())),())∧1 ≤ k∧k < n) (fun x=>n - x.1.2.1.val.toNat) ?_ ⟨1,rfl,by omega,by omega⟩ (by rw [a7L]; show n - 1 < _; omega)
 rintro x ⟨k,rfl,hk,hkn⟩
 have hs:I.sub (i6 n) (i6 k) = i6 (n - k):=c1O (by omega) (by omega)
 have hm:I.mul (I.of .i64 2) (i6 k) = i6 (2 * k):=by
  apply I.ext'
  rw [c3J (by rw [a0W (by omega),show (I.of .i64 2).val = 2 from rfl]; omega),a0W (by omega),a0W (by omega),show (I.of .i64 2).val = 2 from rfl]
  omega
 simp only [hs,hm,a2U (show k < 9223372036854775808 by omega) (show n - k < 9223372036854775808 by omega)]
 refine Wp.brn (fun hc=>?_) (fun hc=>Wp.done ⟨k,rfl,hk,hkn⟩)
 have hc:=of_decide_eq_true hc
 refine Wp.again ⟨2 * k,rfl,by omega,by omega⟩ ?_
 show n - (i6 (2 * k)).val.toNat < n - (i6 k).val.toNat
 rw [a0W (by omega),a0W (by omega)]; omega
theorem e6E:∀ (k:Nat) (l:List Hs),l.length ≤ k→l.length ≤ 1073741824→Tot (a3D K0 (k + 1) ((l,()),())):=by
 intro k
 induction k with
 | zero =>
  intro l hl _
  have hl:l = []:=List.eq_nil_of_length_eq_zero (by omega)
  subst hl
  refine Wp.out (T:=fun o=>Tot o) ?_
  show Wp _ (a6H K0 (a3D K0 _) _)
  unfold a6H
  exact Wp.brnT rfl (Wp.tot (d5B [] (Nat.zero_le _)) fun y=>⟨_,rfl⟩)
 | succ k ih =>
  intro l hl hb
  refine Wp.out (T:=fun o=>Tot o) ?_
  show Wp _ (a6H K0 (a3D K0 _) _)
  unfold a6H
  have e0:I.eqb (I.ofNat .i64 l.length) (I.of .i64 0) = decide (l.length = 0):=d7Z (m:=0) (by omega) (by omega)
  have e1:I.eqb (I.ofNat .i64 l.length) (I.of .i64 1) = decide (l.length = 1):=d7Z (m:=1) (by omega) (by omega)
  refine Wp.brn (fun h=>Wp.tot (d5B [] (Nat.zero_le _)) fun y=>⟨_,rfl⟩) (fun h=>?_)
  have h:I.eqb (I.ofNat .i64 l.length) (I.of .i64 0) = false:=h
  rw [e0] at h
  have h:=of_decide_eq_false h
  refine Wp.brn (fun h1=>?_) (fun h1=>?_)
  ·
   exact Wp.brnT (a3F (n:=0) (by show 0 < l.length; omega) (by omega)) ⟨_,rfl⟩
  ·
   have h1:I.eqb (I.ofNat .i64 l.length) (I.of .i64 1) = false:=h1
   rw [e1] at h1
   have h1:=of_decide_eq_false h1
   obtain ⟨s,hs,s1,s2⟩:=d1L l.length (by omega) (by omega)
   refine Wp.optF hs ?_
   have hin:inB' (i6 s) l.length = true:=i6_inB' (by omega) (by omega)
   have l1:(a4I l 0 s).length = s:=by rw [b6F]; omega
   have l2:(a4I l s (l.length - s)).length = l.length - s:=by rw [b6F]; omega
   have n1:I.nat (i6 s) = s:=a3A (by omega)
   have r1:=ih (a4I l 0 s) (by omega) (by omega)
   have r2:=ih (a4I l s (l.length - s)) (by omega) (by omega)
   refine Wp.brnT hin (Wp.tot (by show Tot (a3D K0 (k + 1) ((a4I l 0 (I.nat (i6 s)),()),())); rw [n1]; exact r1) fun y1=>Wp.brnT hin (Wp.tot (by show Tot (a3D K0 (k + 1) ((a4I l (I.nat (i6 s)) (a0K l - I.nat (i6 s)),()),())); rw [n1]; exact r2) fun y2=>Wp.tot (d6A _ _) fun y3=>⟨_,rfl⟩))
theorem e1J (n:Nat) (h:n ≤ 1000000000000):∃ k,K0 = k + 1∧n ≤ k:=⟨K0 - 1,by rw [a7L],by rw [a7L]; omega⟩
theorem d1X (l:List Hs) (hl:l.length ≤ 1073741824):Tot (a4S K0 ((l,()),())):=by
 unfold a4S
 obtain ⟨k,e,hk⟩:=e1J l.length (by omega)
 have:=e6E k l hk hl
 rw [← e] at this
 exact this
theorem e7A (l:List Msg) (hl:l.length ≤ 1073741824):Tot (a9U K0 ((l,(i6 l.length,())),())):=by
 refine Wp.out (T:=fun o=>Tot o) ?_
 unfold a9U
 refine Wp.jn (fun x=>∃ h:Hs,x = ((l,(i6 l.length,())),(h,()))) ?_ ?_
 ·
  rintro x ⟨h,rfl⟩
  obtain ⟨y,hy,o,rfl,ho⟩:=d4H l l.length (Nat.le_refl _) hl
  exact Wp.optF hy (Wp.tot (d1X o (by omega)) fun y=>⟨_,rfl⟩)
 ·
  intro j hj
  exact Wp.brn (fun _=>⟨_,rfl⟩) (fun _=>Wp.brn (fun _=>⟨_,rfl⟩) (fun _=>hj _ ⟨_,rfl⟩))
end Sym

/- Proofs of the reference: they end. -/
namespace Sym
open Go
theorem e7Q:∀ (k:Nat) (l:List Hs) (i:I .i64),l.length ≤ k→l.length ≤ 1073741824→∃ y,a3Q K0 (k + 1) ((l,(i,())),()) = some y∧∃ o:List Hs,y = ((),(o,()))∧o.length ≤ l.length:=by
 intro k
 induction k with
 | zero =>
  intro l i hl _
  have hl:l = []:=List.eq_nil_of_length_eq_zero (by omega)
  subst hl
  refine Wp.out (T:=fun o=>∃ y,o = some y∧∃ o:List Hs,y = ((),(o,()))∧o.length ≤ ([]:List Hs).length) ?_
  show Wp _ (a6V K0 (a3Q K0 _) _)
  unfold a6V
  exact Wp.brnT rfl ⟨_,rfl,[],rfl,Nat.le_refl _⟩
 | succ k ih =>
  intro l i hl hb
  refine Wp.out (T:=fun o=>∃ y,o = some y∧∃ o:List Hs,y = ((),(o,()))∧o.length ≤ l.length) ?_
  show Wp _ (a6V K0 (a3Q K0 _) _)
  unfold a6V
  have e2:I.ltb (I.ofNat .i64 l.length) (I.of .i64 2) = decide (l.length < 2):=a2U (m:=2) (by omega) (by omega)
  refine Wp.brn (fun h=>⟨_,rfl,[],rfl,Nat.zero_le _⟩) (fun h=>?_)
  have h:I.ltb (I.ofNat .i64 l.length) (I.of .i64 2) = false:=h
  rw [e2] at h
  have h:=of_decide_eq_false h
  obtain ⟨s,hs,s1,s2⟩:=d1L l.length (by omega) (by omega)
  refine Wp.optF hs ?_
  have hin:inB' (i6 s) l.length = true:=i6_inB' (by omega) (by omega)
  have l1:(a4I l 0 s).length = s:=by rw [b6F]; omega
  have l2:(a4I l s (l.length - s)).length = l.length - s:=by rw [b6F]; omega
  have n1:I.nat (i6 s) = s:=a3A (by omega)
  refine Wp.brn (fun _=>?_) (fun _=>?_)
  ·
   refine Wp.brnT hin ?_
   obtain ⟨y,hy,o,rfl,ho⟩:=ih (a4I l 0 s) i (by omega) (by omega)
   have r2:=d1X (a4I l s (l.length - s)) (by omega)
   refine Wp.optF (y:=((),(o,()))) (by show a3Q K0 (k + 1) ((a4I l 0 (I.nat (i6 s)),(i,())),()) = _; rw [n1]; exact hy) (Wp.brnT hin (Wp.tot (by show Tot (a4S K0 ((a4I l (I.nat (i6 s)) (a0K l - I.nat (i6 s)),()),())); rw [n1]; exact r2) fun y2=>Wp.brnT (b9K _ _ (by show o.length + 1 ≤ _; omega)) ⟨_,rfl,_,rfl,?_⟩))
   show (a2E o [_]).length ≤ _
   rw [a8C]
   show o.length + 1 ≤ _
   omega
  ·
   refine Wp.brnT hin ?_
   obtain ⟨y,hy,o,rfl,ho⟩:=ih (a4I l s (l.length - s)) (I.sub i (i6 s)) (by omega) (by omega)
   have r2:=d1X (a4I l 0 s) (by omega)
   refine Wp.optF (y:=((),(o,()))) (by show a3Q K0 (k + 1) ((a4I l (I.nat (i6 s)) (a0K l - I.nat (i6 s)),(I.sub i (i6 s),())),()) = _; rw [n1]; exact hy) (Wp.brnT hin (Wp.tot (by show Tot (a4S K0 ((a4I l 0 (I.nat (i6 s)),()),())); rw [n1]; exact r2) fun y2=>Wp.brnT (b9K _ _ (by show o.length + 1 ≤ _; omega)) ⟨_,rfl,_,rfl,?_⟩))
   show (a2E o [_]).length ≤ _
   rw [a8C]
   show o.length + 1 ≤ _
   omega
theorem e5D (l:List Hs) (i:I .i64) (hl:l.length ≤ 1073741824):∃ y,b2O K0 ((l,(i,())),()) = some y∧∃ o:List Hs,y = ((),(o,()))∧o.length ≤ l.length:=by
 unfold b2O
 obtain ⟨k,e,hk⟩:=e1J l.length (by omega)
 have:=e7Q k l i hk hl
 rw [← e] at this
 exact this
theorem e0E (l:List Msg) (i:I .i64) (n:Nat) (hn:n < 9223372036854775808) (hl:l.length ≤ 1073741824):∃ y,b1N K0 ((l,(i,(i6 n,()))),()) = some y∧∃ (b:Bool) (o:List Hs),y = ((b,()),(o,()))∧o.length ≤ l.length:=by
 refine Wp.out (T:=fun o=>∃ y,o = some y∧∃ (b:Bool) (o:List Hs),y = ((b,()),(o,()))∧o.length ≤ l.length) ?_
 unfold b1N
 refine Wp.jn (fun x=>n ≤ l.length∧x = ((l,(i,(i6 n,()))),())) ?_ ?_
 ·
  rintro x ⟨hn,rfl⟩
  obtain ⟨y,hy,o,rfl,ho⟩:=d4H l n hn hl
  obtain ⟨y,hy2,p,rfl,hp⟩:=e5D o i (by omega)
  exact Wp.optF hy (Wp.optF hy2 ⟨_,rfl,_,p,rfl,by omega⟩)
 ·
  intro j hj
  refine Wp.brn (fun _=>⟨_,rfl,_,[],rfl,Nat.zero_le _⟩) (fun _=>Wp.brn (fun _=>⟨_,rfl,_,[],rfl,Nat.zero_le _⟩) (fun _=>Wp.brn (fun _=>⟨_,rfl,_,[],rfl,Nat.zero_le _⟩) (fun h=>hj _ ⟨?_,rfl⟩)))
  have h:I.ltb (I.ofNat .i64 l.length) (i6 n) = false:=h
  have e:I.ltb (I.ofNat .i64 l.length) (i6 n) = decide (l.length < n):=a2U (by omega) hn
  rw [e] at h
  have:=of_decide_eq_false h
  omega
theorem g4E:∀ (k n:Nat) (i:I .i64) (h:Hs) (p:List Hs),p.length ≤ k→p.length ≤ 1073741824→1 ≤ n→n ≤ 1073741824→Tot (a4T K0 (k + 1) ((i6 n,(i,(h,(p,())))),())):=by
 intro k
 induction k with
 | zero =>
  intro n i h p hp _ _ _
  have hl:p = []:=List.eq_nil_of_length_eq_zero (by omega)
  subst hl
  refine Wp.out (T:=fun o=>Tot o) ?_
  show Wp _ (a8Z K0 (a4T K0 _) _)
  unfold a8Z
  exact Wp.brn (fun _=>⟨_,rfl⟩) (fun _=>Wp.brnT rfl ⟨_,rfl⟩)
 | succ k ih =>
  intro n i h p hp hb hn hn2
  refine Wp.out (T:=fun o=>Tot o) ?_
  show Wp _ (a8Z K0 (a4T K0 _) _)
  unfold a8Z
  refine Wp.brn (fun _=>⟨_,rfl⟩) (fun hn1=>?_)
  have hn1:I.eqb (i6 n) (I.of .i64 1) = false:=hn1
  have e1:I.eqb (i6 n) (I.of .i64 1) = decide (n = 1):=d7Z (m:=1) (by omega) (by omega)
  rw [e1] at hn1
  have hn1:=of_decide_eq_false hn1
  refine Wp.brn (fun _=>⟨_,rfl⟩) (fun hp0=>?_)
  have hp0:I.eqb (I.ofNat .i64 p.length) (I.of .i64 0) = false:=hp0
  have e0:I.eqb (I.ofNat .i64 p.length) (I.of .i64 0) = decide (p.length = 0):=d7Z (m:=0) (by omega) (by omega)
  rw [e0] at hp0
  have hp0:=of_decide_eq_false hp0
  have hs:I.sub (I.ofNat .i64 (a0K p)) (I.of .i64 1) = i6 (p.length - 1):=c1O (n:=p.length) (m:=1) (by omega) (by omega)
  have n1:I.nat (i6 (p.length - 1)) = p.length - 1:=a3A (by omega)
  have lp:(a4I p 0 (p.length - 1)).length = p.length - 1:=by rw [b6F]; omega
  have hin:inB (I.sub (I.ofNat .i64 (a0K p)) (I.of .i64 1)) (a0K p) = true:=by rw [hs]; exact a3F (by show p.length - 1 < p.length; omega) (by omega)
  have hin':inB' (I.sub (I.ofNat .i64 (a0K p)) (I.of .i64 1)) (a0K p) = true:=by rw [hs]; exact i6_inB' (by show p.length - 1 ≤ p.length; omega) (by omega)
  refine Wp.brnT hin ?_
  obtain ⟨s,hsp,s1,s2⟩:=d1L n (by omega) (by omega)
  refine Wp.optF hsp ?_
  have hss:I.sub (i6 n) (i6 s) = i6 (n - s):=c1O (by omega) (by omega)
  refine Wp.brn (fun _=>Wp.brnT hin' ?_) (fun _=>Wp.brnT hin' ?_)
  ·
   have r:=ih s i h (a4I p 0 (p.length - 1)) (by omega) (by omega) (by omega) (by omega)
   refine Wp.tot (by show Tot (a4T K0 (k + 1) ((i6 s,(i,(h,(a4I p 0 (I.nat (I.sub (I.ofNat .i64 (a0K p)) (I.of .i64 1))),())))),())); rw [hs,n1]; exact r) fun y1=>Wp.tot (d6A _ _) fun y2=>⟨_,rfl⟩
  ·
   have r:=ih (n - s) (I.sub i (i6 s)) h (a4I p 0 (p.length - 1)) (by omega) (by omega) (by omega) (by omega)
   refine Wp.tot (by show Tot (a4T K0 (k + 1) ((I.sub (i6 n) (i6 s),(I.sub i (i6 s),(h,(a4I p 0 (I.nat (I.sub (I.ofNat .i64 (a0K p)) (I.of .i64 1))),())))),())); rw [hs,n1,hss]; exact r) fun y1=>Wp.tot (d6A _ _) fun y2=>⟨_,rfl⟩
theorem e5O (root:Hs) (n:Nat) (i:I .i64) (leaf:Hs) (p:List Hs) (hn:1 ≤ n) (hn2:n ≤ 1073741824) (hp:p.length ≤ 1073741824):Tot (a7E K0 ((root,(i6 n,(i,(leaf,(p,()))))),())):=by
 refine Wp.out (T:=fun o=>Tot o) ?_
 unfold a7E
 refine Wp.jn (fun x=>x = ((i6 n,(i,(p,()))),(root,(leaf,())))) ?_ ?_
 ·
  rintro x rfl
  have hu:Tot (b6D K0 ((i6 n,(i,(leaf,(p,())))),())):=by
   unfold b6D
   obtain ⟨k,e,hk⟩:=e1J p.length (by omega)
   have:=g4E k n i leaf p hk hp hn hn2
   rw [← e] at this
   exact this
  exact Wp.tot hu fun y1=>Wp.brn (fun _=>⟨_,rfl⟩) (fun _=>⟨_,rfl⟩)
 ·
  intro j hj
  exact Wp.brn (fun _=>⟨_,rfl⟩) (fun _=>Wp.brn (fun _=>⟨_,rfl⟩) (fun _=>Wp.brn (fun _=>⟨_,rfl⟩) (fun _=>hj _ rfl)))
end Sym

/- The escrow of the reference, and what else a step calls. -/
namespace Sym
open Go
theorem Tot.val {Y:Type} {o:Option Y} (h:Tot o) (d:Y):o = some (o.getD d):=by
 obtain ⟨y,rfl⟩:=h
 rfl
theorem f3K (l:List Ac) (v:V4) (k:Nat) (hk:k < 4):a6T K0 (((l,(v,())),(i6 (k + 1),())),()) = some ((e6P v k,()),()):=by
 refine Wp.out (T:=fun o=>o = some ((e6P v k,()),())) ?_
 unfold a6T
 have hsub:I.sub (i6 (k + 1)) (I.of .i64 1) = i6 k:=by rw [b4I,c1O (by omega) (by omega)]; rfl
 refine Wp.brnF (niff_ltb.2 (by show (I.of .i64 1).val ≤ (i6 (k + 1)).val; rw [a0W (by omega),show (I.of .i64 1).val = 1 from rfl]; omega)) ?_
 refine Wp.brnF (niff_ltb.2 (by show (i6 (k + 1)).val ≤ (I.of .i64 4).val; rw [a0W (by omega),show (I.of .i64 4).val = 4 from rfl]; omega)) ?_
 refine Wp.brnT (by show inB (I.sub (i6 (k + 1)) (I.of .i64 1)) 4 = true; rw [hsub]; exact a3F hk (by omega)) ?_
 show some ((Arr.sel Z_U 4 v (I.nat (I.sub (i6 (k + 1)) (I.of .i64 1))),()),()) = _
 rw [hsub,a3A (by omega)]
 rfl
noncomputable def f5K (v:V4) (k:Nat) (n:U):I .i64 × V4 :=
 if n.val ≤ (e6P v k).val then (I.of .i64 0,g8P v k (U.of ((e6P v k).val - n.val))) else (I.of .i64 10,v)
theorem g2R (v:V4) (l:List Ac) (k:Nat) (hk:k < 4) (n:U):a3W K0 ((i6 (k + 1),(n,())),(lgH v,(l,()))) = some (((f5K v k n).1,()),(lgH (f5K v k n).2,(l,()))):=by
 refine Wp.out (T:=fun o=>o = some (((f5K v k n).1,()),(lgH (f5K v k n).2,(l,())))) ?_
 unfold a3W f5K
 have hsub:I.sub (i6 (k + 1)) (I.of .i64 1) = i6 k:=by rw [b4I,c1O (by omega) (by omega)]; rfl
 have hin:inB (I.sub (i6 (k + 1)) (I.of .i64 1)) 4 = true:=by rw [hsub]; exact a3F hk (by omega)
 refine Wp.jn (fun x=>x = ((i6 (k + 1),()),(lgH v,(l,(n,()))))) ?_ ?_
 ·
  rintro x rfl
  refine Wp.brnT hin ?_
  simp only [hsub,a3A (show k < 9223372036854775808 by omega)]
  refine Wp.optF (c1G (e6P v k) n) ?_
  unfold e8Q
  by_cases h:n.val ≤ (e6P v k).val
  ·
   simp only [if_pos h]
   exact Wp.brnF (show I.neb (I.of .i64 0) (I.of .i64 0) = false by decide) (Wp.brnT (a3F hk (by omega)) rfl)
  ·
   simp only [if_neg h]
   exact Wp.brnT (show I.neb (I.of .i64 4) (I.of .i64 0) = true by decide) rfl
 ·
  intro j hj
  refine Wp.brnF (niff_ltb.2 (by show (I.of .i64 1).val ≤ (i6 (k + 1)).val; rw [a0W (by omega),show (I.of .i64 1).val = 1 from rfl]; omega)) ?_
  refine Wp.brnF (niff_ltb.2 (by show (i6 (k + 1)).val ≤ (I.of .i64 4).val; rw [a0W (by omega),show (I.of .i64 4).val = 4 from rfl]; omega)) ?_
  exact hj _ rfl
abbrev EsH:Type:=a0V
def esH (b:U):EsH:=(b,((),((),((),()))))
noncomputable def g1J (b n:U):I .i64 × U :=
 if n.val = 0 then (I.of .i64 2,b) else if b.val + n.val < U.top then (I.of .i64 0,U.of (b.val + n.val)) else (I.of .i64 4,b)
theorem g4D (b n:U) (r:List Hs) (cl:List (I .u64)) (ba:List Pay):a5P K0 ((n,()),(esH b,(r,(cl,(ba,()))))) = some (((g1J b n).1,()),(esH (g1J b n).2,(r,(cl,(ba,()))))):=by
 refine Wp.out (T:=fun o=>o = some (((g1J b n).1,()),(esH (g1J b n).2,(r,(cl,(ba,())))))) ?_
 unfold a5P g1J
 refine Wp.optF (c1H n) ?_
 refine Wp.brn (fun h=>?_) (fun h=>?_)
 ·
  rw [if_pos (of_decide_eq_true h)]
  rfl
 ·
  rw [if_neg (of_decide_eq_false h)]
  refine Wp.optF (c8B b n) ?_
  by_cases hc:b.val + n.val < U.top
  ·
   rw [if_pos hc,c5V hc]
   exact Wp.brnF (show I.neb (I.of .i64 0) (I.of .i64 0) = false by decide) rfl
  ·
   rw [if_neg hc,d5X (by omega)]
   exact Wp.brnT (show I.neb (I.of .i64 4) (I.of .i64 0) = true by decide) rfl
def clB (l:List (I .u64)) (a:I .u64):Bool:=l.any fun p=>I.eqb p a
theorem e5U (b:U) (r:List Hs) (cl:List (I .u64)) (ba:List Pay) (a:I .u64) (hl:cl.length ≤ 1073741824):a4F K0 (((b,(r,(cl,(ba,())))),(a,())),()) = some ((clB cl a,()),()):=by
 refine Wp.out (T:=fun o=>o = some ((clB cl a,()),())) ?_
 unfold a4F
 refine Wp.iter (fun s=>∃ i,s = (((b,(r,(cl,(ba,())))),(a,(i6 i,()))),())∧i ≤ cl.length∧∀ k,k < i→I.eqb (rdL (I.of .u64 0) cl k) a = false) (fun s=>cl.length - s.1.2.2.1.val.toNat) ?_ ⟨0,rfl,by omega,fun k hk=>by omega⟩ (by rw [a7L]; show cl.length - 0 < _; omega)
 rintro s ⟨i,rfl,hi,ht⟩
 simp only [b1E,a8S,b4I,a2U (show i < 9223372036854775808 by omega) (show cl.length < 9223372036854775808 by omega),a3A (show i < 9223372036854775808 by omega),a3S (show i + 1 < 9223372036854775808 by omega)]
 refine Wp.brn (fun hc=>?_) (fun hc=>?_)
 ·
  have hc:=of_decide_eq_true hc
  refine Wp.brnT (a3F (by omega) (by omega)) ?_
  refine Wp.brn (fun h=>?_) (fun h=>?_)
  ·
   refine Wp.done ?_
   have:clB cl a = true:=List.any_eq_true.2 ⟨_,b8U (I.of .u64 0) cl i hc,h⟩
   rw [this]
   rfl
  ·
   refine Wp.again ⟨i + 1,rfl,by omega,fun k hk=>?_⟩ (by show cl.length - (i6 (i + 1)).val.toNat < cl.length - (i6 i).val.toNat; rw [a0W (by omega),a0W (by omega)]; omega)
   rcases (by omega:k < i ∨ k = i) with h3 | rfl
   ·
    exact ht k h3
   ·
    exact h
 ·
  have hc:=of_decide_eq_false hc
  refine Wp.done ?_
  have:clB cl a = false:=by
   rw [clB,List.any_eq_false]
   intro x hx
   obtain ⟨k,hk,rfl⟩:=c2F (I.of .u64 0) hx
   rw [ht k (by omega)]
   decide
  rw [this]
  rfl
noncomputable abbrev d2J:Pay:=a2B
def pAt (l:List Pay) (a:I .u64):Nat:=l.findIdx fun p=>I.eqb p.1 a
theorem f6M {l:List Pay} {a:I .u64} {i:Nat} (hi:i < l.length) (h1:I.eqb (rdL d2J l i).1 a = true) (h2:∀ k,k < i→I.eqb (rdL d2J l k).1 a = false):pAt l a = i:=by
 unfold pAt
 rw [List.findIdx_eq hi]
 refine ⟨by rw [← a4P d2J l i hi]; exact h1,fun k hk=>?_⟩
 rw [← a4P d2J l k (by omega)]
 exact h2 k hk
theorem e4D {l:List Pay} {a:I .u64} (h2:∀ k,k < l.length→I.eqb (rdL d2J l k).1 a = false):pAt l a = l.length:=by
 unfold pAt
 rw [List.findIdx_eq_length]
 intro x hx
 obtain ⟨k,hk,rfl⟩:=c2F d2J hx
 exact h2 k hk
noncomputable def f2G (l:List Pay) (a:I .u64):U:=if pAt l a < l.length then (rdL d2J l (pAt l a)).2.1 else Z_U
noncomputable def f7R (l:List Pay) (a:I .u64) (n:U):List Pay:=if pAt l a < l.length then c0N l (pAt l a) ((rdL d2J l (pAt l a)).1,(n,(rdL d2J l (pAt l a)).2.2)) else l ++ [(a,(n,()))]
theorem g1O (b:U) (r:List Hs) (cl:List (I .u64)) (ba:List Pay) (a:I .u64) (hl:ba.length ≤ 1073741824):a5A K0 (((b,(r,(cl,(ba,())))),(a,())),()) = some ((f2G ba a,()),()):=by
 refine Wp.out (T:=fun o=>o = some ((f2G ba a,()),())) ?_
 unfold a5A
 refine Wp.iter (fun s=>∃ i,s = (((b,(r,(cl,(ba,())))),(a,(i6 i,()))),(Z_U,()))∧i ≤ ba.length∧∀ k,k < i→I.eqb (rdL d2J ba k).1 a = false) (fun s=>ba.length - s.1.2.2.1.val.toNat) ?_ ⟨0,rfl,by omega,fun k hk=>by omega⟩ (by rw [a7L]; show ba.length - 0 < _; omega)
 rintro s ⟨i,rfl,hi,ht⟩
 simp only [b1E,a8S,b4I,a2U (show i < 9223372036854775808 by omega) (show ba.length < 9223372036854775808 by omega),a3A (show i < 9223372036854775808 by omega),a3S (show i + 1 < 9223372036854775808 by omega)]
 refine Wp.brn (fun hc=>?_) (fun hc=>?_)
 ·
  have hc:=of_decide_eq_true hc
  have hin:inB (i6 i) ba.length = true:=a3F (by omega) (by omega)
  refine Wp.brnT hin ?_
  refine Wp.brn (fun h=>?_) (fun h=>?_)
  ·
   refine Wp.brnT hin (Wp.done ?_)
   unfold f2G
   rw [f6M hc h ht,if_pos hc]
   rfl
  ·
   refine Wp.again ⟨i + 1,rfl,by omega,fun k hk=>?_⟩ (by show ba.length - (i6 (i + 1)).val.toNat < ba.length - (i6 i).val.toNat; rw [a0W (by omega),a0W (by omega)]; omega)
   rcases (by omega:k < i ∨ k = i) with h3 | rfl
   ·
    exact ht k h3
   ·
    exact h
 ·
  have hc:=of_decide_eq_false hc
  refine Wp.done ?_
  unfold f2G
  rw [e4D fun k hk=>ht k (by omega),if_neg (by omega)]
  rfl
theorem f1G (a b:I .u64):Tot (a8R K0 ((a,(b,())),())):=by
 refine Wp.out (T:=fun o=>Tot o) ?_
 unfold a8R
 obtain ⟨r0,e0,B0⟩:=a1O a
 obtain ⟨r1,e1,B1⟩:=a1O b
 obtain ⟨r2,e2,B2⟩:=b1W B0 B1 (d7F B0) (d7F B1)
 have h:=a3M a
 have h':=a3M b
 have e3:=c2L B2 (b3K B2 (k:=5) (Nat.lt_of_lt_of_le (show a.nat + b.nat < 36893488147419103232 by omega) (by decide)) (by decide))
 refine Wp.optF e0 (Wp.optF e1 (Wp.optF e2 (Wp.optF e3 (Wp.optF (d1R _) ?_))))
 exact Wp.brn (fun _=>⟨_,rfl⟩) (fun _=>⟨_,rfl⟩)
end Sym

/- Claims and parameters of the reference. -/
namespace Sym
open Go
abbrev Clm:Type:=b5P
noncomputable def vfB (root:Hs) (n:Nat) (i:I .i64) (leaf:Hs) (p:List Hs):Bool:=((a7E K0 ((root,(i6 n,(i,(leaf,(p,()))))),())).getD ((false,()),())).1.1
noncomputable def lfS (m:Msg):Hs:=((a6K K0 ((m,()),())).getD ((a2K,()),())).1.1
theorem g7M (m:Msg):a6K K0 ((m,()),()) = some ((lfS m,()),()):=(d3S m).val ((a2K,()),())
theorem g5N (root:Hs) (n:Nat) (i:I .i64) (leaf:Hs) (p:List Hs) (hn:1 ≤ n) (hn2:n ≤ 1073741824) (hp:p.length ≤ 1073741824):a7E K0 ((root,(i6 n,(i,(leaf,(p,()))))),()) = some ((vfB root n i leaf p,()),()):=(e5O root n i leaf p hn hn2 hp).val ((false,()),())
abbrev ClR:Type:=I .i64 × U × List (I .u64) × List Pay
def c9U (c:Clm):I .u64:=c.1
def b2W (c:Clm):I .u64:=c.2.1
def cTo (c:Clm):I .u64:=c.2.2.1
def c6Z (c:Clm):U:=c.2.2.2.1
def d2I (c:Clm):List Hs:=c.2.2.2.2.1
noncomputable def c9Q (b:U) (r:List Hs) (cl:List (I .u64)) (ba:List Pay) (c:Clm):ClR :=
 if (cTo c).val = 0 ∨ (c6Z c).val = 0 ∨ 64 < (d2I c).length then (I.of .i64 2,b,cl,ba)
 else if (b2W c).nat < 1 ∨ r.length < (b2W c).nat ∨ (b2W c).nat ≤ (c9U c).nat then (I.of .i64 8,b,cl,ba)
 else if clB cl (c9U c) = true then (I.of .i64 9,b,cl,ba)
 else if vfB (rdL a2K r ((b2W c).nat - 1)) (b2W c).nat (I.conv .i64 (c9U c)) (lfS (c9U c,(cTo c,(c6Z c,())))) (d2I c) = false then (I.of .i64 16,b,cl,ba)
 else if b.val < (c6Z c).val then (I.of .i64 10,b,cl,ba)
 else if (f2G ba (cTo c)).val + (c6Z c).val < U.top then (I.of .i64 0,U.of (b.val - (c6Z c).val),cl ++ [c9U c],f7R ba (cTo c) (U.of ((f2G ba (cTo c)).val + (c6Z c).val)))
 else (I.of .i64 4,b,cl,ba)
theorem f5O {n:Nat} (h:n < 9223372036854775808):(I.conv (k:=.i64) .u64 (i6 n)) = I.of .u64 (n:Int):=by
 unfold I.conv
 rw [a0W h]
theorem g0Z {a:I .u64} (h:a.nat < 9223372036854775808):(I.conv (k:=.u64) .i64 a) = i6 a.nat:=by
 unfold I.conv
 have:=a2G a
 rw [← this]
 rfl
theorem d4S {a b:I .u64}:I.ltb a b = decide (a.nat < b.nat):=by
 have h1:=a2G a
 have h2:=a2G b
 unfold I.ltb
 by_cases h:a.nat < b.nat
 ·
  rw [decide_eq_true h,decide_eq_true (by omega)]
 ·
  rw [decide_eq_false h,decide_eq_false (by omega)]
theorem e9L {a b:I .u64}:I.leb a b = decide (a.nat ≤ b.nat):=by
 have h1:=a2G a
 have h2:=a2G b
 unfold I.leb
 by_cases h:a.nat ≤ b.nat
 ·
  rw [decide_eq_true h,decide_eq_true (by omega)]
 ·
  rw [decide_eq_false h,decide_eq_false (by omega)]
theorem f3S (b:U) (r:List Hs) (cl:List (I .u64)) (ba:List Pay) (c:Clm) (hr:r.length ≤ 1073741824) (hcl:cl.length < 1073741824) (hba:ba.length < 1073741824) (hpf:(d2I c).length ≤ 1073741824) :
  a6U K0 ((c,()),(esH b,(r,(cl,(ba,()))))) = some (((c9Q b r cl ba c).1,()),(esH (c9Q b r cl ba c).2.1,(r,((c9Q b r cl ba c).2.2.1,((c9Q b r cl ba c).2.2.2,()))))):=by
 refine Wp.out (T:=fun o=>o = some (((c9Q b r cl ba c).1,()),(esH (c9Q b r cl ba c).2.1,(r,((c9Q b r cl ba c).2.2.1,((c9Q b r cl ba c).2.2.2,())))))) ?_
 unfold a6U
 have hrl:(I.conv (k:=.i64) .u64 (I.ofNat .i64 (a0K r))).nat = r.length:=by
  show (I.conv (k:=.i64) .u64 (i6 r.length)).nat = _
  rw [f5O (by omega)]
  exact b8Y (by omega)
 refine Wp.jn (fun x=>(¬ ((cTo c).val = 0 ∨ (c6Z c).val = 0 ∨ 64 < (d2I c).length))∧x = ((),(esH b,(r,(cl,(ba,(c,()))))))) ?_ ?_
 ·
  rintro x ⟨h1,rfl⟩
  refine Wp.jn (fun x=>(¬ ((b2W c).nat < 1 ∨ r.length < (b2W c).nat ∨ (b2W c).nat ≤ (c9U c).nat))∧x = ((),(esH b,(r,(cl,(ba,(c,()))))))) ?_ ?_
  ·
   rintro x ⟨h2,rfl⟩
   unfold c9Q
   rw [if_neg h1,if_neg h2]
   refine Wp.optF (e5U b r cl ba (c9U c) (by omega)) ?_
   refine Wp.brn (fun h3=>?_) (fun h3=>?_)
   ·
    have h3:clB cl (c9U c) = true:=h3
    rw [if_pos h3]
    rfl
   ·
    have h3:clB cl (c9U c) = false:=h3
    rw [if_neg (by rw [h3]; decide)]
    have hs1:(I.sub (b2W c) (I.of .u64 1)).nat = (b2W c).nat - 1:=sub_nat_le' _ _ (by show (I.of .u64 1).nat ≤ _; rw [show (I.of .u64 1).nat = 1 from rfl]; omega)
    refine Wp.brnT (iff_inB.2 (by have:=a2G (I.sub (b2W c) (I.of .u64 1)); show 0 ≤ (I.sub (b2W c) (I.of .u64 1)).val∧(I.sub (b2W c) (I.of .u64 1)).val < ((r.length:Nat):Int); omega)) ?_
    refine Wp.optF (g7M (c9U c,(cTo c,(c6Z c,())))) ?_
    have hv:=g5N (rdL a2K r ((b2W c).nat - 1)) (b2W c).nat (I.conv .i64 (c9U c)) (lfS (c9U c,(cTo c,(c6Z c,())))) (d2I c) (by omega) (by omega) (by omega)
    rw [← hs1,← g0Z (a:=b2W c) (by omega)] at hv
    refine Wp.optF hv ?_
    rw [hs1]
    refine Wp.brn (fun h4=>?_) (fun h4=>?_)
    ·
     have h4:vfB (rdL a2K r ((b2W c).nat - 1)) (b2W c).nat (I.conv .i64 (c9U c)) (lfS (c9U c,(cTo c,(c6Z c,())))) (d2I c) = false:=by
      revert h4
      show a4O (vfB _ _ _ _ _) = true→_
      cases vfB (rdL a2K r ((b2W c).nat - 1)) (b2W c).nat (I.conv .i64 (c9U c)) (lfS (c9U c,(cTo c,(c6Z c,())))) (d2I c) <;> simp [a4O]
     rw [if_pos h4]
     rfl
    ·
     have h4:vfB (rdL a2K r ((b2W c).nat - 1)) (b2W c).nat (I.conv .i64 (c9U c)) (lfS (c9U c,(cTo c,(c6Z c,())))) (d2I c) = true:=by
      revert h4
      show a4O (vfB _ _ _ _ _) = false→_
      cases vfB (rdL a2K r ((b2W c).nat - 1)) (b2W c).nat (I.conv .i64 (c9U c)) (lfS (c9U c,(cTo c,(c6Z c,())))) (d2I c) <;> simp [a4O]
     rw [if_neg (by rw [h4]; decide)]
     refine Wp.optF (c1G b (c6Z c)) ?_
     unfold e8Q
     by_cases h5:(c6Z c).val ≤ b.val
     ·
      rw [if_neg (show ¬ b.val < (c6Z c).val by omega)]
      simp only [if_pos h5]
      refine Wp.brnF (show I.neb (I.of .i64 0) (I.of .i64 0) = false by decide) ?_
      refine Wp.optF (g1O b r cl ba (cTo c) (by omega)) (Wp.optF (c8B (f2G ba (cTo c)) (c6Z c)) ?_)
      by_cases h6:(f2G ba (cTo c)).val + (c6Z c).val < U.top
      ·
       rw [if_pos h6,c5V h6]
       refine Wp.brnF (show I.neb (I.of .i64 0) (I.of .i64 0) = false by decide) ?_
       refine Wp.brnT (b9K _ _ (by show cl.length + 1 ≤ _; omega)) ?_
       generalize U.of ((f2G ba (cTo c)).val + (c6Z c).val) = n
       refine Wp.iter (fun s=>∃ i,s = ((i6 i,()),(esH (U.of (b.val - (c6Z c).val)),(r,(cl ++ [c9U c],(ba,(c,(n,())))))))∧i ≤ ba.length∧∀ k,k < i→I.eqb (rdL d2J ba k).1 (cTo c) = false) (fun s=>ba.length - s.1.1.val.toNat) ?_ ⟨0,rfl,by omega,fun k hk=>by omega⟩ (by rw [a7L]; show ba.length - 0 < _; omega)
       rintro s ⟨i,rfl,hi,ht⟩
       simp only [b1E,a8S,b4I,a2U (show i < 9223372036854775808 by omega) (show ba.length < 9223372036854775808 by omega),a3A (show i < 9223372036854775808 by omega),a3S (show i + 1 < 9223372036854775808 by omega)]
       refine Wp.brn (fun hc=>?_) (fun hc=>?_)
       ·
        have hc:=of_decide_eq_true hc
        have hin:inB (i6 i) ba.length = true:=a3F (by omega) (by omega)
        refine Wp.brnT hin ?_
        refine Wp.brn (fun h=>?_) (fun h=>?_)
        ·
         refine Wp.brnT hin (Wp.done ?_)
         have e:f7R ba (cTo c) n = c0N ba i ((rdL d2J ba i).1,(n,(rdL d2J ba i).2.2)):=by
          unfold f7R
          rw [f6M (a:=cTo c) hc h ht,if_pos hc]
         show some _ = some _
         rw [e]
         rfl
        ·
         refine Wp.again ⟨i + 1,rfl,by omega,fun k hk=>?_⟩ (by show ba.length - (i6 (i + 1)).val.toNat < ba.length - (i6 i).val.toNat; rw [a0W (by omega),a0W (by omega)]; omega)
         rcases (by omega:k < i ∨ k = i) with h3 | rfl
         ·
          exact ht k h3
         ·
          exact h
       ·
        have hc:=of_decide_eq_false hc
        refine Wp.done (Wp.brnT (b9K _ _ (by show ba.length + 1 ≤ _; omega)) ?_)
        have e:f7R ba (cTo c) n = ba ++ [(cTo c,(n,()))]:=by
         unfold f7R
         rw [e4D fun k hk=>ht k (by omega),if_neg (by omega)]
        show some _ = some _
        rw [e]
        rfl
      ·
       rw [if_neg h6,d5X (by omega)]
       exact Wp.brnT (show I.neb (I.of .i64 4) (I.of .i64 0) = true by decide) rfl
     ·
      rw [if_pos (show b.val < (c6Z c).val by omega)]
      simp only [if_neg h5]
      exact Wp.brnT (show I.neb (I.of .i64 4) (I.of .i64 0) = true by decide) rfl
  ·
   intro j hj
   have e8:c9Q b r cl ba c = (if (b2W c).nat < 1 ∨ r.length < (b2W c).nat ∨ (b2W c).nat ≤ (c9U c).nat then (I.of .i64 8,b,cl,ba) else c9Q b r cl ba c):=by
    split
    ·
     rename_i h
     unfold c9Q
     rw [if_neg h1,if_pos h]
    ·
     rfl
   refine Wp.brn (fun h=>?_) (fun h=>?_)
   ·
    have h:I.ltb (b2W c) (I.of .u64 1) = true:=h
    rw [d4S] at h
    have h:=of_decide_eq_true h
    rw [e8,if_pos (.inl h)]
    rfl
   ·
    have h:I.ltb (b2W c) (I.of .u64 1) = false:=h
    rw [d4S] at h
    have h:¬ (b2W c).nat < 1:=of_decide_eq_false h
    refine Wp.brn (fun g=>?_) (fun g=>?_)
    ·
     have g:I.ltb (I.conv (k:=.i64) .u64 (I.ofNat .i64 (a0K r))) (b2W c) = true:=g
     rw [d4S,hrl] at g
     have g:=of_decide_eq_true g
     rw [e8,if_pos (.inr (.inl g))]
     rfl
    ·
     have g:I.ltb (I.conv (k:=.i64) .u64 (I.ofNat .i64 (a0K r))) (b2W c) = false:=g
     rw [d4S,hrl] at g
     have g:=of_decide_eq_false g
     refine Wp.brn (fun q=>?_) (fun q=>?_)
     ·
      have q:I.leb (b2W c) (c9U c) = true:=q
      rw [e9L] at q
      have q:=of_decide_eq_true q
      rw [e8,if_pos (.inr (.inr q))]
      rfl
     ·
      have q:I.leb (b2W c) (c9U c) = false:=q
      rw [e9L] at q
      have q:=of_decide_eq_false q
      exact hj _ ⟨by omega,rfl⟩
 ·
  intro j hj
  have e2:c9Q b r cl ba c = (if (cTo c).val = 0 ∨ (c6Z c).val = 0 ∨ 64 < (d2I c).length then (I.of .i64 2,b,cl,ba) else c9Q b r cl ba c):=by
   split
   ·
    rename_i h
    unfold c9Q
    rw [if_pos h]
   ·
    rfl
  refine Wp.brn (fun h=>?_) (fun h=>?_)
  ·
   have h:(cTo c).val = 0:=iff_eqb.1 h
   rw [e2,if_pos (.inl h)]
   rfl
  ·
   have h:(cTo c).val ≠ 0:=niff_eqb.1 h
   refine Wp.optF (c1H (c6Z c)) ?_
   refine Wp.brn (fun g=>?_) (fun g=>?_)
   ·
    have g:=of_decide_eq_true g
    rw [e2,if_pos (.inr (.inl g))]
    rfl
   ·
    have g:=of_decide_eq_false g
    have e:I.ltb (I.of .i64 64) (I.ofNat .i64 (a0K (d2I c))) = decide (64 < (d2I c).length):=a2U (n:=64) (by omega) (by show (d2I c).length < _; omega)
    refine Wp.brn (fun q=>?_) (fun q=>?_)
    ·
     have q:I.ltb (I.of .i64 64) (I.ofNat .i64 (a0K (d2I c))) = true:=q
     rw [e] at q
     have q:=of_decide_eq_true q
     rw [e2,if_pos (.inr (.inr q))]
     rfl
    ·
     have q:I.ltb (I.of .i64 64) (I.ofNat .i64 (a0K (d2I c))) = false:=q
     rw [e] at q
     have q:=of_decide_eq_false q
     exact hj _ ⟨by omega,rfl⟩
end Sym

/- The machine of the reference. -/
namespace Sym
open Go
theorem f9Y (p:Prm) (k:I .i64) (n:U):Tot (a7I K0 ((p,(k,(n,()))),())):=by
 refine Wp.out (T:=fun o=>Tot o) ?_
 unfold a7I
 refine Wp.jn (fun x=>(1 ≤ k.val∧k.val ≤ 12)∧∃ z,x = ((k,()),(p,(n,(z,()))))) ?_ ?_
 ·
  rintro x ⟨hk,z,rfl⟩
  refine Wp.optF (b5X p) (Wp.brn (fun _=>⟨_,rfl⟩) (fun _=>Wp.tot ⟨_,rfl⟩ (fun y2=>?_)))
  have hs:(I.sub k (I.of .i64 1)).val = k.val - 1:=by rw [a9P (by rw [show (I.of .i64 1).val = 1 from rfl]; omega)]; rfl
  refine Wp.brnT (iff_inB.2 (by show 0 ≤ (I.sub k (I.of .i64 1)).val∧(I.sub k (I.of .i64 1)).val < ((12:Nat):Int); omega)) ?_
  refine Wp.iter (fun x=>∃ i,i ≤ 12∧x.1.1 = i6 i) (fun x=>12 - x.1.1.val.toNat) ?_ ⟨0,by omega,rfl⟩ (by rw [a7L]; show 12 - 0 < _; decide)
  rintro ⟨⟨j,⟨⟩⟩,x3⟩ ⟨i,hi,e2⟩
  simp only at e2
  subst e2
  refine Wp.brn (fun hc=>?_) (fun hc=>?_)
  ·
   have hc:i < 12:=by have:=iff_ltb.1 hc; simp only [a0W (show i < 9223372036854775808 by omega),show (I.of .i64 12).val = 12 from rfl] at this; omega
   have hn:I.add (i6 i) (I.of .i64 1) = i6 (i + 1):=a3S (m:=1) (by omega)
   refine Wp.brnT (a3F hc (by omega)) (Wp.optF (d1R _) (Wp.brn (fun _=>Wp.done ⟨_,rfl⟩) (fun _=>Wp.again ⟨i + 1,by omega,hn⟩ ?_)))
   show 12 - (I.add (i6 i) (I.of .i64 1)).val.toNat < 12 - (i6 i).val.toNat
   rw [hn,a0W (by omega),a0W (by omega)]; omega
  ·
   exact Wp.done (Wp.optF (b5X _) (Wp.brn (fun _=>⟨_,rfl⟩) (fun _=>⟨_,rfl⟩)))
 ·
  intro j hj
  refine Wp.brn (fun _=>⟨_,rfl⟩) (fun h=>Wp.brn (fun _=>⟨_,rfl⟩) (fun g=>hj _ ⟨?_,_,rfl⟩))
  have h:(I.of .i64 1).val ≤ k.val:=niff_ltb.1 h
  have g:k.val ≤ (I.of .i64 12).val:=niff_ltb.1 g
  exact ⟨h,g⟩
structure MS where
 steps:I .u64
 pm:Prm
 bk:f7A
 bl:I .u64
 pr:PrT
 v:V4
 ac:List Ac
 ms:List Msg
 bal:U
 rt:List Hs
 cl:List (I .u64)
 ba:List Pay
abbrev HM:Type:=a0Z × (a0P × (a0V × ((List a0C) × ((List a0E) × ((List a0G) × ((List (I .u64)) × ((List a0D) × Unit)))))))
def MS.h (m:MS):HM:=((m.steps,(m.pm,(m.bk,(m.bl,(m.pr,((),((),((),())))))))),(lgH m.v,(esH m.bal,(m.ms,(m.ac,(m.rt,(m.cl,(m.ba,()))))))))
def MS.j (m:MS):a0Z:=(m.steps,(m.pm,(m.bk,(m.bl,(m.pr,((),((),((),()))))))))
structure Sz (n:Nat) (m:MS):Prop where
 ac:m.ac.length ≤ n
 ms:m.ms.length ≤ n
 rt:m.rt.length ≤ n
 cl:m.cl.length ≤ n
 ba:m.ba.length ≤ n
 pr:m.pr.posters.length ≤ n
theorem Sz.mono {n k:Nat} {m:MS} (h:Sz n m) (hk:n ≤ k):Sz k m:=⟨Nat.le_trans h.ac hk,Nat.le_trans h.ms hk,Nat.le_trans h.rt hk,Nat.le_trans h.cl hk,Nat.le_trans h.ba hk,Nat.le_trans h.pr hk⟩
noncomputable def rtS (l:List Msg):Hs:=((a9U K0 ((l,(i6 l.length,())),())).getD ((a2K,(false,())),())).1.1
def c6E (m:MS) (to:I .u64) (n:U):Msg:=(I.conv (k:=.i64) .u64 (I.ofNat .i64 (a0K m.ms)),(to,(n,())))
noncomputable def e7C (m:MS) (to:I .u64) (n:U):MS:={ m with ms:=m.ms ++ [c6E m to n],rt:=m.rt ++ [rtS (m.ms ++ [c6E m to n])] }
theorem e9F (m:MS) (to:I .u64) (n:U) (h:Sz 1000000000 m):a4Z K0 ((to,(n,())),m.h) = some ((c6E m to n,()),(e7C m to n).h):=by
 refine Wp.out (T:=fun o=>o = some ((c6E m to n,()),(e7C m to n).h)) ?_
 unfold a4Z
 have hl:=h.ms
 have hr:=h.rt
 have e1:(m.ms ++ [c6E m to n]).length = m.ms.length + 1:=by simp
 refine Wp.brnT (b9K _ _ (by show m.ms.length + 1 ≤ _; omega)) ?_
 obtain ⟨y0,hy0⟩:=e7A (m.ms ++ [c6E m to n]) (by omega)
 have hrt:rtS (m.ms ++ [c6E m to n]) = y0.1.1:=by unfold rtS; rw [hy0]; rfl
 refine Wp.optF hy0 ?_
 refine Wp.brnT (b9K _ _ (by show m.rt.length + 1 ≤ _; omega)) ?_
 unfold e7C
 rw [hrt]
 rfl
theorem e3P {k:Nat} {m:MS} (h:Sz k m) (to:I .u64) (n:U):Sz (k + 1) (e7C m to n) :=
 ⟨Nat.le_succ_of_le h.ac,by show (m.ms ++ [_]).length ≤ _; have:=h.ms; simp; omega,by show (m.rt ++ [_]).length ≤ _; have:=h.rt; simp; omega,Nat.le_succ_of_le h.cl,Nat.le_succ_of_le h.ba,Nat.le_succ_of_le h.pr⟩
end Sym

/- The machine of the reference: transactions. -/
namespace Sym
open Go
abbrev Rcp:Type:=a0I
abbrev Txn:Type:=a7V
abbrev Chg:Type:=a8X
def a3P (t:Txn):I .u64:=t.1
def f1A (t:Txn):I .u64:=t.2.1
def tTo (t:Txn):I .u64:=t.2.2.1
def c8X (t:Txn):U:=t.2.2.2.1
def f4X (t:Txn):I .u64:=t.2.2.2.2.1
def e5M (t:Txn):U:=t.2.2.2.2.2.1
def e5I (t:Txn):U:=t.2.2.2.2.2.2.1
def tEx (t:Txn):I .u64:=t.2.2.2.2.2.2.2.1
def c3M (t:Txn):List (I .u8):=t.2.2.2.2.2.2.2.2.1
def e1M (k:f7A):U:=k.2.2.2.1
def f0G (k:f7A):I .u64:=k.2.2.1
noncomputable def g1H (k:f7A) (p:Prm):I .u64:=if I.ltb p.2.2.2.2.1 (f0G k) = true then I.of .u64 0 else I.sub p.2.2.2.2.1 (f0G k)
theorem g4G (k:f7A) (p:Prm):a6R K0 ((k,(p,())),()) = some ((g1H k p,()),()):=by
 refine Wp.out (T:=fun o=>o = some ((g1H k p,()),())) ?_
 unfold a6R g1H
 refine Wp.brn (fun h=>?_) (fun h=>?_)
 ·
  have h:I.ltb p.2.2.2.2.1 (f0G k) = true:=h
  rw [if_pos h]; rfl
 ·
  have h:I.ltb p.2.2.2.2.1 (f0G k) = false:=h
  rw [if_neg (by rw [h]; decide)]; rfl
noncomputable def c3D (m:MS) (t:Txn):U × I .i64 :=
 if 4096 < (c3M t).length then (Z_U,I.of .i64 6)
 else if (a3P t).val = 0 ∨ (tTo t).val = 0 ∨ (a3P t).val = 18446744073709551615 then (Z_U,I.of .i64 2)
 else if I.neb (f1A t) (c3F m.ac (a3P t)).2.2.1 = true then (Z_U,I.of .i64 11)
 else if I.eqb (I.add (c3F m.ac (a3P t)).2.2.1 (I.of .u64 1)) (I.of .u64 0) = true then (Z_U,I.of .i64 4)
 else if I.neb (e2U (e5M t,e5I t) (e1M m.bk)).2 (I.of .i64 0) = true then (Z_U,(e2U (e5M t,e5I t) (e1M m.bk)).2)
 else if I.ltb (g1H m.bk m.pm) (f4X t) = true then (Z_U,I.of .i64 13)
 else if d3W (f4X t) (e2U (e5M t,e5I t) (e1M m.bk)).1 (c8X t) (c3F m.ac (a3P t)).2.1 = false then (Z_U,I.of .i64 10)
 else ((e2U (e5M t,e5I t) (e1M m.bk)).1,I.of .i64 0)
theorem g0R {b:Bool} (h:a4O b = true):b = false:=by cases b <;> simp [a4O] at h ⊢
theorem g2L {b:Bool} (h:a4O b = false):b = true:=by cases b <;> simp [a4O] at h ⊢
theorem a8I {b:Bool} (h:b = false):¬ b = true:=by rw [h]; decide
theorem f7W (m:MS) (t:Txn) (h:Sz 1000000000 m) (ht:(c3M t).length ≤ 1073741824):a6B K0 ((t,()),m.h) = some (((c3D m t).1,((c3D m t).2,())),m.h):=by
 refine Wp.out (T:=fun o=>o = some (((c3D m t).1,((c3D m t).2,())),m.h)) ?_
 unfold a6B
 have e:I.ltb (I.of .i64 4096) (I.ofNat .i64 (a0K (c3M t))) = decide (4096 < (c3M t).length):=a2U (n:=4096) (by omega) (by show (c3M t).length < _; omega)
 refine Wp.brn (fun q=>?_) (fun q=>?_)
 ·
  have q:I.ltb (I.of .i64 4096) (I.ofNat .i64 (a0K (c3M t))) = true:=q
  rw [e] at q
  unfold c3D
  rw [if_pos (of_decide_eq_true q)]
  rfl
 ·
  have q:I.ltb (I.of .i64 4096) (I.ofNat .i64 (a0K (c3M t))) = false:=q
  rw [e] at q
  have q:=of_decide_eq_false q
  refine Wp.jn (fun x=>(¬ ((a3P t).val = 0 ∨ (tTo t).val = 0 ∨ (a3P t).val = 18446744073709551615))∧x = ((),(m.j,(lgH m.v,(m.ac,(m.ms,(esH m.bal,(m.rt,(m.cl,(m.ba,(t,(Z_U,(Z_U,())))))))))))) ) ?_ ?_
  ·
   rintro x ⟨h1,rfl⟩
   unfold c3D
   rw [if_neg q,if_neg h1]
   have hg:=d7N m.ac (lgH m.v).2 (a3P t) (by have:=h.ac; omega)
   refine Wp.optF hg ?_
   refine Wp.brn (fun h2=>?_) (fun h2=>?_)
   ·
    have h2:I.neb (f1A t) (c3F m.ac (a3P t)).2.2.1 = true:=h2
    rw [if_pos h2]; rfl
   ·
    have h2:I.neb (f1A t) (c3F m.ac (a3P t)).2.2.1 = false:=h2
    rw [if_neg (a8I h2)]
    refine Wp.brn (fun h3=>?_) (fun h3=>?_)
    ·
     have h3:I.eqb (I.add (c3F m.ac (a3P t)).2.2.1 (I.of .u64 1)) (I.of .u64 0) = true:=h3
     rw [if_pos h3]; rfl
    ·
     have h3:I.eqb (I.add (c3F m.ac (a3P t)).2.2.1 (I.of .u64 1)) (I.of .u64 0) = false:=h3
     rw [if_neg (a8I h3)]
     refine Wp.optF (g0V t.1 t.2.1 t.2.2.1 t.2.2.2.2.1 t.2.2.2.2.2.2.2.1 t.2.2.2.2.2.2.2.2.1 (c8X t) (e5M t) (e5I t) (e1M m.bk)) ?_
     refine Wp.brn (fun h4=>?_) (fun h4=>?_)
     ·
      have h4:I.neb (e2U (e5M t,e5I t) (e1M m.bk)).2 (I.of .i64 0) = true:=h4
      rw [if_pos h4]; rfl
     ·
      have h4:I.neb (e2U (e5M t,e5I t) (e1M m.bk)).2 (I.of .i64 0) = false:=h4
      rw [if_neg (a8I h4)]
      refine Wp.optF (g4G m.bk m.pm) ?_
      refine Wp.brn (fun h5=>?_) (fun h5=>?_)
      ·
       have h5:I.ltb (g1H m.bk m.pm) (f4X t) = true:=h5
       rw [if_pos h5]; rfl
      ·
       have h5:I.ltb (g1H m.bk m.pm) (f4X t) = false:=h5
       rw [if_neg (a8I h5)]
       refine Wp.optF (f8A t.1 t.2.1 t.2.2.1 (f4X t) t.2.2.2.2.2.2.2.1 t.2.2.2.2.2.2.2.2.1 (c8X t) (e5M t) (e5I t) (e2U (e5M t,e5I t) (e1M m.bk)).1 (c3F m.ac (a3P t)).2.1) ?_
       refine Wp.brn (fun h6=>?_) (fun h6=>?_)
       ·
        have h6:d3W (f4X t) (e2U (e5M t,e5I t) (e1M m.bk)).1 (c8X t) (c3F m.ac (a3P t)).2.1 = false:=g0R h6
        rw [if_pos h6]; rfl
       ·
        have h6:d3W (f4X t) (e2U (e5M t,e5I t) (e1M m.bk)).1 (c8X t) (c3F m.ac (a3P t)).2.1 = true:=g2L h6
        rw [if_neg (by rw [h6]; decide)]; rfl
  ·
   intro j hj
   have e2:(a3P t).val = 0 ∨ (tTo t).val = 0 ∨ (a3P t).val = 18446744073709551615→c3D m t = (Z_U,I.of .i64 2):=by
    intro hh
    unfold c3D
    rw [if_neg q,if_pos hh]
   refine Wp.brn (fun h1=>?_) (fun h1=>?_)
   ·
    have h1:(a3P t).val = 0:=iff_eqb.1 h1
    rw [e2 (.inl h1)]; rfl
   ·
    have h1:(a3P t).val ≠ 0:=niff_eqb.1 h1
    refine Wp.brn (fun h2=>?_) (fun h2=>?_)
    ·
     have h2:(tTo t).val = 0:=iff_eqb.1 h2
     rw [e2 (.inr (.inl h2))]; rfl
    ·
     have h2:(tTo t).val ≠ 0:=niff_eqb.1 h2
     refine Wp.brn (fun h3=>?_) (fun h3=>?_)
     ·
      have h3:(a3P t).val = (I.of .u64 18446744073709551615).val:=iff_eqb.1 h3
      rw [e2 (.inr (.inr h3))]; rfl
     ·
      have h3:(a3P t).val ≠ (I.of .u64 18446744073709551615).val:=niff_eqb.1 h3
      have c:(I.of .u64 18446744073709551615).val = 18446744073709551615:=rfl
      exact hj _ ⟨by omega,rfl⟩
end Sym

/- The pricer's tables stay small. -/
namespace Sym
open Go
theorem f0U {s:PrT} {p:Prm} {pool:U} {r:RepT} {now:I .u64} (h:¬ (b3H s p pool r now).2.2.val = 0):(b3H s p pool r now).1 = zPr∧(b3H s p pool r now).2.1 = g1I:=by
 unfold b3H at h ⊢
 by_cases h1:(c4X s p r now).val = 0
 ·
  rw [if_pos h1] at h ⊢
  by_cases h2:p.rpu.val * c4E s r now < U.top
  ·
   rw [if_pos h2] at h ⊢
   by_cases h3:(b4L s p r now).2.val = 0
   ·
    rw [if_pos h3] at h ⊢
    by_cases h4:(a3B (b4L s p r now).1 (a2D (b4L s p r now).1 pool)).2.val = 0
    ·
     rw [if_pos h4] at h ⊢
     by_cases h5:(c5K (c0S s (a3B (b4L s p r now).1 (a2D (b4L s p r now).1 pool)).1) p pool (b8G s p r now (a2D (b4L s p r now).1 pool))).2.val = 0
     ·
      rw [if_pos h5] at h
      exact absurd rfl h
     ·
      rw [if_neg h5]; exact ⟨rfl,rfl⟩
    ·
     rw [if_neg h4]; exact ⟨rfl,rfl⟩
   ·
    rw [if_neg h3]; exact ⟨rfl,rfl⟩
  ·
   rw [if_neg h2]; exact ⟨rfl,rfl⟩
 ·
  rw [if_neg h1]; exact ⟨rfl,rfl⟩
theorem e8T (s:PrT) (p:Prm) (pool:U) (r:RepT) (now:I .u64):(b3H s p pool r now).1.posters.length ≤ 64∧(b3H s p pool r now).2.1.2.2.1.length ≤ 64:=by
 by_cases h:(b3H s p pool r now).2.2.val = 0
 ·
  have hR:=g2I h
  refine ⟨hR.tab2.1,?_⟩
  rw [hR.out]
  exact Nat.le_trans (d3Y _ _) hR.tab1.1
 ·
  rw [(f0U h).1,(f0U h).2]
  exact ⟨Nat.zero_le _,Nat.zero_le _⟩
theorem f5L (l:List Post) (a:I .u64):(d2T l a).1.length ≤ l.length + 1:=by
 unfold d2T
 split
 ·
  split
  ·
   exact Nat.zero_le _
  ·
   split
   ·
    exact Nat.zero_le _
   ·
    exact Nat.le_of_eq (e3V l a)
 ·
  exact Nat.zero_le _
theorem d5U (s:PrT) (a:I .u64):(a8N s a).1.posters.length ≤ s.posters.length + 1:=by
 unfold a8N
 split
 ·
  split
  ·
   exact f5L _ _
  ·
   exact Nat.zero_le _
 ·
  exact Nat.zero_le _
theorem c8Q (s:PrT) (n:I .u64):(a7M s n).1.posters.length ≤ s.posters.length:=by
 unfold a7M
 split
 ·
  split
  ·
   exact Nat.le_refl _
  ·
   exact Nat.zero_le _
 ·
  exact Nat.zero_le _
end Sym

/- The machine of the reference: what a transaction does. -/
namespace Sym
open Go
noncomputable abbrev g8W:Chg:=a0Y
noncomputable section
def f2D (e:I .i64):Rcp:=(I.of .i64 0,(e,(g8W,(Z_U,(Z_U,(I.of .u64 0,(Z_U,(Z_U,([],())))))))))
def txR (c:Chg) (price value:U) (l:List Msg):Rcp:=(I.of .i64 0,(I.of .i64 0,(c,(price,(value,(I.of .u64 0,(Z_U,(Z_U,(l,())))))))))
def c3X (c:Chg):I .u64:=c.1
def g3P (c:Chg):I .u64:=c.2.2.1
def g5Y (c:Chg):I .u64:=c.2.2.2.1
def cOut (c:Chg):Bool:=c.2.2.2.2.1
def c5Q (c:Chg):U:=c.2.2.2.2.2.2.1
def b9A (c:Chg):U:=c.2.2.2.2.2.2.2.1
def e4L (c:Chg):U:=c.2.2.2.2.2.2.2.2.1
def d2W (c:Chg):U:=c.2.2.2.2.2.2.2.2.2.1
def a5T (m:MS) (t:Txn):Chg × I .i64:=g4J (c3M t) (f4X t) (tEx t) (e5M t) (e5I t) (e1M m.bk) m.pr.1 m.pm
def f6B (a b:I .u64):I .u64:=((a8R K0 ((a,(b,())),())).getD ((I.of .u64 0,()),())).1.1
theorem f4T (a b:I .u64):a8R K0 ((a,(b,())),()) = some ((f6B a b,()),()):=(f1G a b).val ((I.of .u64 0,()),())
def d9D (m:MS) (a:I .u64) (c:Chg):LgR:=c7B m.v m.ac a 2 (c5Q c)
def d9O (m:MS) (a:I .u64) (c:Chg):LgR:=c7B (d9D m a c).2.1 (d9D m a c).2.2 a 1 (b9A c)
def d7M (m:MS) (a:I .u64) (c:Chg):LgR:=c7B (d9O m a c).2.1 (d9O m a c).2.2 a 0 (e4L c)
def d0D (m:MS) (a:I .u64) (c:Chg):LgR:=c7B (d7M m a c).2.1 (d7M m a c).2.2 a 3 (d2W c)
def d2V (m:MS) (a:I .u64) (c:Chg):List Ac:=(f6A (d0D m a c).2.2 a).2
theorem b6S (v:V4) (l:List Ac) (a:I .u64) (k:Nat) (n:U):(c7B v l a k n).2.2.length ≤ l.length + 1:=by
 unfold c7B
 split
 ·
  exact Nat.le_succ _
 ·
  split <;> exact c1A _ _ _
theorem e4I (l:List Ac) (a:I .u64):(f6A l a).2.length ≤ l.length + 1:=by
 unfold f6A
 split
 ·
  exact Nat.le_succ _
 ·
  split
  ·
   exact Nat.le_succ _
  ·
   exact d6X _ _
def e6F (m:MS) (t:Txn) (c:Chg) (q:PrT):MS :=
 { m with bk:=(m.bk.1,(m.bk.2.1,(I.add (f0G m.bk) (g5Y c),m.bk.2.2.2))),bl:=f6B m.bl (g3P c),pr:=q,v:=(d0D m (a3P t) c).2.1,ac:=d2V m (a3P t) c }
def g3V (m:MS) (t:Txn) (c:Chg) (price:U):Rcp × MS :=
 if I.neb (tTo t) (I.of .u64 18446744073709551615) = true then (txR c price (c8X t) [],{ m with ac:=(f3R m.ac (a3P t) (tTo t) (c8X t)).2 })
 else if (c8X t).val = 0 then (txR c price (c8X t) [],m)
 else (txR c price (c8X t) [c6E m (a3P t) (c8X t)],e7C { m with ac:=(e3B m.ac (a3P t) (c8X t)).2 } (a3P t) (c8X t))
def txS (m:MS) (t:Txn):Rcp × MS :=
 if I.neb (c3D m t).2 (I.of .i64 0) = true then (f2D (c3D m t).2,m)
 else if I.neb (a5T m t).2 (I.of .i64 0) = true then (f2D (a5T m t).2,m)
 else if I.neb (a7M m.pr (c3X (a5T m t).1)).2 (I.of .i64 0) = true then (f2D (I.of .i64 4),m)
 else if cOut (a5T m t).1 = true then (txR (a5T m t).1 (c3D m t).1 Z_U [],e6F m t (a5T m t).1 (a7M m.pr (c3X (a5T m t).1)).1)
 else if I.eqb (tTo t) (a3P t) = true then (txR (a5T m t).1 (c3D m t).1 Z_U [],e6F m t (a5T m t).1 (a7M m.pr (c3X (a5T m t).1)).1)
 else g3V (e6F m t (a5T m t).1 (a7M m.pr (c3X (a5T m t).1)).1) t (a5T m t).1 (c3D m t).1
def g3G (r:Rcp):((I .i64) × ((I .i64) × (a8X × (U × (U × ((I .u64) × (U × (U × (Unit × Unit))))))))):=(r.1,(r.2.1,(r.2.2.1,(r.2.2.2.1,(r.2.2.2.2.1,(r.2.2.2.2.2.1,(r.2.2.2.2.2.2.1,(r.2.2.2.2.2.2.2.1,((),())))))))))
theorem e5K {m:MS} {t:Txn} (h:I.neb (c3D m t).2 (I.of .i64 0) = false):(c3M t).length ≤ 4096:=by
 by_cases q:4096 < (c3M t).length
 ·
  unfold c3D at h
  rw [if_pos q] at h
  exact absurd h (by decide)
 ·
  omega
theorem g6L (m:MS) (t:Txn) (h:Sz 100000000 m) (ht:(c3M t).length ≤ 1073741824):a7T K0 ((t,()),m.h) = some (((txS m t).1,()),(txS m t).2.h):=by
 refine Wp.out (T:=fun o=>o = some (((txS m t).1,()),(txS m t).2.h)) ?_
 unfold a7T txS
 have hac:=h.ac
 refine Wp.optF (f7W m t (h.mono (by decide)) ht) ?_
 refine Wp.brn (fun h1=>?_) (fun h1=>?_)
 ·
  have h1:I.neb (c3D m t).2 (I.of .i64 0) = true:=h1
  rw [if_pos h1]; rfl
 ·
  have h1:I.neb (c3D m t).2 (I.of .i64 0) = false:=h1
  rw [if_neg (a8I h1)]
  have hd:=e5K h1
  have hcomp:=e0Y t.1 t.2.1 t.2.2.1 (f4X t) (tEx t) (c3M t) (c8X t) (e5M t) (e5I t) (e1M m.bk) m.pr.1 m.pm (by omega)
  refine Wp.optF hcomp ?_
  refine Wp.brn (fun h2=>?_) (fun h2=>?_)
  ·
   have h2:I.neb (a5T m t).2 (I.of .i64 0) = true:=h2
   rw [if_pos h2]; rfl
  ·
   have h2:I.neb (a5T m t).2 (I.of .i64 0) = false:=h2
   rw [if_neg (a8I h2)]
   refine Wp.optF (d9W m.pr (c3X (a5T m t).1) (by have:=h.pr; omega)) ?_
   refine Wp.brn (fun h3=>?_) (fun h3=>?_)
   ·
    have h3:I.neb (a7M m.pr (c3X (a5T m t).1)).2 (I.of .i64 0) = true:=h3
    rw [if_pos h3]; rfl
   ·
    have h3:I.neb (a7M m.pr (c3X (a5T m t).1)).2 (I.of .i64 0) = false:=h3
    rw [if_neg (a8I h3)]
    have l1:(d9D m (a3P t) (a5T m t).1).2.2.length ≤ m.ac.length + 1:=b6S _ _ _ _ _
    have l2:(d9O m (a3P t) (a5T m t).1).2.2.length ≤ (d9D m (a3P t) (a5T m t).1).2.2.length + 1:=b6S _ _ _ _ _
    have l3:(d7M m (a3P t) (a5T m t).1).2.2.length ≤ (d9O m (a3P t) (a5T m t).1).2.2.length + 1:=b6S _ _ _ _ _
    have l4:(d0D m (a3P t) (a5T m t).1).2.2.length ≤ (d7M m (a3P t) (a5T m t).1).2.2.length + 1:=b6S _ _ _ _ _
    have l5:(d2V m (a3P t) (a5T m t).1).length ≤ (d0D m (a3P t) (a5T m t).1).2.2.length + 1:=e4I _ _
    have p1:=d5T m.v m.ac (a3P t) 2 (by omega) (c5Q (a5T m t).1) (by omega)
    have p2:=d5T (d9D m (a3P t) (a5T m t).1).2.1 (d9D m (a3P t) (a5T m t).1).2.2 (a3P t) 1 (by omega) (b9A (a5T m t).1) (by omega)
    have p3:=d5T (d9O m (a3P t) (a5T m t).1).2.1 (d9O m (a3P t) (a5T m t).1).2.2 (a3P t) 0 (by omega) (e4L (a5T m t).1) (by omega)
    have p4:=d5T (d7M m (a3P t) (a5T m t).1).2.1 (d7M m (a3P t) (a5T m t).1).2.2 (a3P t) 3 (by omega) (d2W (a5T m t).1) (by omega)
    have p5:=g3Y (d0D m (a3P t) (a5T m t).1).2.1 (d0D m (a3P t) (a5T m t).1).2.2 (a3P t) (by omega)
    refine Wp.optF p1 (Wp.optF p2 (Wp.optF p3 (Wp.optF p4 (Wp.optF p5 (Wp.optF (f4T m.bl (g3P (a5T m t).1)) ?_)))))
    refine Wp.jn (fun x=>(cOut (a5T m t).1 = false∧I.eqb (tTo t) (a3P t) = false)∧x = ((),((e6F m t (a5T m t).1 (a7M m.pr (c3X (a5T m t).1)).1).j,(lgH (d0D m (a3P t) (a5T m t).1).2.1,(d2V m (a3P t) (a5T m t).1,(m.ms,(esH m.bal,(m.rt,(m.cl,(m.ba,(t,(g3G (f2D (I.of .i64 0)),([],(g3G (txR (a5T m t).1 (c3D m t).1 Z_U []),([],())))))))))))))) ) ?_ ?_
    ·
     rintro x ⟨⟨g1,g2⟩,rfl⟩
     rw [if_neg (a8I g1),if_neg (a8I g2)]
     unfold g3V
     refine Wp.brn (fun h4=>?_) (fun h4=>?_)
     ·
      have h4:I.neb (tTo t) (I.of .u64 18446744073709551615) = true:=h4
      rw [if_pos h4]
      have p6:=g4I (d0D m (a3P t) (a5T m t).1).2.1 (d2V m (a3P t) (a5T m t).1) (a3P t) (tTo t) (c8X t) (by omega)
      exact Wp.optF p6 rfl
     ·
      have h4:I.neb (tTo t) (I.of .u64 18446744073709551615) = false:=h4
      rw [if_neg (a8I h4)]
      refine Wp.optF (c1H (c8X t)) ?_
      refine Wp.brn (fun h5=>?_) (fun h5=>?_)
      ·
       have h5:decide ((c8X t).val = 0) = false:=g0R h5
       rw [if_neg (of_decide_eq_false h5)]
       have p6:=g2S (d0D m (a3P t) (a5T m t).1).2.1 (d2V m (a3P t) (a5T m t).1) (a3P t) (c8X t) (by omega)
       refine Wp.optF p6 ?_
       have l6:(e3B (d2V m (a3P t) (a5T m t).1) (a3P t) (c8X t)).2.length ≤ (d2V m (a3P t) (a5T m t).1).length + 1:=by
        unfold e3B
        split
        ·
         exact Nat.le_succ _
        ·
         exact c1A _ _ _
       have p7:=e9F { e6F m t (a5T m t).1 (a7M m.pr (c3X (a5T m t).1)).1 with ac:=(e3B (d2V m (a3P t) (a5T m t).1) (a3P t) (c8X t)).2 } (a3P t) (c8X t) ⟨by show (e3B _ _ _).2.length ≤ _; omega,Nat.le_trans h.ms (by decide),Nat.le_trans h.rt (by decide),Nat.le_trans h.cl (by decide),Nat.le_trans h.ba (by decide),by have:=c8Q m.pr (c3X (a5T m t).1); have:=h.pr; show (a7M m.pr (c3X (a5T m t).1)).1.posters.length ≤ _; omega⟩
       refine Wp.optF p7 (Wp.brnT (b9K _ _ (by show 0 + 1 ≤ _; omega)) rfl)
      ·
       have h5:decide ((c8X t).val = 0) = true:=g2L h5
       rw [if_pos (of_decide_eq_true h5)]
       rfl
    ·
     intro j hj
     refine Wp.brn (fun h4=>?_) (fun h4=>?_)
     ·
      have h4:cOut (a5T m t).1 = true:=h4
      rw [if_pos h4]; rfl
     ·
      have h4:cOut (a5T m t).1 = false:=h4
      refine Wp.brn (fun h5=>?_) (fun h5=>?_)
      ·
       have h5:I.eqb (tTo t) (a3P t) = true:=h5
       rw [if_neg (a8I h4),if_pos h5]; rfl
      ·
       have h5:I.eqb (tTo t) (a3P t) = false:=h5
       exact hj _ ⟨⟨h4,h5⟩,rfl⟩
end
end Sym

/- The machine of the reference: reports. -/
namespace Sym
open Go
noncomputable def e1E (s:MS × List Msg) (p:Pay):MS × List Msg:=(e7C { s.1 with v:=(f5K s.1.v 2 p.2.1).2 } p.1 p.2.1,s.2 ++ [c6E s.1 p.1 p.2.1])
noncomputable def c3B (m:MS) (l:List Pay):MS × List Msg:=l.foldl e1E (m,[])
theorem d4E (m:MS) (l:List Pay) (i:Nat) (h:i < l.length):c3B m (l.take (i + 1)) = e1E (c3B m (l.take i)) (rdL d2J l i):=by
 unfold c3B
 rw [List.take_add_one,List.getElem?_eq_getElem h,a4P _ _ _ h,List.foldl_append]
 rfl
theorem e6M {k:Nat} {s:MS × List Msg} (h:Sz k s.1) (p:Pay):Sz (k + 1) (e1E s p).1 :=
 e3P (m:={ s.1 with v:=(f5K s.1.v 2 p.2.1).2 }) ⟨h.ac,h.ms,h.rt,h.cl,h.ba,h.pr⟩ _ _
theorem d6Y {k:Nat} {m:MS} (h:Sz k m) (l:List Pay):∀ i,i ≤ l.length→Sz (k + i) (c3B m (l.take i)).1∧(c3B m (l.take i)).2.length = i
 | 0,_=>⟨h,rfl⟩
 | i + 1,hi=>by
  obtain ⟨h1,h2⟩:=d6Y h l i (by omega)
  rw [d4E m l i (by omega)]
  refine ⟨e6M h1 _,?_⟩
  show (_ ++ [_]).length = _
  rw [List.length_append,h2]
  rfl
noncomputable def g8N (o:g0H) (paid:U) (l:List Msg):Rcp:=(I.of .i64 0,(I.of .i64 0,(g8W,(Z_U,(Z_U,(o.1,(o.2.1,(paid,(l,())))))))))
noncomputable def d0M (m:MS) (r:RepT):PrT × g0H × I .i64:=b3H m.pr m.pm (e6P m.v 2) r m.bk.2.1
noncomputable def c1S (m:MS) (r:RepT):List Pay:=(d0M m r).2.1.2.2.1
noncomputable def g7J (m:MS) (r:RepT):MS × List Msg:=c3B { m with pr:=(d0M m r).1 } (c1S m r)
noncomputable def f1Y (m:MS) (r:RepT):Rcp × MS :=
 if I.neb (d0M m r).2.2 (I.of .i64 0) = true then (f2D (d0M m r).2.2,m)
 else (g8N (d0M m r).2.1 (c5E (b2A ((c1S m r).map amt))).1 (g7J m r).2,(g7J m r).1)
theorem g4U (m:MS) (r:RepT) (h:Sz 100000000 m):a5S K0 ((r,()),m.h) = some (((f1Y m r).1,()),(f1Y m r).2.h):=by
 refine Wp.out (T:=fun o=>o = some (((f1Y m r).1,()),(f1Y m r).2.h)) ?_
 unfold a5S f1Y
 refine Wp.optF (f3K m.ac m.v 2 (by omega)) ?_
 refine Wp.optF (e7D m.pr m.pm (e6P m.v 2) r m.bk.2.1 (by have:=h.pr; omega)) ?_
 refine Wp.brn (fun h1=>?_) (fun h1=>?_)
 ·
  have h1:I.neb (d0M m r).2.2 (I.of .i64 0) = true:=h1
  rw [if_pos h1]; rfl
 ·
  have h1:I.neb (d0M m r).2.2 (I.of .i64 0) = false:=h1
  rw [if_neg (a8I h1)]
  have hlen:=e8T m.pr m.pm (e6P m.v 2) r m.bk.2.1
  have hpl:(c1S m r).length ≤ 64:=hlen.2
  refine Wp.optF (e8F (l:=c1S m r) (by omega)) ?_
  have hsz0:Sz 100000000 { m with pr:=(d0M m r).1 }:=⟨h.ac,h.ms,h.rt,h.cl,h.ba,Nat.le_trans hlen.1 (by decide)⟩
  refine Wp.iter (fun x=>∃ i,i ≤ (c1S m r).length∧x = ((i6 i,()),((c3B { m with pr:=(d0M m r).1 } ((c1S m r).take i)).1.j,(lgH (c3B { m with pr:=(d0M m r).1 } ((c1S m r).take i)).1.v,((c3B { m with pr:=(d0M m r).1 } ((c1S m r).take i)).1.ac,((c3B { m with pr:=(d0M m r).1 } ((c1S m r).take i)).1.ms,(esH (c3B { m with pr:=(d0M m r).1 } ((c1S m r).take i)).1.bal,((c3B { m with pr:=(d0M m r).1 } ((c1S m r).take i)).1.rt,((c3B { m with pr:=(d0M m r).1 } ((c1S m r).take i)).1.cl,((c3B { m with pr:=(d0M m r).1 } ((c1S m r).take i)).1.ba,(g3G (f2D (I.of .i64 0)),([],((d0M m r).2.1,(g3G (g8N (d0M m r).2.1 (c5E (b2A ((c1S m r).map amt))).1 []),((c3B { m with pr:=(d0M m r).1 } ((c1S m r).take i)).2,()))))))))))))))) (fun x=>(c1S m r).length - x.1.1.val.toNat) ?_ ⟨0,by omega,rfl⟩ (by rw [a7L]; show (c1S m r).length - 0 < _; omega)
  rintro x ⟨i,hi,rfl⟩
  obtain ⟨hsz,hml⟩:=d6Y hsz0 (c1S m r) i hi
  have hnx:=fun hc=>d4E { m with pr:=(d0M m r).1 } (c1S m r) i hc
  have hfin:i = (c1S m r).length→c3B { m with pr:=(d0M m r).1 } ((c1S m r).take i) = g7J m r:=by
   intro e
   rw [e,List.take_length]
   rfl
  generalize c3B { m with pr:=(d0M m r).1 } ((c1S m r).take i) = s at *
  obtain ⟨m',ml⟩:=s
  have e:I.ltb (i6 i) (I.ofNat .i64 (a0K (c1S m r))) = decide (i < (c1S m r).length):=a2U (by omega) (by show (c1S m r).length < _; omega)
  refine Wp.brn (fun hc=>?_) (fun hc=>?_)
  ·
   have hc:I.ltb (i6 i) (I.ofNat .i64 (a0K (c1S m r))) = true:=hc
   rw [e] at hc
   have hc:=of_decide_eq_true hc
   have hin:inB (i6 i) (a0K (c1S m r)) = true:=a3F hc (by omega)
   refine Wp.brnT hin ?_
   have hrd:rdL d2J (c1S m r) (I.nat (i6 i)) = rdL d2J (c1S m r) i:=by rw [a3A (by omega)]
   have w1:=g2R m'.v m'.ac 2 (by omega) (rdL d2J (c1S m r) (I.nat (i6 i))).2.1
   refine Wp.optF w1 (Wp.brnT hin (Wp.brnT hin ?_))
   have w2:=e9F { m' with v:=(f5K m'.v 2 (rdL d2J (c1S m r) (I.nat (i6 i))).2.1).2 } (rdL d2J (c1S m r) (I.nat (i6 i))).1 (rdL d2J (c1S m r) (I.nat (i6 i))).2.1 ((show Sz (100000000 + i) { m' with v:=(f5K m'.v 2 (rdL d2J (c1S m r) (I.nat (i6 i))).2.1).2 } from ⟨hsz.ac,hsz.ms,hsz.rt,hsz.cl,hsz.ba,hsz.pr⟩).mono (by omega))
   refine Wp.optF w2 (Wp.brnT (b9K _ _ (by show ml.length + 1 ≤ _; have:ml.length = i:=hml; omega)) ?_)
   have hn:I.add (i6 i) (I.of .i64 1) = i6 (i + 1):=a3S (m:=1) (by omega)
   refine Wp.again ⟨i + 1,by omega,?_⟩ ?_
   ·
    rw [hnx hc]
    show ((I.add (i6 i) (I.of .i64 1),()),_) = _
    rw [hn,hrd]
    rfl
   ·
    show (c1S m r).length - (I.add (i6 i) (I.of .i64 1)).val.toNat < (c1S m r).length - (i6 i).val.toNat
    rw [hn,a0W (by omega),a0W (by omega)]; omega
  ·
   have hc:I.ltb (i6 i) (I.ofNat .i64 (a0K (c1S m r))) = false:=hc
   rw [e] at hc
   have hc:=of_decide_eq_false hc
   refine Wp.done ?_
   rw [← hfin (by omega)]
   rfl
end Sym

/- The machine of the reference: the other steps; a step. -/
namespace Sym
open Go
abbrev b7X:Type:=a1H
def a5M (s:b7X):I .i64:=s.1
def sTx (s:b7X):Txn:=s.2.1
def g5B (s:b7X):RepT:=s.2.2.1
def d9Y (s:b7X):I .u64:=s.2.2.2.1
def f8S (s:b7X):I .i64:=s.2.2.2.2.1
def c7M (s:b7X):U:=s.2.2.2.2.2.1
def d2C (s:b7X):I .u64:=s.2.2.2.2.2.2.1
def e1A (s:b7X):Clm:=s.2.2.2.2.2.2.2.1
noncomputable def f6J (p:Prm) (k:I .i64) (n:U):Prm × I .i64 :=
 (((a7I K0 ((p,(k,(n,()))),())).getD ((a5N,(I.of .i64 0,())),())).1.1,((a7I K0 ((p,(k,(n,()))),())).getD ((a5N,(I.of .i64 0,())),())).1.2.1)
theorem g2B (p:Prm) (k:I .i64) (n:U):a7I K0 ((p,(k,(n,()))),()) = some (((f6J p k n).1,((f6J p k n).2,())),()):=(f9Y p k n).val ((a5N,(I.of .i64 0,())),())
def f1Z (b:I .u64) (p:Prm) (sec:I .u64):I .u64:=I.of .u64 ((b.nat - p.1.nat * sec.nat:Nat):Int)
theorem g3Q (b:I .u64) (p:Prm) (sec:I .u64):b1M K0 ((b,(p.1,(sec,()))),()) = some ((f1Z b p sec,()),()):=by
 refine Wp.out (T:=fun o=>o = some ((f1Z b p sec,()),())) ?_
 unfold b1M
 exact Wp.optF (e7K b p.1 sec) rfl
noncomputable def f3W (m:MS) (s:b7X):I .i64 × MS :=
 if I.eqb (a5M s) (I.of .i64 3) = true then
  (if I.eqb (c3Z m.bk (d9Y s) (f1Z m.bl m.pm (d9Y s)) m.pm).2 (I.of .i64 0) = true then ((c3Z m.bk (d9Y s) (f1Z m.bl m.pm (d9Y s)) m.pm).2,{ m with bk:=(c3Z m.bk (d9Y s) (f1Z m.bl m.pm (d9Y s)) m.pm).1,bl:=f1Z m.bl m.pm (d9Y s) })
   else ((c3Z m.bk (d9Y s) (f1Z m.bl m.pm (d9Y s)) m.pm).2,m))
 else if I.eqb (a5M s) (I.of .i64 4) = true then
  (if I.eqb (f6J m.pm (f8S s) (c7M s)).2 (I.of .i64 0) = true then ((f6J m.pm (f8S s) (c7M s)).2,{ m with pm:=(f6J m.pm (f8S s) (c7M s)).1 }) else ((f6J m.pm (f8S s) (c7M s)).2,m))
 else if I.eqb (a5M s) (I.of .i64 5) = true then
  (if I.eqb (a8N m.pr (d2C s)).2 (I.of .i64 0) = true then ((a8N m.pr (d2C s)).2,{ m with pr:=(a8N m.pr (d2C s)).1 }) else ((a8N m.pr (d2C s)).2,m))
 else if I.eqb (a5M s) (I.of .i64 6) = true then
  (if (d2C s).val = 0 ∨ (d2C s).val = 18446744073709551615 ∨ (c7M s).val = 0 then (I.of .i64 2,m)
   else if m.bal.val + (c7M s).val < U.top then ((c7D m.v m.ac (d2C s) (c7M s)).1,{ m with bal:=(g1J m.bal (c7M s)).2,v:=(c7D m.v m.ac (d2C s) (c7M s)).2.1,ac:=(c7D m.v m.ac (d2C s) (c7M s)).2.2 })
   else (I.of .i64 4,m))
 else ((c9Q m.bal m.rt m.cl m.ba (e1A s)).1,{ m with bal:=(c9Q m.bal m.rt m.cl m.ba (e1A s)).2.1,cl:=(c9Q m.bal m.rt m.cl m.ba (e1A s)).2.2.1,ba:=(c9Q m.bal m.rt m.cl m.ba (e1A s)).2.2.2 })
theorem g2Q (m:MS) (s:b7X) (h:Sz 100000000 m) (hp:(d2I (e1A s)).length ≤ 1073741824):a6E K0 ((s,()),m.h) = some (((f3W m s).1,()),(f3W m s).2.h):=by
 refine Wp.out (T:=fun o=>o = some (((f3W m s).1,()),(f3W m s).2.h)) ?_
 unfold a6E f3W
 have hac:=h.ac
 refine Wp.brn (fun k3=>?_) (fun k3=>?_)
 ·
  have k3:I.eqb (a5M s) (I.of .i64 3) = true:=k3
  rw [if_pos k3]
  refine Wp.optF (g3Q m.bl m.pm (d9Y s)) (Wp.optF (f3U m.bk (d9Y s) (f1Z m.bl m.pm (d9Y s)) m.pm) ?_)
  refine Wp.brn (fun q=>?_) (fun q=>?_)
  ·
   have q:I.eqb (c3Z m.bk (d9Y s) (f1Z m.bl m.pm (d9Y s)) m.pm).2 (I.of .i64 0) = true:=q
   rw [if_pos q]; rfl
  ·
   have q:I.eqb (c3Z m.bk (d9Y s) (f1Z m.bl m.pm (d9Y s)) m.pm).2 (I.of .i64 0) = false:=q
   rw [if_neg (a8I q)]; rfl
 have k3:I.eqb (a5M s) (I.of .i64 3) = false:=k3
 rw [if_neg (a8I k3)]
 refine Wp.brn (fun k4=>?_) (fun k4=>?_)
 ·
  have k4:I.eqb (a5M s) (I.of .i64 4) = true:=k4
  rw [if_pos k4]
  refine Wp.optF (g2B m.pm (f8S s) (c7M s)) ?_
  refine Wp.brn (fun q=>?_) (fun q=>?_)
  ·
   have q:I.eqb (f6J m.pm (f8S s) (c7M s)).2 (I.of .i64 0) = true:=q
   rw [if_pos q]; rfl
  ·
   have q:I.eqb (f6J m.pm (f8S s) (c7M s)).2 (I.of .i64 0) = false:=q
   rw [if_neg (a8I q)]; rfl
 have k4:I.eqb (a5M s) (I.of .i64 4) = false:=k4
 rw [if_neg (a8I k4)]
 refine Wp.brn (fun k5=>?_) (fun k5=>?_)
 ·
  have k5:I.eqb (a5M s) (I.of .i64 5) = true:=k5
  rw [if_pos k5]
  refine Wp.optF (d6L m.pr (d2C s) (by have:=h.pr; omega)) ?_
  refine Wp.brn (fun q=>?_) (fun q=>?_)
  ·
   have q:I.eqb (a8N m.pr (d2C s)).2 (I.of .i64 0) = true:=q
   rw [if_pos q]; rfl
  ·
   have q:I.eqb (a8N m.pr (d2C s)).2 (I.of .i64 0) = false:=q
   rw [if_neg (a8I q)]; rfl
 have k5:I.eqb (a5M s) (I.of .i64 5) = false:=k5
 rw [if_neg (a8I k5)]
 refine Wp.brn (fun k6=>?_) (fun k6=>?_)
 ·
  have k6:I.eqb (a5M s) (I.of .i64 6) = true:=k6
  rw [if_pos k6]
  refine Wp.jn (fun x=>(¬ ((d2C s).val = 0 ∨ (d2C s).val = 18446744073709551615 ∨ (c7M s).val = 0))∧x = ((),(m.j,(lgH m.v,(m.ac,(m.ms,(esH m.bal,(m.rt,(m.cl,(m.ba,(s,()))))))))))) ?_ ?_
  ·
   rintro x ⟨h1,rfl⟩
   rw [if_neg h1]
   obtain ⟨r1,e1,B1⟩:=a1I m.bal
   obtain ⟨r2,e2,B2⟩:=a1I (c7M s)
   obtain ⟨r3,e3,B3⟩:=b1W B1 B2 (e2L B1) (e2L B2)
   have e4:=d3D B3 (f2F B3 (by have:=U.lt m.bal; have:=U.lt (c7M s); omega))
   refine Wp.optF e1 (Wp.optF e2 (Wp.optF e3 (Wp.optF e4 ?_)))
   by_cases hc:m.bal.val + (c7M s).val < U.top
   ·
    rw [if_pos hc]
    refine Wp.brnF (by rw [decide_eq_true hc]; rfl) ?_
    exact Wp.optF (g4D m.bal (c7M s) m.rt m.cl m.ba) (Wp.optF (f9L m.v m.ac (d2C s) (c7M s) (by omega)) rfl)
   ·
    rw [if_neg hc]
    exact Wp.brnT (by rw [decide_eq_false hc]; rfl) rfl
  ·
   intro j hj
   refine Wp.brn (fun h1=>?_) (fun h1=>?_)
   ·
    have h1:(d2C s).val = 0:=iff_eqb.1 h1
    rw [if_pos (.inl h1)]; rfl
   ·
    have h1:(d2C s).val ≠ 0:=niff_eqb.1 h1
    refine Wp.brn (fun h2=>?_) (fun h2=>?_)
    ·
     have h2:(d2C s).val = (I.of .u64 18446744073709551615).val:=iff_eqb.1 h2
     rw [if_pos (.inr (.inl h2))]; rfl
    ·
     have h2:(d2C s).val ≠ (I.of .u64 18446744073709551615).val:=niff_eqb.1 h2
     have c:(I.of .u64 18446744073709551615).val = 18446744073709551615:=rfl
     refine Wp.optF (c1H (c7M s)) ?_
     refine Wp.brn (fun h3=>?_) (fun h3=>?_)
     ·
      have h3:=of_decide_eq_true h3
      rw [if_pos (.inr (.inr h3))]; rfl
     ·
      have h3:=of_decide_eq_false h3
      exact hj _ ⟨by omega,rfl⟩
 have k6:I.eqb (a5M s) (I.of .i64 6) = false:=k6
 rw [if_neg (a8I k6)]
 exact Wp.optF (f3S m.bal m.rt m.cl m.ba (e1A s) (by have:=h.rt; omega) (by have:=h.cl; omega) (by have:=h.ba; omega) hp) rfl
noncomputable def c9F (m:MS):MS:=if I.neb (I.add m.steps (I.of .u64 1)) (I.of .u64 0) = true then { m with steps:=I.add m.steps (I.of .u64 1) } else m
def g0K (k:I .i64) (r:Rcp):Rcp:=(k,r.2)
noncomputable def e7G (m:MS) (s:b7X):Rcp × MS :=
 if ¬ (1 ≤ (a5M s).val∧(a5M s).val ≤ 7) then (f2D (I.of .i64 17),c9F m)
 else if I.eqb (a5M s) (I.of .i64 1) = true then (g0K (a5M s) (txS (c9F m) (sTx s)).1,(txS (c9F m) (sTx s)).2)
 else if I.eqb (a5M s) (I.of .i64 2) = true then (g0K (a5M s) (f1Y (c9F m) (g5B s)).1,(f1Y (c9F m) (g5B s)).2)
 else (g0K (a5M s) (f2D (f3W (c9F m) s).1),(f3W (c9F m) s).2)
theorem e7T {n:Nat} {m:MS} (h:Sz n m):Sz n (c9F m):=by
 unfold c9F
 split
 ·
  exact ⟨h.ac,h.ms,h.rt,h.cl,h.ba,h.pr⟩
 ·
  exact h
theorem f6W (m:MS) (s:b7X) (h:Sz 100000000 m) (hd:(c3M (sTx s)).length ≤ 1073741824) (hp:(d2I (e1A s)).length ≤ 1073741824):a3Z K0 ((s,()),m.h) = some (((e7G m s).1,()),(e7G m s).2.h):=by
 refine Wp.out (T:=fun o=>o = some (((e7G m s).1,()),(e7G m s).2.h)) ?_
 unfold a3Z
 refine Wp.jn (fun x=>x = ((),((c9F m).j,(lgH (c9F m).v,((c9F m).ac,((c9F m).ms,(esH (c9F m).bal,((c9F m).rt,((c9F m).cl,((c9F m).ba,(s,(g3G (f2D (I.of .i64 0)),([],())))))))))))) ) ?_ ?_
 ·
  rintro x rfl
  unfold e7G
  have hz:=e7T h
  have hk:a8F K0 ((a5M s,()),()) = some ((decide (1 ≤ (a5M s).val∧(a5M s).val ≤ 7),()),()):=by
   refine Wp.out (T:=fun o=>o = some ((decide (1 ≤ (a5M s).val∧(a5M s).val ≤ 7),()),())) ?_
   unfold a8F
   refine Wp.brn (fun q=>?_) (fun q=>?_)
   ·
    have q:(I.of .i64 1).val ≤ (a5M s).val:=iff_leb.1 q
    have q:1 ≤ (a5M s).val:=q
    show some ((I.leb (a5M s) (I.of .i64 7),()),()) = _
    unfold I.leb
    by_cases g:(a5M s).val ≤ 7
    ·
     rw [decide_eq_true (show (a5M s).val ≤ (I.of .i64 7).val from g),decide_eq_true ⟨q,g⟩]
    ·
     rw [decide_eq_false (show ¬ (a5M s).val ≤ (I.of .i64 7).val from g),decide_eq_false (fun hh=>g hh.2)]
   ·
    have q:(a5M s).val < (I.of .i64 1).val:=niff_leb.1 q
    have q:(a5M s).val < 1:=q
    rw [decide_eq_false (by omega)]
    rfl
  refine Wp.optF hk ?_
  by_cases g:1 ≤ (a5M s).val∧(a5M s).val ≤ 7
  ·
   rw [if_neg (by simp [g])]
   refine Wp.brnF (by rw [decide_eq_true g]; rfl) ?_
   refine Wp.brn (fun q=>?_) (fun q=>?_)
   ·
    have q:I.eqb (a5M s) (I.of .i64 1) = true:=q
    rw [if_pos q]
    exact Wp.optF (g6L (c9F m) (sTx s) hz hd) rfl
   ·
    have q:I.eqb (a5M s) (I.of .i64 1) = false:=q
    rw [if_neg (a8I q)]
    refine Wp.brn (fun q=>?_) (fun q=>?_)
    ·
     have q:I.eqb (a5M s) (I.of .i64 2) = true:=q
     rw [if_pos q]
     exact Wp.optF (g4U (c9F m) (g5B s) hz) rfl
    ·
     have q:I.eqb (a5M s) (I.of .i64 2) = false:=q
     rw [if_neg (a8I q)]
     exact Wp.optF (g2Q (c9F m) s hz hp) rfl
  ·
   rw [if_pos g]
   exact Wp.brnT (by rw [decide_eq_false g]; rfl) rfl
 ·
  intro j hj
  refine Wp.brn (fun q=>?_) (fun q=>?_)
  ·
   have q:I.neb (I.add m.steps (I.of .u64 1)) (I.of .u64 0) = true:=q
   have e:c9F m = { m with steps:=I.add m.steps (I.of .u64 1) }:=by unfold c9F; rw [if_pos q]
   exact hj _ (by rw [e]; rfl)
  ·
   have q:I.neb (I.add m.steps (I.of .u64 1)) (I.of .u64 0) = false:=q
   have e:c9F m = m:=by unfold c9F; rw [if_neg (a8I q)]
   exact hj _ (by rw [e]; rfl)
end Sym

/- The machine's lists stay small. -/
namespace Sym
open Go
theorem f2H (l:List Pay) (a:I .u64) (n:U):(f7R l a n).length ≤ l.length + 1:=by
 unfold f7R
 split
 ·
  rw [d6F]; omega
 ·
  simp
theorem f5Y (b:U) (r:List Hs) (cl:List (I .u64)) (ba:List Pay) (c:Clm):(c9Q b r cl ba c).2.2.1.length ≤ cl.length + 1∧(c9Q b r cl ba c).2.2.2.length ≤ ba.length + 1:=by
 unfold c9Q
 split
 ·
  exact ⟨Nat.le_succ _,Nat.le_succ _⟩
 split
 ·
  exact ⟨Nat.le_succ _,Nat.le_succ _⟩
 split
 ·
  exact ⟨Nat.le_succ _,Nat.le_succ _⟩
 split
 ·
  exact ⟨Nat.le_succ _,Nat.le_succ _⟩
 split
 ·
  exact ⟨Nat.le_succ _,Nat.le_succ _⟩
 split
 ·
  exact ⟨by simp,f2H _ _ _⟩
 ·
  exact ⟨Nat.le_succ _,Nat.le_succ _⟩
theorem f0M (v:V4) (l:List Ac) (a:I .u64) (n:U):(c7D v l a n).2.2.length ≤ l.length + 1:=by
 unfold c7D
 split
 ·
  exact Nat.le_succ _
 split
 ·
  exact d0L _ _ _
 ·
  exact Nat.le_succ _
theorem f4O (l:List Ac) (a b:I .u64) (n:U):(f3R l a b n).2.length ≤ l.length + 2:=by
 unfold f3R
 have h:=c1A l a n
 split
 ·
  show l.length ≤ _; omega
 split
 ·
  have:=d0L (c1I l a n) b n
  show (c7P _ _ _).length ≤ _
  omega
 ·
  show (c1I _ _ _).length ≤ _; omega
theorem f5R (l:List Ac) (a:I .u64) (n:U):(e3B l a n).2.length ≤ l.length + 1:=by
 unfold e3B
 split
 ·
  exact Nat.le_succ _
 ·
  exact c1A _ _ _
def a5Z (r:Rcp):List Msg:=r.2.2.2.2.2.2.2.2.1
theorem d6G {n:Nat} {m:MS} (h:Sz n m) (t:Txn) (c:Chg) (u:I .u64):Sz (n + 5) (e6F m t c (a7M m.pr u).1):=by
 have l1:(d9D m (a3P t) c).2.2.length ≤ m.ac.length + 1:=b6S _ _ _ _ _
 have l2:(d9O m (a3P t) c).2.2.length ≤ (d9D m (a3P t) c).2.2.length + 1:=b6S _ _ _ _ _
 have l3:(d7M m (a3P t) c).2.2.length ≤ (d9O m (a3P t) c).2.2.length + 1:=b6S _ _ _ _ _
 have l4:(d0D m (a3P t) c).2.2.length ≤ (d7M m (a3P t) c).2.2.length + 1:=b6S _ _ _ _ _
 have l5:(d2V m (a3P t) c).length ≤ (d0D m (a3P t) c).2.2.length + 1:=e4I _ _
 have hac:=h.ac
 have hu:=c8Q m.pr u
 have hpr:=h.pr
 exact ⟨by show (d2V m (a3P t) c).length ≤ _; omega,Nat.le_add_right_of_le h.ms,Nat.le_add_right_of_le h.rt,Nat.le_add_right_of_le h.cl,Nat.le_add_right_of_le h.ba,by show (a7M m.pr u).1.posters.length ≤ _; omega⟩
theorem f8E {n:Nat} {m:MS} (h:Sz n m) (t:Txn) (c:Chg) (p:U):Sz (n + 2) (g3V m t c p).2∧(a5Z (g3V m t c p).1).length ≤ 1:=by
 unfold g3V
 have hac:=h.ac
 split
 ·
  have:=f4O m.ac (a3P t) (tTo t) (c8X t)
  exact ⟨⟨by show (f3R _ _ _ _).2.length ≤ _; omega,Nat.le_add_right_of_le h.ms,Nat.le_add_right_of_le h.rt,Nat.le_add_right_of_le h.cl,Nat.le_add_right_of_le h.ba,Nat.le_add_right_of_le h.pr⟩,Nat.zero_le _⟩
 split
 ·
  exact ⟨h.mono (by omega),Nat.zero_le _⟩
 ·
  have:=f5R m.ac (a3P t) (c8X t)
  refine ⟨e3P (k:=n + 1) (m:={ m with ac:=(e3B m.ac (a3P t) (c8X t)).2 }) ⟨by show (e3B _ _ _).2.length ≤ _; omega,Nat.le_succ_of_le h.ms,Nat.le_succ_of_le h.rt,Nat.le_succ_of_le h.cl,Nat.le_succ_of_le h.ba,Nat.le_succ_of_le h.pr⟩ _ _,Nat.le_refl _⟩
theorem g3L {n:Nat} {m:MS} (h:Sz n m) (t:Txn):Sz (n + 7) (txS m t).2∧(a5Z (txS m t).1).length ≤ 1:=by
 unfold txS
 split
 ·
  exact ⟨h.mono (by omega),Nat.zero_le _⟩
 split
 ·
  exact ⟨h.mono (by omega),Nat.zero_le _⟩
 split
 ·
  exact ⟨h.mono (by omega),Nat.zero_le _⟩
 split
 ·
  exact ⟨(d6G h t _ _).mono (by omega),Nat.zero_le _⟩
 split
 ·
  exact ⟨(d6G h t _ _).mono (by omega),Nat.zero_le _⟩
 ·
  exact f8E (d6G h t _ _) t _ _
theorem f7T {n:Nat} {m:MS} (h:Sz n m) (r:RepT):Sz (n + 128) (f1Y m r).2∧(a5Z (f1Y m r).1).length ≤ 64:=by
 unfold f1Y
 have hlen:=e8T m.pr m.pm (e6P m.v 2) r m.bk.2.1
 have hpl:(c1S m r).length ≤ 64:=hlen.2
 split
 ·
  exact ⟨h.mono (by omega),Nat.zero_le _⟩
 ·
  have h0:Sz (n + 64) { m with pr:=(d0M m r).1 }:=⟨Nat.le_add_right_of_le h.ac,Nat.le_add_right_of_le h.ms,Nat.le_add_right_of_le h.rt,Nat.le_add_right_of_le h.cl,Nat.le_add_right_of_le h.ba,Nat.le_trans hlen.1 (by omega)⟩
  obtain ⟨h1,h2⟩:=d6Y h0 (c1S m r) (c1S m r).length (Nat.le_refl _)
  rw [List.take_length] at h1 h2
  exact ⟨h1.mono (by omega),by show (c3B _ _).2.length ≤ _; omega⟩
theorem f9C {n:Nat} {m:MS} (h:Sz n m) (s:b7X):Sz (n + 1) (f3W m s).2:=by
 have h1:Sz (n + 1) m:=h.mono (by omega)
 unfold f3W
 split
 ·
  split
  ·
   exact ⟨h1.ac,h1.ms,h1.rt,h1.cl,h1.ba,h1.pr⟩
  ·
   exact h1
 split
 ·
  split
  ·
   exact ⟨h1.ac,h1.ms,h1.rt,h1.cl,h1.ba,h1.pr⟩
  ·
   exact h1
 split
 ·
  split
  ·
   have:=d5U m.pr (d2C s)
   have:=h.pr
   exact ⟨h1.ac,h1.ms,h1.rt,h1.cl,h1.ba,by show (a8N m.pr (d2C s)).1.posters.length ≤ _; omega⟩
  ·
   exact h1
 split
 ·
  split
  ·
   exact h1
  split
  ·
   have:=f0M m.v m.ac (d2C s) (c7M s)
   have:=h.ac
   exact ⟨by show (c7D _ _ _ _).2.2.length ≤ _; omega,h1.ms,h1.rt,h1.cl,h1.ba,h1.pr⟩
  ·
   exact h1
 ·
  obtain ⟨g1,g2⟩:=f5Y m.bal m.rt m.cl m.ba (e1A s)
  have:=h.cl
  have:=h.ba
  exact ⟨h1.ac,h1.ms,h1.rt,by show (c9Q _ _ _ _ _).2.2.1.length ≤ _; omega,by show (c9Q _ _ _ _ _).2.2.2.length ≤ _; omega,h1.pr⟩
theorem e9C {n:Nat} {m:MS} (h:Sz n m) (s:b7X):Sz (n + 128) (e7G m s).2∧(a5Z (e7G m s).1).length ≤ 64:=by
 unfold e7G
 have hz:=e7T h
 split
 ·
  exact ⟨hz.mono (by omega),Nat.zero_le _⟩
 split
 ·
  obtain ⟨g1,g2⟩:=g3L hz (sTx s)
  exact ⟨g1.mono (by omega),Nat.le_trans g2 (by decide)⟩
 split
 ·
  exact f7T hz (g5B s)
 ·
  exact ⟨(f9C hz s).mono (by omega),Nat.zero_le _⟩
end Sym

/- Steps that a number determines: they exist, and are small. -/
namespace Sym
open Go
structure StG (calm:Bool) (n:Nat) (s:b7X):Prop where
 data:(c3M (sTx s)).length ≤ 1000
 prf:(d2I (e1A s)).length ≤ n + 1
 dep:calm = true→I.eqb (a5M s) (I.of .i64 6) = true→(c7M s).val < 1152921504606846976
theorem g5G (x:I .u64):U.val (x,((I.of .u64 0),((I.of .u64 0),((I.of .u64 0),())))) = x.nat:=by
 show x.nat + 18446744073709551616 * (0 + 18446744073709551616 * (0 + 18446744073709551616 * 0)) = x.nat
 omega
theorem e3T {a m:I .i64} (h:0 ≤ a.val) (h2:0 < m.val):(I.conv (k:=.i64) .u64 (I.rem a m)).nat < m.val.toNat:=by
 have e:=b6V h h2
 have h3:=Int.emod_nonneg a.val (b:=m.val) (by omega)
 have h4:=Int.emod_lt_of_pos a.val h2
 have hm:=b3S m
 have hv:(I.conv (k:=.i64) .u64 (I.rem a m)).val = a.val % m.val:=by
  unfold I.conv
  rw [e]
  exact b8F ⟨h3,by omega⟩
 have:=a2G (I.conv (k:=.i64) .u64 (I.rem a m))
 omega
theorem c3S {a:I .i64} (h:0 ≤ a.val):U.val ((I.add (I.of .u64 4503599627370496) (I.conv (k:=.i64) .u64 (I.rem a (I.of .i64 100000)))),((I.of .u64 0),((I.of .u64 0),((I.of .u64 0),())))) < 1152921504606846976:=by
 rw [g5G]
 have h1:(I.conv (k:=.i64) .u64 (I.rem a (I.of .i64 100000))).nat < 100000:=e3T h (by decide)
 have c:(I.of .u64 4503599627370496).nat = 4503599627370496:=rfl
 rw [c4F _ _ (by omega)]
 omega
theorem e5W {a:I .i64} (h:0 ≤ a.val):U.val ((I.conv (k:=.i64) .u64 (I.rem a (I.of .i64 50))),((I.of .u64 0),((I.of .u64 0),((I.of .u64 0),())))) < 1152921504606846976:=by
 rw [g5G]
 have h1:(I.conv (k:=.i64) .u64 (I.rem a (I.of .i64 50))).nat < 50:=e3T h (by decide)
 omega
def f5N (calm:Bool) (n:Nat) (o:Option ((⟨[.pl a1G],[]⟩:Tm).D)):Prop:=∃ s:b7X,o = some ((s,()),())∧StG calm n s
theorem e5Q (a:I .i64) (b:I .u64) (c:Bool) (n:Nat) (h:0 ≤ a.val):f5N c n (b0P K0 ((a,(b,(c,()))),())):=by
 refine Wp.out (T:=fun o=>f5N c n o) ?_
 unfold b0P
 have z:([]:List (I .u8)).length ≤ 1000:=Nat.zero_le _
 have z2:([]:List Hs).length ≤ n + 1:=Nat.zero_le _
 refine Wp.brn (fun _=>⟨_,rfl,z,z2,fun _ _=>c3S h⟩) (fun _=>?_)
 refine Wp.brn (fun _=>⟨_,rfl,z,z2,fun _ _=>c3S h⟩) (fun _=>?_)
 refine Wp.brn (fun _=>⟨_,rfl,z,z2,fun _ _=>c3S h⟩) (fun _=>?_)
 refine Wp.brn (fun _=>⟨_,rfl,z,z2,fun _ _=>e5W h⟩) (fun _=>?_)
 refine Wp.brn (fun _=>?_) (fun _=>⟨_,rfl,z,z2,fun _ _=>c3S h⟩)
 refine Wp.brn (fun hc=>⟨_,rfl,z,z2,fun g _=>?_⟩) (fun _=>⟨_,rfl,z,z2,fun _ _=>c3S h⟩)
 have hc:c = false:=g0R hc
 rw [hc] at g
 cases g
theorem f2O (a:I .i64) (c:Bool) (n:Nat) (h:0 ≤ a.val):f5N c n (b2V K0 ((a,()),())):=by
 refine Wp.out (T:=fun o=>f5N c n o) ?_
 unfold b2V
 have z:([]:List (I .u8)).length ≤ 1000:=Nat.zero_le _
 have z2:([]:List Hs).length ≤ n + 1:=Nat.zero_le _
 have e:=b6V (b:=I.of .i64 12) h (by decide)
 have c12:(I.of .i64 12).val = 12:=rfl
 refine Wp.brnT (iff_inB.2 (by show 0 ≤ (I.rem a (I.of .i64 12)).val∧(I.rem a (I.of .i64 12)).val < ((12:Nat):Int); rw [e,c12]; omega)) ?_
 refine Wp.jn (fun x=>(c3M (sTx x.2.2.1)).length ≤ 1000∧(d2I (e1A x.2.2.1)).length ≤ n + 1∧I.eqb (a5M x.2.2.1) (I.of .i64 6) = false) ?_ ?_
 ·
  rintro ⟨x0,x1,s,⟨⟩⟩ ⟨h1,h2,h3⟩
  have h3:I.eqb (a5M s) (I.of .i64 6) = false:=h3
  refine Wp.brn (fun _=>⟨_,rfl,h1,h2,fun _ g=>?_⟩) (fun _=>⟨_,rfl,h1,h2,fun _ g=>?_⟩)
  ·
   have g:I.eqb (a5M s) (I.of .i64 6) = true:=g
   rw [h3] at g; cases g
  ·
   have g:I.eqb (a5M s) (I.of .i64 6) = true:=g
   rw [h3] at g; cases g
 ·
  intro j hj
  exact Wp.brn (fun _=>hj _ ⟨z,z2,rfl⟩) (fun _=>hj _ ⟨z,z2,rfl⟩)
theorem f1E (a:I .i64) (m:MS):∃ r:RepT,b1J K0 ((a,()),m.h) = some ((r,()),m.h):=by
 refine Wp.out (T:=fun o=>∃ r:RepT,o = some ((r,()),m.h)) ?_
 unfold b1J
 have hnz:I.nz (I.add (I.mn (I.sub m.bk.2.1 m.pr.2.2.1) (I.of .u64 1099511627776)) (I.of .u64 2)) = true:=by
  have h1:=g4K (I.sub m.bk.2.1 m.pr.2.2.1) (I.of .u64 1099511627776)
  have c1:(I.of .u64 1099511627776).nat = 1099511627776:=rfl
  have c2:(I.of .u64 2).nat = 2:=rfl
  have h2:=c4F (I.mn (I.sub m.bk.2.1 m.pr.2.2.1) (I.of .u64 1099511627776)) (I.of .u64 2) (by omega)
  refine iff_nz.2 ?_
  have:=a2G (I.add (I.mn (I.sub m.bk.2.1 m.pr.2.2.1) (I.of .u64 1099511627776)) (I.of .u64 2))
  omega
 refine Wp.brnT hnz ?_
 exact Wp.brn (fun _=>⟨_,rfl⟩) (fun _=>Wp.brn (fun _=>⟨_,rfl⟩) (fun _=>Wp.brn (fun _=>⟨_,rfl⟩) (fun _=>⟨_,rfl⟩)))
theorem e6U (a:I .i64):Tot (b1R K0 ((a,()),())):=by
 refine Wp.out (T:=fun o=>Tot o) ?_
 unfold b1R
 refine Wp.iter (fun x=>∃ i,i ≤ 8∧x.1.2.1 = i6 i) (fun x=>8 - x.1.2.1.val.toNat) ?_ ⟨0,by omega,rfl⟩ (by rw [a7L]; show 8 - 0 < _; decide)
 rintro ⟨⟨b,j,⟨⟩⟩,x2⟩ ⟨q,hq,e2⟩
 simp only at e2
 subst e2
 refine Wp.brn (fun hc=>?_) (fun hc=>Wp.done ⟨_,rfl⟩)
 have hc:q < 8:=by have:=iff_ltb.1 hc; simp only [a0W (show q < 9223372036854775808 by omega),show (I.of .i64 8).val = 8 from rfl] at this; omega
 have hn:I.add (i6 q) (I.of .i64 1) = i6 (q + 1):=a3S (m:=1) (by omega)
 refine Wp.brnT (c2Q _) (Wp.brnT (a3F (by omega) (by omega)) ?_)
 refine Wp.again ⟨q + 1,by omega,hn⟩ ?_
 show 8 - (I.add (i6 q) (I.of .i64 1)).val.toNat < 8 - (i6 q).val.toNat
 rw [hn,a0W (by omega),a0W (by omega)]; omega
end Sym

/- Steps that a number determines, continued. -/
namespace Sym
open Go
theorem e3E {a:I .i64} {n:Nat} (h:0 ≤ a.val) (hn:0 < n) (hn2:n < 9223372036854775808):∃ k,I.rem a (i6 n) = i6 k∧k < n:=by
 have e:=b6V (b:=i6 n) h (by rw [a0W hn2]; omega)
 rw [a0W hn2] at e
 have h3:=Int.emod_nonneg a.val (b:=(n:Int)) (by omega)
 have h4:=Int.emod_lt_of_pos a.val (b:=(n:Int)) (by omega)
 refine ⟨(a.val % (n:Int)).toNat,?_,by omega⟩
 apply I.ext'
 rw [e,a0W (by omega)]
 omega
theorem f0S {a m:I .i64} (h:0 ≤ a.val) (h2:0 < m.val):0 ≤ (I.quo a m).val:=by
 rw [b8H h h2]
 exact Int.ediv_nonneg h (by omega)
theorem d2S (a:I .i64) (b:I .u64) (m:MS) (h:0 ≤ a.val) (hs:Sz 100000000 m):∃ t:Txn,a7U K0 ((a,(b,())),m.h) = some ((t,()),m.h)∧(c3M t).length ≤ 1000:=by
 refine Wp.out (T:=fun o=>∃ t:Txn,o = some ((t,()),m.h)∧(c3M t).length ≤ 1000) ?_
 unfold a7U
 have hac:=hs.ac
 refine Wp.optF (d7N m.ac (lgH m.v).2 b (by omega)) ?_
 obtain ⟨k6,e6,hk6⟩:=e3E (n:=6) h (by omega) (by omega)
 refine Wp.brnT (by show inB (I.rem a (i6 6)) 6 = true; rw [e6]; exact a3F hk6 (by omega)) ?_
 obtain ⟨r1,e1,B1⟩:=a1I (e1M m.bk)
 obtain ⟨r2,e2,B2⟩:=a1O (I.conv (k:=.i64) .u64 (I.add (I.of .i64 1) (I.rem a (I.of .i64 3))))
 obtain ⟨r3,e3,B3⟩:=b2D B1 B2 (e2L B1) (d7F B2)
 have h3:(e1M m.bk).val * (I.conv (k:=.i64) .u64 (I.add (I.of .i64 1) (I.rem a (I.of .i64 3)))).nat < P40:=by
  have h3:=Nat.mul_le_mul (Nat.le_of_lt (U.lt (e1M m.bk))) (Nat.le_of_lt (a3M (I.conv (k:=.i64) .u64 (I.add (I.of .i64 1) (I.rem a (I.of .i64 3))))))
  exact Nat.lt_of_le_of_lt h3 (by decide +kernel)
 have e4:=c2L B3 (lenK' B3 h3)
 refine Wp.optF e1 (Wp.optF e2 (Wp.optF e3 (Wp.optF e4 ?_)))
 obtain ⟨k5,e5,hk5⟩:=e3E (a:=I.quo a (I.of .i64 5)) (n:=5) (f0S h (by decide)) (by omega) (by omega)
 have e5:I.rem (I.quo a (I.of .i64 5)) (I.of .i64 5) = i6 k5:=e5
 refine Wp.brnT (by show inB' (I.rem (I.quo a (I.of .i64 5)) (I.of .i64 5)) 4 = true; rw [e5]; exact i6_inB' (by omega) (by omega)) ?_
 obtain ⟨out,ho,hol⟩:=c6F (a4I (a :: ((I.quo a (I.of .i64 3)) :: ((I.quo a (I.of .i64 7)) :: ((I.quo a (I.of .i64 11)) :: [])))) 0 (I.nat (I.rem (I.quo a (I.of .i64 5)) (I.of .i64 5)))) (by rw [b6F]; show min _ (4 - 0) ≤ _; omega)
 have hol:out.length ≤ 1000:=by
  rw [b6F] at hol
  have:∀ z,min z ((a :: ((I.quo a (I.of .i64 3)) :: ((I.quo a (I.of .i64 7)) :: ((I.quo a (I.of .i64 11)) :: [])))).length - 0) ≤ 4:=fun z=>by show min z (4 - 0) ≤ 4; omega
  have:=this (I.nat (I.rem (I.quo a (I.of .i64 5)) (I.of .i64 5)))
  omega
 refine Wp.optF ho ?_
 refine Wp.brn (fun _=>⟨_,rfl,hol⟩) (fun _=>Wp.brn (fun _=>⟨_,rfl,hol⟩) (fun _=>Wp.brn (fun _=>⟨_,rfl,hol⟩) (fun _=>Wp.brn (fun _=>⟨_,rfl,hol⟩) (fun _=>Wp.brn (fun _=>⟨_,rfl,hol⟩) (fun _=>Wp.brn (fun _=>Wp.tot ⟨_,rfl⟩ fun _=>Wp.tot ⟨_,rfl⟩ fun _=>⟨_,rfl,hol⟩) (fun _=>Wp.brn (fun _=>⟨_,rfl,hol⟩) (fun _=>⟨_,rfl,hol⟩)))))))
theorem f4S (a:I .i64) (m:MS) (h:0 ≤ a.val) (hs:Sz 100000000 m):∃ c:Clm,b2R K0 ((a,()),m.h) = some ((c,()),m.h)∧(d2I c).length ≤ m.ms.length + 1:=by
 refine Wp.out (T:=fun o=>∃ c:Clm,o = some ((c,()),m.h)∧(d2I c).length ≤ m.ms.length + 1) ?_
 unfold b2R
 have hl:=hs.ms
 have e0:I.eqb (I.ofNat .i64 (a0K m.ms)) (I.of .i64 0) = decide (m.ms.length = 0):=d7Z (n:=m.ms.length) (m:=0) (by omega) (by omega)
 refine Wp.brn (fun _=>⟨_,rfl,Nat.zero_le _⟩) (fun h0=>?_)
 have h0:I.eqb (I.ofNat .i64 (a0K m.ms)) (I.of .i64 0) = false:=h0
 rw [e0] at h0
 have h0:=of_decide_eq_false h0
 have nz6:∀ n:Nat,n ≠ 0→n < 9223372036854775808→I.nz (i6 n) = true:=fun n h1 h2=>iff_nz.2 (by rw [a0W h2]; omega)
 refine Wp.brnT (nz6 m.ms.length h0 (by omega)) ?_
 obtain ⟨k,ek,hk⟩:=e3E (n:=m.ms.length) h (by omega) (by omega)
 have ek:I.rem a (I.ofNat .i64 (a0K m.ms)) = i6 k:=ek
 have es:I.sub (I.ofNat .i64 (a0K m.ms)) (I.rem a (I.ofNat .i64 (a0K m.ms))) = i6 (m.ms.length - k):=by rw [ek]; exact c1O (n:=m.ms.length) (by omega) (by omega)
 refine Wp.brnT (by show I.nz (I.sub (I.ofNat .i64 (a0K m.ms)) (I.rem a (I.ofNat .i64 (a0K m.ms)))) = true; rw [es]; exact nz6 _ (by omega) (by omega)) ?_
 obtain ⟨q,eq,hq⟩:=e3E (a:=I.quo a (I.of .i64 7)) (n:=m.ms.length - k) (f0S h (by decide)) (by omega) (by omega)
 have en:I.add (I.add (I.rem a (I.ofNat .i64 (a0K m.ms))) (I.of .i64 1)) (I.rem (I.quo a (I.of .i64 7)) (I.sub (I.ofNat .i64 (a0K m.ms)) (I.rem a (I.ofNat .i64 (a0K m.ms))))) = i6 (k + 1 + q):=by
  rw [es,eq,ek,show I.add (i6 k) (I.of .i64 1) = i6 (k + 1) from a3S (m:=1) (by omega)]
  exact a3S (by omega)
 obtain ⟨y,hy,bb,o,rfl,ho⟩:=e0E m.ms (I.rem a (I.ofNat .i64 (a0K m.ms))) (k + 1 + q) (by omega) (by omega)
 rw [← en] at hy
 have hin:inB (I.rem a (I.ofNat .i64 (a0K m.ms))) (a0K m.ms) = true:=by rw [ek]; exact a3F hk (by omega)
 have ho1:o.length ≤ m.ms.length + 1:=by omega
 refine Wp.optF hy (Wp.brnT hin (Wp.brnT hin ?_))
 refine Wp.brn (fun _=>?_) (fun _=>Wp.brn (fun _=>⟨_,rfl,ho1⟩) (fun _=>Wp.brn (fun _=>?_) (fun _=>Wp.brn (fun _=>?_) (fun _=>⟨_,rfl,ho1⟩))))
 ·
  obtain ⟨r1,f1,B1⟩:=a1I (rdL a0L m.ms (I.nat (I.rem a (I.ofNat .i64 (a0K m.ms))))).2.2.1
  obtain ⟨r2,f2,B2⟩:=a1O (I.of .u64 1)
  obtain ⟨r3,f3,B3⟩:=b1W B1 B2 (e2L B1) (d7F B2)
  refine Wp.optF f1 (Wp.optF f2 (Wp.optF f3 (Wp.optF (y:=((((I.of .u64 18446744073709551615),((I.of .u64 18446744073709551615),((I.of .u64 18446744073709551615),((I.of .u64 18446744073709551615),())))),()),())) rfl ?_)))
  obtain ⟨r5,f5,B5⟩:=a1I (((I.of .u64 18446744073709551615),((I.of .u64 18446744073709551615),((I.of .u64 18446744073709551615),((I.of .u64 18446744073709551615),())))))
  have hlt:=U.lt (rdL a0L m.ms (I.nat (I.rem a (I.ofNat .i64 (a0K m.ms))))).2.2.1
  have c1:(I.of .u64 1).nat = 1:=rfl
  obtain ⟨y6,f6,r6,rfl,B6⟩:=e1G B3 B5 (f2F B3 (by rw [c1]; have:U.top = 115792089237316195423570985008687907853269984665640564039457584007913129639936:=rfl; omega)) (e2L B5)
  have f7:=c2L B6 (f2F B6 (by rw [c1]; have:U.top = 115792089237316195423570985008687907853269984665640564039457584007913129639936:=rfl; omega))
  exact Wp.optF f5 (Wp.optF f6 (Wp.optF f7 ⟨_,rfl,ho1⟩))
 ·
  refine Wp.tot (e6U a) fun y1=>Wp.brnT (b9K _ _ (by show o.length + 1 ≤ _; omega)) ⟨_,rfl,?_⟩
  show (a2E o [_]).length ≤ _
  rw [a8C]
  show o.length + 1 ≤ _
  omega
 ·
  have e3:I.add (I.ofNat .i64 (a0K m.ms)) (I.of .i64 3) = i6 (m.ms.length + 3):=a3S (n:=m.ms.length) (m:=3) (by omega)
  refine Wp.brnT (by show I.nz (I.add (I.ofNat .i64 (a0K m.ms)) (I.of .i64 3)) = true; rw [e3]; exact nz6 _ (by omega) (by omega)) ⟨_,rfl,ho1⟩
end Sym
